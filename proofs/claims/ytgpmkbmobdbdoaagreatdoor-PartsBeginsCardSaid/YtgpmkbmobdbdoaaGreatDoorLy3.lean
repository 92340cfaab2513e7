/- For every list of uploads, every number and every part, the law PartsLays returns true and leaves its arguments as they read before. Part 24 of 25. -/
import Derived.Test.YtgpmkbmobdbdoaaGreatDoorLy2
import Derived.Test.YtgpmkbmobdbdoaaGreatDoorLy1
import Derived.Deep.RegionHeld3
import Derived.Laws.CopyOwn
import Derived.Lib.Overlaps
import Derived.Deep.RegionLaw
-- Rx3
namespace Go.Proofs.YtgpmkbmobdbdoaaGreatDoor.Q
open Go.RowKit Go.Proofs.YtgpmkbmobdbdoaaGreatDoorW.PrintWords Go.Proofs.YtgpmkbmobdbdoaaGreatDoorW.PrintLast Go.Proofs.YtgpmkbmobdbdoaaGreatDoorW.PrintMore
attribute [local go_sem] max2_int min2_int max_two min_two max_three min_three max_four min_four   -- for this text's walks alone
set_option linter.unusedVariables false
set_option linter.unusedSimpArgs false

/-! ### parts_upload_fine: function 34 -/
mutual
def parts_upload_fine.j0 : Nat → Bool → Int → ByteArray → List (S25) → Option (Bool)
  | 0, _, _, _, _ => none
  | k + 1, x20, x123000, x123001, x123002 => if x20 = true then (some false) else (parts_upload_fine.l0 k x123002 (x123002.length : Int) 0 x123000 x123001 x123002)
def parts_upload_fine.l0 : Nat → List (S25) → Int → Int → Int → ByteArray → List (S25) → Option (Bool)
  | 0, _, _, _, _, _, _ => none
  | k + 1, x22, x23, x24, x123000, x123001, x123002 => if x24 < x23 then (if 0 ≤ x24 then (if x24 < (x22.length : Int) then ((parts_may.f ((rd_T25 x22 x24).f0) ((rd_T25 x22 x24).f1)).bind fun t127 => (if t127 = true then (if x24 > 0 then (if 0 ≤ (wrap64 (x24 - 1)) then (if (wrap64 (x24 - 1)) < (x123002.length : Int) then (if ((rd_T25 x123002 (wrap64 (x24 - 1))).f0) ≥ ((rd_T25 x22 x24).f0) then (some false) else (parts_upload_fine.l0 k x22 x23 (wrap64 (x24 + 1)) x123000 x123001 x123002)) else (none)) else (none)) else (parts_upload_fine.l0 k x22 x23 (wrap64 (x24 + 1)) x123000 x123001 x123002)) else (some false))) else (none)) else (none)) else (some true)
end
def parts_upload_fine.f (k : Nat) (a0_0 : Int) (a0_1 : ByteArray) (l0_2 : List (S25)) : Option (Bool) := (parts_numbered.f a0_0).bind fun t123 => (if t123 = true then ((name_Key.f a0_1).bind fun t124 => (if t124 = true then (parts_upload_fine.j0 k (decide ((l0_2.length : Int) > 30)) a0_0 a0_1 l0_2) else (parts_upload_fine.j0 k true a0_0 a0_1 l0_2))) else (parts_upload_fine.j0 k true a0_0 a0_1 l0_2))
theorem parts_upload_fine.mono_l : ∀ k, (∀ y0 y1 y2 y3, LeO (parts_upload_fine.j0 k y0 y1 y2 y3) (parts_upload_fine.j0 (k + 1) y0 y1 y2 y3)) ∧ (∀ y0 y1 y2 y3 y4 y5, LeO (parts_upload_fine.l0 k y0 y1 y2 y3 y4 y5) (parts_upload_fine.l0 (k + 1) y0 y1 y2 y3 y4 y5))
  | 0 => ⟨fun _ _ _ _ r h => by simp [parts_upload_fine.j0] at h, fun _ _ _ _ _ _ r h => by simp [parts_upload_fine.l0] at h⟩
  | k + 1 => by
    obtain ⟨ih0, ih1⟩ := parts_upload_fine.mono_l k
    refine ⟨?_, ?_⟩
    · intro y0 y1 y2 y3
      unfold parts_upload_fine.j0
      repeat' first
      | (with_reducible exact ih0 _ _ _ _)
      | (with_reducible exact ih1 _ _ _ _ _ _)
      | (with_reducible exact LeO.refl _)
      | (with_reducible exact LeO.none _)
      | (with_reducible refine LeO.ite ?_ ?_)
      | (with_reducible refine LeO.bind ?_ (fun _ => ?_))
      | exact ih0 _ _ _ _
      | exact ih1 _ _ _ _ _ _
      | exact LeO.none _
      | refine LeO.ite ?_ ?_
      | refine LeO.bind ?_ (fun _ => ?_)
    · intro y0 y1 y2 y3 y4 y5
      unfold parts_upload_fine.l0
      repeat' first
      | (with_reducible exact ih0 _ _ _ _)
      | (with_reducible exact ih1 _ _ _ _ _ _)
      | (with_reducible exact LeO.refl _)
      | (with_reducible exact LeO.none _)
      | (with_reducible refine LeO.ite ?_ ?_)
      | (with_reducible refine LeO.bind ?_ (fun _ => ?_))
      | exact ih0 _ _ _ _
      | exact ih1 _ _ _ _ _ _
      | exact LeO.none _
      | refine LeO.ite ?_ ?_
      | refine LeO.bind ?_ (fun _ => ?_)
theorem parts_upload_fine.mono : ∀ a0 a1 a2 k, LeO (parts_upload_fine.f k a0 a1 a2) (parts_upload_fine.f (k + 1) a0 a1 a2) := by
  intro a0 a1 a2 k
  obtain ⟨ih0, ih1⟩ := parts_upload_fine.mono_l k
  unfold parts_upload_fine.f
  repeat' first
      | (with_reducible exact ih0 _ _ _ _)
      | (with_reducible exact ih1 _ _ _ _ _ _)
      | (with_reducible exact LeO.refl _)
      | (with_reducible exact LeO.none _)
      | (with_reducible refine LeO.ite ?_ ?_)
      | (with_reducible refine LeO.bind ?_ (fun _ => ?_))
      | exact ih0 _ _ _ _
      | exact ih1 _ _ _ _ _ _
      | exact LeO.none _
      | refine LeO.ite ?_ ?_
      | refine LeO.bind ?_ (fun _ => ?_)
def parts_upload_fine.T6 : Bool × List (List Nat × List Nat) := (true, [([], []), ([0], [0]), ([1], [1]), ([2, 1], [2]), ([3], [3]), ([4, 3], [3, 4]), ([5, 3, 3], [3, 5]), ([6], [6]), ([7, 6], [6, 7]), ([6], [6]), ([9, 6], [6, 9]), ([8, 10, 6], [6, 8, 10]), ([11, 6], [6, 11]), ([12, 6], [6, 12]), ([6], [6]), ([14, 6], [6, 14]), ([13, 15, 6], [6, 13, 15]), ([6, 16, 3], [3, 6, 16]), ([3, 17], [3, 17])])
def parts_upload_fine.B6 : List Nat := [0, 1, 3, 7, 15, 31, 63, 127, 255, 127, 639, 2047, 4095, 8191, 127, 16511, 65535, 131071, 262143]
theorem parts_upload_fine.tab6 : rtab .any (opsOf Tryz.f34 6) = parts_upload_fine.T6 := by kernel_rfl
theorem parts_upload_fine.bits6 : waitsOk parts_upload_fine.T6.2 parts_upload_fine.B6 = true := by kernel_rfl
set_option maxHeartbeats 8000000 in
set_option maxRecDepth 100000 in
theorem parts_upload_fine.calls (k : Nat) (a0_0 : Int) (a0_1 : ByteArray) (A0_2 : Option Addr) (c0_2 : Nat) (l0_2 : List (S25)) (r : Bool) (w : World) (hr0_2 : Kd.C k25 w A0_2 l0_2.length l0_2) (hc0_2 : l0_2.length ≤ c0_2) (h : parts_upload_fine.f k a0_0 a0_1 l0_2 = some r) :
    Calls Tryz.prog 34 #[.agg #[.int .u64 a0_0, .string a0_1, .slice A0_2 l0_2.length c0_2]] w fun e w' => e = .returned (.bool r) ∧ Below w.heap.size w w' := by
  have hu65 := Tryz.underlying65
  have hu25 := Tryz.underlying25
  have HR0_2 := Aside0.mk hr0_2
  have HC0_2 := Aside0.mk hc0_2
  clear hr0_2 hc0_2
  have HB := Aside0.mk (Below.refl w.heap.size w)
  have H : ((parts_numbered.f a0_0).bind fun t123 => (if t123 = true then ((name_Key.f a0_1).bind fun t124 => (if t124 = true then (parts_upload_fine.j0 k (decide ((l0_2.length : Int) > 30)) a0_0 a0_1 l0_2) else (parts_upload_fine.j0 k true a0_0 a0_1 l0_2))) else (parts_upload_fine.j0 k true a0_0 a0_1 l0_2))) = some r := h
  clear h
  have HC2 := Aside0.mk H
  clear H
  go_enter Tryz.func34, Tryz.ntmps34
  go_upto_region 1 with (first | ((with_reducible refine gate_dst (N := 1) rfl ?_); (try (refine gate_guard (by rfl) ?_; dsimp only)); refine box_event ?hg (N := 1) ?hd (cs := #[.int .u64 a0_0, .string a0_1, .slice A0_2 l0_2.length c0_2]) (t := 65) ?hr ?_; (case hd => rfl); (case hg => rfl); (case hr => first | (go_simp; done) | (go_simp; rfl)); intro gb122 hg w3 hbox hb; have n0_ := Aside0.mk (below_step (by repeat (first | (with_reducible first | exact HB.out | apply below_alloc | apply pw_below_drewN | apply below_drew1) | exact HB.out)) hb); have n1_ := Aside0.mk (hbox); have n2_ := Aside0.mk ((by rw [hg]; exact (below_size (by repeat (first | (with_reducible first | exact HB.out | apply below_alloc | apply pw_below_drewN | apply below_drew1) | exact HB.out))) : w.heap.size ≤ gb122)); have n3_ := Aside0.mk ((by rw [hg]; exact (below_size (by repeat (first | (with_reducible first | exact HB.out | apply below_alloc | apply pw_below_drewN | apply below_drew1) | exact HB.out))) : w.heap.size ≤ gb122)); clear HB; have HB := n0_; have BK122 := n1_; have GW122 := n2_; have GE122 := n3_; clear n0_ n1_ n2_ n3_; clear hb hbox hg))
  (try simp only [Act.put, List.setIfInBounds_toArray, List.set_cons_zero, List.set_cons_succ])
  go_cut [20] (fun v20 wc => ∃ (kq : Nat) (x20_1 : Bool), v20 = .bool x20_1 ∧ Aside0 (parts_upload_fine.j0 kq x20_1 a0_0 a0_1 l0_2 = some r) ∧ Aside0 (kq ≤ k) ∧ Aside0 (wc.heap[gb122]? = some (.cells #[.int .u64 a0_0, .string a0_1, (.slice A0_2 l0_2.length c0_2)] 65 (0, 0))) ∧ Aside0 (Below w.heap.size w wc))
  case first =>
    have H := HC2.out
    clear HC2
    replace H := Option.bind_eq_some_iff.mp H
    obtain ⟨t123, A40, H⟩ := H
    replace H : (if t123 = true then ((name_Key.f a0_1).bind fun t124 => (if t124 = true then (parts_upload_fine.j0 k (decide ((l0_2.length : Int) > 30)) a0_0 a0_1 l0_2) else (parts_upload_fine.j0 k true a0_0 a0_1 l0_2))) else (parts_upload_fine.j0 k true a0_0 a0_1 l0_2)) = some r := H
    have A4 := Aside0.mk A40
    clear A40
    by_cases c5 : t123 = true
    · subst c5
      have H1 : ((name_Key.f a0_1).bind fun t124 => (if t124 = true then (parts_upload_fine.j0 k (decide ((l0_2.length : Int) > 30)) a0_0 a0_1 l0_2) else (parts_upload_fine.j0 k true a0_0 a0_1 l0_2))) = some r := by rw [if_pos rfl] at H; exact H
      clear H
      have H := H1
      clear H1
      replace H := Option.bind_eq_some_iff.mp H
      obtain ⟨t124, A60, H⟩ := H
      replace H : (if t124 = true then (parts_upload_fine.j0 k (decide ((l0_2.length : Int) > 30)) a0_0 a0_1 l0_2) else (parts_upload_fine.j0 k true a0_0 a0_1 l0_2)) = some r := H
      have A6 := Aside0.mk A60
      clear A60
      by_cases c7 : t124 = true
      · subst c7
        have H1 : (parts_upload_fine.j0 k (decide ((l0_2.length : Int) > 30)) a0_0 a0_1 l0_2) = some r := by rw [if_pos rfl] at H; exact H
        clear H
        have H := H1
        clear H1
        have H' := Aside0.mk H
        clear H
        have hcz8_0 : w3.cell? ⟨gb122, 0, none⟩ = some (.int .u64 a0_0) := (blk_cell BK122.out 0).trans rfl
        have hcz8_1 : w3.cell? ⟨gb122, 1, none⟩ = some (.string a0_1) := (blk_cell BK122.out 1).trans rfl
        have hcz8_2 : w3.cell? ⟨gb122, 2, none⟩ = some (.slice A0_2 l0_2.length c0_2) := (blk_cell BK122.out 2).trans rfl
        have hfz8_0 := blk_frozen BK122.out 0
        have hfz8_1 := blk_frozen BK122.out 1
        have hfz8_2 := blk_frozen BK122.out 2
        go_wp2_with (first | ((with_reducible refine gate_callee (f := 37) rfl ?_); refine goesL_ (some 7) rfl rfl Tryz.func37 (by kernel_rfl) rfl #[.int .u64 a0_0] rfl (by (try simp only [List.map_toArray, List.map_cons, List.map_nil]); first | done | rfl | (simp only [List.length_drop, List.length_take]; rfl)) ?_; (with_reducible refine (parts_numbered.calls a0_0 true _ A4.out).mono ?_); rintro e w' ⟨rfl, ⟨nd, rfl⟩⟩; refine ⟨_, rfl, ?_⟩) | (go_at_call 38; (with_reducible refine (name_Key.calls a0_1 true _ A6.out).mono ?_); rintro e w9 ⟨rfl, hb⟩; have n0_ := Aside0.mk (blk_below (g := gb122) (o := .cells #[.int .u64 a0_0, .string a0_1, .slice A0_2 l0_2.length c0_2] 65 (0, 0)) (by (with_reducible repeat (first | refine blk_drewN ?_ _ | refine blk_drew ?_ | refine blk_alloc ?_ _)); exact BK122.out) hb); have n1_ := Aside0.mk (below_step (by repeat (first | (with_reducible first | exact HB.out | apply below_alloc | apply pw_below_drewN | apply below_drew1 | refine below_set ?_ GE122.out) | exact HB.out)) hb); clear BK122; clear HB; have BK122 := n0_; have HB := n1_; clear n0_ n1_; (try clear hb); (try clear hb2); (try clear hk); (try clear hi); have hcz10_0 : w9.cell? ⟨gb122, 0, none⟩ = some (.int .u64 a0_0) := (blk_cell BK122.out 0).trans rfl; have hcz10_1 : w9.cell? ⟨gb122, 1, none⟩ = some (.string a0_1) := (blk_cell BK122.out 1).trans rfl; have hcz10_2 : w9.cell? ⟨gb122, 2, none⟩ = some (.slice A0_2 l0_2.length c0_2) := (blk_cell BK122.out 2).trans rfl; have hfz10_0 := blk_frozen BK122.out 0; have hfz10_1 := blk_frozen BK122.out 1; have hfz10_2 := blk_frozen BK122.out 2))
        go_meet
        case rel => exact ⟨_, (decide ((l0_2.length : Int) > 30)), (by first | rfl | (simp; done) | (simp [*]; done)), H', ⟨by first | omega | exact Nat.le_refl _⟩, ⟨by (with_reducible repeat (first | refine blk_drewN ?_ _ | refine blk_drew ?_ | refine blk_alloc ?_ _)); exact BK122.out⟩, ⟨by repeat (first | (with_reducible first | exact HB.out | apply below_alloc | apply pw_below_drewN | apply below_drew1 | refine below_set ?_ GE122.out) | exact HB.out)⟩⟩
      · replace c7 := Bool.eq_false_iff.mpr c7
        subst c7
        have H1 : (parts_upload_fine.j0 k true a0_0 a0_1 l0_2) = some r := by rw [if_neg (show ¬ (false = true) by decide)] at H; exact H
        clear H
        have H := H1
        clear H1
        have H' := Aside0.mk H
        clear H
        have hcz11_0 : w3.cell? ⟨gb122, 0, none⟩ = some (.int .u64 a0_0) := (blk_cell BK122.out 0).trans rfl
        have hcz11_1 : w3.cell? ⟨gb122, 1, none⟩ = some (.string a0_1) := (blk_cell BK122.out 1).trans rfl
        have hcz11_2 : w3.cell? ⟨gb122, 2, none⟩ = some (.slice A0_2 l0_2.length c0_2) := (blk_cell BK122.out 2).trans rfl
        have hfz11_0 := blk_frozen BK122.out 0
        have hfz11_1 := blk_frozen BK122.out 1
        have hfz11_2 := blk_frozen BK122.out 2
        go_wp2_with (first | ((with_reducible refine gate_callee (f := 37) rfl ?_); refine goesL_ (some 7) rfl rfl Tryz.func37 (by kernel_rfl) rfl #[.int .u64 a0_0] rfl (by (try simp only [List.map_toArray, List.map_cons, List.map_nil]); first | done | rfl | (simp only [List.length_drop, List.length_take]; rfl)) ?_; (with_reducible refine (parts_numbered.calls a0_0 true _ A4.out).mono ?_); rintro e w' ⟨rfl, ⟨nd, rfl⟩⟩; refine ⟨_, rfl, ?_⟩) | (go_at_call 38; (with_reducible refine (name_Key.calls a0_1 false _ A6.out).mono ?_); rintro e w12 ⟨rfl, hb⟩; have n0_ := Aside0.mk (blk_below (g := gb122) (o := .cells #[.int .u64 a0_0, .string a0_1, .slice A0_2 l0_2.length c0_2] 65 (0, 0)) (by (with_reducible repeat (first | refine blk_drewN ?_ _ | refine blk_drew ?_ | refine blk_alloc ?_ _)); exact BK122.out) hb); have n1_ := Aside0.mk (below_step (by repeat (first | (with_reducible first | exact HB.out | apply below_alloc | apply pw_below_drewN | apply below_drew1 | refine below_set ?_ GE122.out) | exact HB.out)) hb); clear BK122; clear HB; have BK122 := n0_; have HB := n1_; clear n0_ n1_; (try clear hb); (try clear hb2); (try clear hk); (try clear hi)))
        go_meet
        case rel => exact ⟨_, (true), (by first | rfl | (simp; done) | (simp [*]; done)), H', ⟨by first | omega | exact Nat.le_refl _⟩, ⟨by (with_reducible repeat (first | refine blk_drewN ?_ _ | refine blk_drew ?_ | refine blk_alloc ?_ _)); exact BK122.out⟩, ⟨by repeat (first | (with_reducible first | exact HB.out | apply below_alloc | apply pw_below_drewN | apply below_drew1 | refine below_set ?_ GE122.out) | exact HB.out)⟩⟩
    · replace c5 := Bool.eq_false_iff.mpr c5
      subst c5
      have H1 : (parts_upload_fine.j0 k true a0_0 a0_1 l0_2) = some r := by rw [if_neg (show ¬ (false = true) by decide)] at H; exact H
      clear H
      have H := H1
      clear H1
      have H' := Aside0.mk H
      clear H
      have hcz13_0 : w3.cell? ⟨gb122, 0, none⟩ = some (.int .u64 a0_0) := (blk_cell BK122.out 0).trans rfl
      have hcz13_1 : w3.cell? ⟨gb122, 1, none⟩ = some (.string a0_1) := (blk_cell BK122.out 1).trans rfl
      have hcz13_2 : w3.cell? ⟨gb122, 2, none⟩ = some (.slice A0_2 l0_2.length c0_2) := (blk_cell BK122.out 2).trans rfl
      have hfz13_0 := blk_frozen BK122.out 0
      have hfz13_1 := blk_frozen BK122.out 1
      have hfz13_2 := blk_frozen BK122.out 2
      go_wp2_with (first | ((with_reducible refine gate_callee (f := 37) rfl ?_); refine goesL_ (some 7) rfl rfl Tryz.func37 (by kernel_rfl) rfl #[.int .u64 a0_0] rfl (by (try simp only [List.map_toArray, List.map_cons, List.map_nil]); first | done | rfl | (simp only [List.length_drop, List.length_take]; rfl)) ?_; (with_reducible refine (parts_numbered.calls a0_0 false _ A4.out).mono ?_); rintro e w' ⟨rfl, ⟨nd, rfl⟩⟩; refine ⟨_, rfl, ?_⟩))
      go_meet
      case rel => exact ⟨_, (true), (by first | rfl | (simp; done) | (simp [*]; done)), H', ⟨by first | omega | exact Nat.le_refl _⟩, ⟨by (with_reducible repeat (first | refine blk_drewN ?_ _ | refine blk_drew ?_ | refine blk_alloc ?_ _)); exact BK122.out⟩, ⟨by repeat (first | (with_reducible first | exact HB.out | apply below_alloc | apply pw_below_drewN | apply below_drew1 | refine below_set ?_ GE122.out) | exact HB.out)⟩⟩
  case rest =>
    clear HC2
    try clear p2
    try clear c3
    try clear c5
    try clear c7
    try clear hcz10_0
    try clear hcz10_1
    try clear hcz10_2
    try clear hcz11_0
    try clear hcz11_1
    try clear hcz11_2
    try clear hcz13_0
    try clear hcz13_1
    try clear hcz13_2
    try clear hcz8_0
    try clear hcz8_1
    try clear hcz8_2
    try clear hfz10_0
    try clear hfz10_1
    try clear hfz10_2
    try clear hfz11_0
    try clear hfz11_1
    try clear hfz11_2
    try clear hfz13_0
    try clear hfz13_1
    try clear hfz13_2
    try clear hfz8_0
    try clear hfz8_1
    try clear hfz8_2
    obtain ⟨kq, x20_1, rfl, HA, HJ1, BK122, HB⟩ := hcut
    cases kq with
    | zero => exact absurd HA.out (by simp [parts_upload_fine.j0])
    | succ kj1 =>
      have H := HA.out
      clear HA
      simp only [parts_upload_fine.j0] at H
      by_cases c14 : x20_1 = true
      · subst c14
        have H1 : (some false) = some r := by rw [if_pos rfl] at H; exact H
        clear H
        have H := H1
        clear H1
        obtain rfl := Option.some.inj H
        go_wp2
        go_ret
        exact ⟨by first | rfl | (simp [errW_none, errW_some] <;> rfl) | (simp [*, errW_none, errW_some] <;> rfl), by repeat (first | (with_reducible first | exact HB.out | apply below_alloc | apply pw_below_drewN | apply below_drew1 | refine below_set ?_ GE122.out) | exact HB.out)⟩
      · replace c14 := Bool.eq_false_iff.mpr c14
        subst c14
        have H1 : (parts_upload_fine.l0 kj1 l0_2 (l0_2.length : Int) 0 a0_0 a0_1 l0_2) = some r := by rw [if_neg (show ¬ (false = true) by decide)] at H; exact H
        clear H
        have H := H1
        clear H1
        have H' := Aside0.mk H
        clear H
        have hcz15_0 : wc.cell? ⟨gb122, 0, none⟩ = some (.int .u64 a0_0) := (blk_cell BK122.out 0).trans rfl
        have hcz15_1 : wc.cell? ⟨gb122, 1, none⟩ = some (.string a0_1) := (blk_cell BK122.out 1).trans rfl
        have hcz15_2 : wc.cell? ⟨gb122, 2, none⟩ = some (.slice A0_2 l0_2.length c0_2) := (blk_cell BK122.out 2).trans rfl
        have hfz15_0 := blk_frozen BK122.out 0
        have hfz15_1 := blk_frozen BK122.out 1
        have hfz15_2 := blk_frozen BK122.out 2
        go_wp2
        go_loopg [24] kj1 (fun kq v24 w' => ∃ (x24_2 : Int), v24 = .int .i64 x24_2 ∧ Aside0 (parts_upload_fine.l0 kq l0_2 (l0_2.length : Int) x24_2 a0_0 a0_1 l0_2 = some r) ∧ Aside0 (kq ≤ kj1) ∧ Aside0 (w'.heap[gb122]? = some (.cells #[.int .u64 a0_0, .string a0_1, (.slice A0_2 l0_2.length c0_2)] 65 (0, 0))) ∧ Aside0 (Below w.heap.size w w'))
        case atStart => exact ⟨(0), (by first | rfl | (simp; done) | (simp [*]; done)), H', ⟨Nat.le_refl _⟩, ⟨by (with_reducible repeat (first | refine blk_drewN ?_ _ | refine blk_drew ?_ | refine blk_alloc ?_ _)); exact BK122.out⟩, ⟨by repeat (first | (with_reducible first | exact HB.out | apply below_alloc | apply pw_below_drewN | apply below_drew1 | refine below_set ?_ GE122.out) | exact HB.out)⟩⟩
        case round =>
          clear H'
          try clear c1
          try clear p2
          try clear c3
          try clear c5
          try clear c7
          try clear c14
          try clear hcz10_0
          try clear hcz10_1
          try clear hcz10_2
          try clear hcz11_0
          try clear hcz11_1
          try clear hcz11_2
          try clear hcz13_0
          try clear hcz13_1
          try clear hcz13_2
          try clear hcz15_0
          try clear hcz15_1
          try clear hcz15_2
          try clear hcz8_0
          try clear hcz8_1
          try clear hcz8_2
          try clear hfz10_0
          try clear hfz10_1
          try clear hfz10_2
          try clear hfz11_0
          try clear hfz11_1
          try clear hfz11_2
          try clear hfz13_0
          try clear hfz13_1
          try clear hfz13_2
          try clear hfz15_0
          try clear hfz15_1
          try clear hfz15_2
          try clear hfz8_0
          try clear hfz8_1
          try clear hfz8_2
          try clear p2
          obtain ⟨x24_2, rfl, HA, HK2, BK122, HB⟩ := hrel
          cases gk with
          | zero => exact absurd HA.out (by simp [parts_upload_fine.l0])
          | succ k2 =>
            have H := HA.out
            clear HA
            simp only [parts_upload_fine.l0] at H
            by_cases c16 : x24_2 < (l0_2.length : Int)
            · rw [if_pos c16] at H
              have c16b0 : decide (x24_2 < (l0_2.length : Int)) = true := decide_eq_true c16
              clear c16
              by_cases c17 : 0 ≤ x24_2
              · rw [if_pos c17] at H
                have c17b0 : decide (0 ≤ x24_2) = true := decide_eq_true c17
                clear c17
                by_cases c18 : x24_2 < (l0_2.length : Int)
                · rw [if_pos c18] at H
                  have c18b0 : decide (x24_2 < (l0_2.length : Int)) = true := decide_eq_true c18
                  clear c18
                  replace H := Option.bind_eq_some_iff.mp H
                  obtain ⟨t127, A190, H⟩ := H
                  replace H : (if t127 = true then (if x24_2 > 0 then (if 0 ≤ (wrap64 (x24_2 - 1)) then (if (wrap64 (x24_2 - 1)) < (l0_2.length : Int) then (if ((rd_T25 l0_2 (wrap64 (x24_2 - 1))).f0) ≥ ((rd_T25 l0_2 x24_2).f0) then (some false) else (parts_upload_fine.l0 k2 l0_2 (l0_2.length : Int) (wrap64 (x24_2 + 1)) a0_0 a0_1 l0_2)) else (none)) else (none)) else (parts_upload_fine.l0 k2 l0_2 (l0_2.length : Int) (wrap64 (x24_2 + 1)) a0_0 a0_1 l0_2)) else (some false)) = some r := H
                  have A19 := Aside0.mk A190
                  clear A190
                  by_cases c20 : t127 = true
                  · subst c20
                    have H1 : (if x24_2 > 0 then (if 0 ≤ (wrap64 (x24_2 - 1)) then (if (wrap64 (x24_2 - 1)) < (l0_2.length : Int) then (if ((rd_T25 l0_2 (wrap64 (x24_2 - 1))).f0) ≥ ((rd_T25 l0_2 x24_2).f0) then (some false) else (parts_upload_fine.l0 k2 l0_2 (l0_2.length : Int) (wrap64 (x24_2 + 1)) a0_0 a0_1 l0_2)) else (none)) else (none)) else (parts_upload_fine.l0 k2 l0_2 (l0_2.length : Int) (wrap64 (x24_2 + 1)) a0_0 a0_1 l0_2)) = some r := by rw [if_pos rfl] at H; exact H
                    clear H
                    have H := H1
                    clear H1
                    by_cases c21 : x24_2 > 0
                    · rw [if_pos c21] at H
                      have c21b0 : decide (0 < x24_2) = true := decide_eq_true c21
                      clear c21
                      obtain ⟨ji22, hji22⟩ : ∃ j_ : Int, (wrap64 (x24_2 - 1)) = j_ := ⟨_, rfl⟩
                      replace H : (if 0 ≤ (ji22) then (if (ji22) < (l0_2.length : Int) then (if ((rd_T25 l0_2 (ji22)).f0) ≥ ((rd_T25 l0_2 x24_2).f0) then (some false) else (parts_upload_fine.l0 k2 l0_2 (l0_2.length : Int) (wrap64 (x24_2 + 1)) a0_0 a0_1 l0_2)) else (none)) else (none)) = some r := by first | (rw [hji22] at H; exact H) | (simp only [hji22] at H ⊢; exact H)
                      (try rw [hji22] at A19)
                      have hji22w : (IntKind.i64.wrap (x24_2 - 1)) = ji22 := (i64_w _).trans hji22
                      by_cases c23 : 0 ≤ (ji22)
                      · rw [if_pos c23] at H
                        have c23b0 : decide (0 ≤ (ji22)) = true := decide_eq_true c23
                        clear c23
                        by_cases c24 : (ji22) < (l0_2.length : Int)
                        · rw [if_pos c24] at H
                          have c24b0 : decide ((ji22) < (l0_2.length : Int)) = true := decide_eq_true c24
                          clear c24
                          by_cases c25 : ((rd_T25 l0_2 (ji22)).f0) ≥ ((rd_T25 l0_2 x24_2).f0)
                          · rw [if_pos c25] at H
                            have c25b0 : decide (((rd_T25 l0_2 x24_2).f0) ≤ ((rd_T25 l0_2 (ji22)).f0)) = true := decide_eq_true c25
                            clear c25
                            obtain rfl := Option.some.inj H
                            have p125 : 0 ≤ (x24_2 : Int) := of_decide_eq_true (by first | (with_reducible assumption) | assumption)
                            have q125 : x24_2 < (l0_2.length : Int) := of_decide_eq_true (by first | (with_reducible assumption) | assumption)
                            obtain ⟨ad125, e125, hx125_0, hx125_1⟩ := at_T25 HR0_2.out x24_2 p125 q125
                            cases e125
                            replace hx125_0 := (HB.out.cell (World.block_lt_of_cell? w _ hx125_0)).trans hx125_0
                            replace hx125_1 := (HB.out.cell (World.block_lt_of_cell? w _ hx125_1)).trans hx125_1
                            replace p125 := eq_true p125
                            replace q125 := eq_true q125
                            try go_wp2_with (first | ((with_reducible refine gate_dst (N := 4) rfl ?_); (try (refine gate_guard (by rfl) ?_; dsimp only)); refine box_event ?hg (N := 4) ?hd (cs := #[.int .i64 0, .string (⟨#[]⟩ : ByteArray)]) (t := 25) ?hr ?_; (case hd => rfl); (case hg => rfl); (case hr => first | (go_simp; done) | (go_simp; rfl)); intro gb126 hg w26 hbox hb; have n0_ := Aside0.mk (blk_below (g := gb122) (o := .cells #[.int .u64 a0_0, .string a0_1, .slice (some ad125) l0_2.length c0_2] 65 (0, 0)) (by (with_reducible repeat (first | refine blk_drewN ?_ _ | refine blk_drew ?_ | refine blk_alloc ?_ _)); exact BK122.out) hb); have n1_ := Aside0.mk (below_step (by repeat (first | (with_reducible first | exact HB.out | apply below_alloc | apply pw_below_drewN | apply below_drew1 | refine below_set ?_ GE122.out) | exact HB.out)) hb); have n2_ := Aside0.mk (hbox); have n3_ := Aside0.mk ((by rw [hg]; exact (below_size (by repeat (first | (with_reducible first | exact HB.out | apply below_alloc | apply pw_below_drewN | apply below_drew1 | refine below_set ?_ GE122.out) | exact HB.out))) : w.heap.size ≤ gb126)); have n4_ := Aside0.mk ((by rw [hg]; exact (below_size (by repeat (first | (with_reducible first | exact HB.out | apply below_alloc | apply pw_below_drewN | apply below_drew1 | refine below_set ?_ GE122.out) | exact HB.out))) : w.heap.size ≤ gb126)); have n5_ := Aside0.mk ((by rw [hg]; exact Nat.ne_of_lt (blk_lt (g := gb122) (o := .cells #[.int .u64 a0_0, .string a0_1, .slice (some ad125) l0_2.length c0_2] 65 (0, 0)) (by (with_reducible repeat (first | refine blk_drewN ?_ _ | refine blk_drew ?_ | refine blk_alloc ?_ _)); exact BK122.out)) : gb122 ≠ gb126)); have n6_ := Aside0.mk ((by rw [hg]; exact Nat.ne_of_gt (blk_lt (g := gb122) (o := .cells #[.int .u64 a0_0, .string a0_1, .slice (some ad125) l0_2.length c0_2] 65 (0, 0)) (by (with_reducible repeat (first | refine blk_drewN ?_ _ | refine blk_drew ?_ | refine blk_alloc ?_ _)); exact BK122.out)) : gb126 ≠ gb122)); clear BK122; clear HB; have BK122 := n0_; have HB := n1_; have BK126 := n2_; have GW126 := n3_; have GE126 := n4_; have NB122_126 := n5_; have NB126_122 := n6_; clear n0_ n1_ n2_ n3_ n4_ n5_ n6_; clear hb hbox hg; have hnb27 := NB126_122.out; have hnc27 := NB122_126.out; have hcz28_0 : w26.cell? ⟨gb126, 0, none⟩ = some (.int .i64 0) := (blk_cell BK126.out 0).trans rfl; have hcz28_1 : w26.cell? ⟨gb126, 1, none⟩ = some (.string (⟨#[]⟩ : ByteArray)) := (blk_cell BK126.out 1).trans rfl; have hfz28_0 := blk_frozen BK126.out 0; have hfz28_1 := blk_frozen BK126.out 1))
                            have n0_ : Aside0 (((w26.setCell ⟨gb126, 0, none⟩ (.int .i64 ((rd_T25 l0_2 x24_2).f0))).setCell ⟨gb126, 1, none⟩ (.string ((rd_T25 l0_2 x24_2).f1))).heap[gb122]? = some (.cells #[.int .u64 a0_0, .string a0_1, .slice (some ad125) l0_2.length c0_2] 65 (0, 0))) := ⟨by (with_reducible repeat (first | refine blk_drewN ?_ _ | refine blk_drew ?_ | refine blk_alloc ?_ _)); refine blk_far ?_ NB122_126.out _; (with_reducible repeat (first | refine blk_drewN ?_ _ | refine blk_drew ?_ | refine blk_alloc ?_ _)); refine blk_far ?_ NB122_126.out _; (with_reducible repeat (first | refine blk_drewN ?_ _ | refine blk_drew ?_ | refine blk_alloc ?_ _)); exact BK122.out⟩
                            have n1_ : Aside0 (((w26.setCell ⟨gb126, 0, none⟩ (.int .i64 ((rd_T25 l0_2 x24_2).f0))).setCell ⟨gb126, 1, none⟩ (.string ((rd_T25 l0_2 x24_2).f1))).heap[gb126]? = some (.cells #[.int .i64 ((rd_T25 l0_2 x24_2).f0), .string ((rd_T25 l0_2 x24_2).f1)] 25 (0, 0))) := ⟨by (with_reducible repeat (first | refine blk_drewN ?_ _ | refine blk_drew ?_ | refine blk_alloc ?_ _)); refine blk_put (cs := #[.int .i64 ((rd_T25 l0_2 x24_2).f0), .string (⟨#[]⟩ : ByteArray)]) ?_ 1 _ rfl; (with_reducible repeat (first | refine blk_drewN ?_ _ | refine blk_drew ?_ | refine blk_alloc ?_ _)); refine blk_put (cs := #[.int .i64 0, .string (⟨#[]⟩ : ByteArray)]) ?_ 0 _ rfl; (with_reducible repeat (first | refine blk_drewN ?_ _ | refine blk_drew ?_ | refine blk_alloc ?_ _)); exact BK126.out⟩
                            have n2_ : Aside0 (Below w.heap.size w ((w26.setCell ⟨gb126, 0, none⟩ (.int .i64 ((rd_T25 l0_2 x24_2).f0))).setCell ⟨gb126, 1, none⟩ (.string ((rd_T25 l0_2 x24_2).f1)))) := ⟨by repeat (first | (with_reducible first | exact HB.out | apply below_alloc | apply pw_below_drewN | apply below_drew1 | refine below_set ?_ GE122.out | refine below_set ?_ GE126.out) | exact HB.out)⟩
                            (try clear BK122)
                            (try clear BK126)
                            (try clear HB)
                            generalize ((w26.setCell ⟨gb126, 0, none⟩ (.int .i64 ((rd_T25 l0_2 x24_2).f0))).setCell ⟨gb126, 1, none⟩ (.string ((rd_T25 l0_2 x24_2).f1))) = w29 at n0_ n1_ n2_ ⊢
                            have BK122 := n0_
                            have BK126 := n1_
                            have HB := n2_
                            clear n0_ n1_ n2_
                            have n0_ := Aside0.mk (blk_drew BK122.out)
                            have n1_ := Aside0.mk (blk_drew BK126.out)
                            have n2_ := Aside0.mk (below_drew1 HB.out)
                            clear BK122
                            clear BK126
                            clear HB
                            have BK122 := n0_
                            have BK126 := n1_
                            have HB := n2_
                            clear n0_ n1_ n2_
                            have p128 : 0 ≤ ((ji22) : Int) := of_decide_eq_true (by first | (with_reducible assumption) | assumption)
                            have q128 : (ji22) < (l0_2.length : Int) := of_decide_eq_true (by first | (with_reducible assumption) | assumption)
                            obtain ⟨ad128, e128, hx128_0, hx128_1⟩ := at_T25 HR0_2.out (ji22) p128 q128
                            have hw128_1 := hx128_1
                            have hw128_0 := hx128_0
                            obtain rfl : ad125 = ad128 := (by injection e128)
                            replace hx128_0 := (HB.out.cell (World.block_lt_of_cell? w _ hx128_0)).trans hx128_0
                            replace hx128_1 := (HB.out.cell (World.block_lt_of_cell? w _ hx128_1)).trans hx128_1
                            replace p128 := eq_true p128
                            replace q128 := eq_true q128
                            refine start_ (n := 19) (S := fun w' => w'.cell? ⟨gb126, 0, none⟩ = some (.int .i64 ((rd_T25 l0_2 x24_2).f0)) ∧ w'.cell? ⟨gb126, 1, none⟩ = some (.string ((rd_T25 l0_2 x24_2).f1)) ∧ w'.cell? ⟨gb122, 0, none⟩ = some (.int .u64 a0_0) ∧ w'.cell? ⟨gb122, 1, none⟩ = some (.string a0_1) ∧ w'.cell? ⟨gb122, 2, none⟩ = some (.slice (some ad125) l0_2.length c0_2) ∧ w'.cell? (ad125.add (((ji22)).toNat * 2)) = some (.int .i64 ((rd_T25 l0_2 (ji22)).f0)) ∧ w'.cell? ⟨(ad125.add (((ji22)).toNat * 2)).block, (ad125.add (((ji22)).toNat * 2)).off + 1, none⟩ = some (.string ((rd_T25 l0_2 (ji22)).f1))) (ds := []) #[false, false, false, false, false, false, false, false, false, false, false, false, false, false, false, false, false, false, false] (by kernel_rfl) rfl rfl ⟨(blk_cell BK126.out 0).trans rfl, (blk_cell BK126.out 1).trans rfl, (blk_cell BK122.out 0).trans rfl, (blk_cell BK122.out 1).trans rfl, (blk_cell BK122.out 2).trans rfl, ((HB.out.cell (World.block_lt_of_cell? w _ hw128_0)).trans hw128_0), ((HB.out.cell (World.block_lt_of_cell? w _ hw128_1)).trans hw128_1)⟩ (fun hHeld => ?_); refine with_tabW parts_upload_fine.tab6 parts_upload_fine.bits6 (fun HT_ HW_ => ?_)
                            generalize w29.drew = w30 at BK122 BK126 HB hx128_0 hx128_1 hHeld ⊢
                            refine take_ (i := 0) (N := some 29) (v := ?_) (a' := ?_) #[true, false, false, false, false, false, false, false, false, false, false, false, false, false, false, false, false, false, false] rfl rfl (take_ofW HT_.out HW_.out (by kernel_rfl)) (fun _ _ _ h => h) (Or.inl ⟨by rfl, ?_⟩) hHeld ?_ ?_
                            rotate_left
                            · rintro w' ⟨s0, s1, s2, s3, s4, s5, s6⟩
                              go_simp
                              with_reducible rfl
                            rotate_left
                            · simp only [Act.put, List.setIfInBounds_toArray, List.set_cons_zero, List.set_cons_succ, i64_w, i32_w]
                              rfl
                            refine one_ (i := 1) (N := some 30) #[true, true, false, false, false, false, false, false, false, false, false, false, false, false, false, false, false, false, false] rfl rfl (one_of HT_.out (by kernel_rfl)) (by decide) (fun K hK => ?_)
                            refine goes_ Tryz.func24 (by kernel_rfl) rfl #[.agg #[.int .i64 ((rd_T25 l0_2 x24_2).f0), .string ((rd_T25 l0_2 x24_2).f1)]] (by rfl) rfl rfl (by (try simp only [List.map_toArray, List.map_cons, List.map_nil]); first | done | rfl | (simp only [List.length_drop, List.length_take]; rfl)) ?_
                            with_reducible refine (parts_may.calls ((rd_T25 l0_2 x24_2).f0) ((rd_T25 l0_2 x24_2).f1) true _ A19.out).mono ?_
                            rintro e w31 ⟨rfl, hb⟩
                            refine ⟨_, rfl, ?_⟩
                            have n0_ := Aside0.mk (blk_below (g := gb122) (o := .cells #[.int .u64 a0_0, .string a0_1, .slice (some ad125) l0_2.length c0_2] 65 (0, 0)) (by (with_reducible repeat (first | refine blk_drewN ?_ _ | refine blk_drew ?_ | refine blk_alloc ?_ _)); exact BK122.out) hb)
                            have n1_ := Aside0.mk (blk_below (g := gb126) (o := .cells #[.int .i64 ((rd_T25 l0_2 x24_2).f0), .string ((rd_T25 l0_2 x24_2).f1)] 25 (0, 0)) (by (with_reducible repeat (first | refine blk_drewN ?_ _ | refine blk_drew ?_ | refine blk_alloc ?_ _)); exact BK126.out) hb)
                            have n2_ := Aside0.mk (below_step (by repeat (first | (with_reducible first | exact HB.out | apply below_alloc | apply pw_below_drewN | apply below_drew1 | refine below_set ?_ GE122.out | refine below_set ?_ GE126.out) | exact HB.out)) hb)
                            clear BK122
                            clear BK126
                            clear HB
                            have BK122 := n0_
                            have BK126 := n1_
                            have HB := n2_
                            clear n0_ n1_ n2_
                            (try clear hb)
                            (try clear hb2)
                            (try clear hk)
                            (try clear hi)
                            refine hK.out _ _ ⟨(blk_cell BK126.out 0).trans rfl, (blk_cell BK126.out 1).trans rfl, (blk_cell BK122.out 0).trans rfl, (blk_cell BK122.out 1).trans rfl, (blk_cell BK122.out 2).trans rfl, ((HB.out.cell (World.block_lt_of_cell? w _ hw128_0)).trans hw128_0), ((HB.out.cell (World.block_lt_of_cell? w _ hw128_1)).trans hw128_1)⟩ (fun hHeld => ?_)
                            clear hK K
                            refine norm_ (a' := ?_) ?_ ?_
                            rotate_left
                            · show Act.put _ (some 30) _ = _
                              simp only [Act.put, List.setIfInBounds_toArray, List.set_cons_zero, List.set_cons_succ, i64_w, i32_w]
                              rfl
                            refine pure_ (i := 2) (N := some 31) (v := ?_) (a' := ?_) #[true, true, true, false, false, false, false, false, false, false, false, false, false, false, false, false, false, false, false] rfl rfl (any_of HT_.out (by kernel_rfl)) (fun _ _ _ h => h) (Or.inl ⟨by rfl, ?_⟩) ?_ ?_
                            rotate_left
                            · intro w'
                              go_simp
                              with_reducible rfl
                            rotate_left
                            · simp only [Act.put, List.setIfInBounds_toArray, List.set_cons_zero, List.set_cons_succ, i64_w, i32_w]
                              rfl
                            refine pure_ (i := 3) (N := some 32) (v := ?_) (a' := ?_) #[true, true, true, true, false, false, false, false, false, false, false, false, false, false, false, false, false, false, false] rfl rfl (any_of HT_.out (by kernel_rfl)) (fun _ _ _ h => h) (Or.inl ⟨by rfl, ?_⟩) ?_ ?_
                            rotate_left
                            · intro w'
                              go_simp
                              with_reducible rfl
                            rotate_left
                            · simp only [Act.put, List.setIfInBounds_toArray, List.set_cons_zero, List.set_cons_succ, i64_w, i32_w]
                              rfl
                            refine pure_ (i := 4) (N := some 33) (v := ?_) (a' := ?_) #[true, true, true, true, true, false, false, false, false, false, false, false, false, false, false, false, false, false, false] rfl rfl (any_of HT_.out (by kernel_rfl)) (fun _ _ _ h => h) (Or.inl ⟨by rfl, ?_⟩) ?_ ?_
                            rotate_left
                            · intro w'
                              go_simp
                              with_reducible rfl
                            rotate_left
                            · simp only [Act.put, List.setIfInBounds_toArray, List.set_cons_zero, List.set_cons_succ, i64_w, i32_w]
                              rfl
                            refine pure_ (i := 5) (N := some 34) (v := ?_) (a' := ?_) #[true, true, true, true, true, true, false, false, false, false, false, false, false, false, false, false, false, false, false] rfl rfl (any_of HT_.out (by kernel_rfl)) (fun _ _ _ h => h) (Or.inl ⟨by rfl, ?_⟩) ?_ ?_
                            rotate_left
                            · intro w'
                              go_simp
                              with_reducible rfl
                            rotate_left
                            · simp only [Act.put, List.setIfInBounds_toArray, List.set_cons_zero, List.set_cons_succ, i64_w, i32_w]
                              rfl
                            refine pure_ (i := 6) (N := some 35) (v := ?_) (a' := ?_) #[true, true, true, true, true, true, true, false, false, false, false, false, false, false, false, false, false, false, false] rfl rfl (any_of HT_.out (by kernel_rfl)) (fun _ _ _ h => h) (Or.inl ⟨by rfl, ?_⟩) ?_ ?_
                            rotate_left
                            · intro w'
                              go_simp
                              with_reducible rfl
                            rotate_left
                            · simp only [Act.put, List.setIfInBounds_toArray, List.set_cons_zero, List.set_cons_succ, i64_w, i32_w]
                              rfl
                            refine pure_ (i := 7) (N := some 36) (v := ?_) (a' := ?_) #[true, true, true, true, true, true, true, true, false, false, false, false, false, false, false, false, false, false, false] rfl rfl (any_of HT_.out (by kernel_rfl)) (fun _ _ _ h => h) (Or.inl ⟨by rfl, ?_⟩) ?_ ?_
                            rotate_left
                            · intro w'
                              go_simp
                              with_reducible rfl
                            rotate_left
                            · simp only [Act.put, List.setIfInBounds_toArray, List.set_cons_zero, List.set_cons_succ, i64_w, i32_w]
                              rfl
                            refine pure_ (i := 9) (N := some 38) (v := ?_) (a' := ?_) #[true, true, true, true, true, true, true, true, false, true, false, false, false, false, false, false, false, false, false] rfl rfl (any_of HT_.out (by kernel_rfl)) (fun _ _ _ h => h) (Or.inl ⟨by rfl, ?_⟩) ?_ ?_
                            rotate_left
                            · intro w'
                              go_simp
                              with_reducible rfl
                            rotate_left
                            · simp only [Act.put, List.setIfInBounds_toArray, List.set_cons_zero, List.set_cons_succ, i64_w, i32_w]
                              rfl
                            refine pure_ (i := 10) (N := some 39) (v := ?_) (a' := ?_) #[true, true, true, true, true, true, true, true, false, true, true, false, false, false, false, false, false, false, false] rfl rfl (any_of HT_.out (by kernel_rfl)) (fun _ _ _ h => h) (Or.inl ⟨by rfl, ?_⟩) ?_ ?_
                            rotate_left
                            · intro w'
                              go_simp
                              with_reducible rfl
                            rotate_left
                            · simp only [Act.put, List.setIfInBounds_toArray, List.set_cons_zero, List.set_cons_succ, i64_w, i32_w]
                              rfl
                            refine pure_ (i := 14) (N := some 43) (v := ?_) (a' := ?_) #[true, true, true, true, true, true, true, true, false, true, true, false, false, false, true, false, false, false, false] rfl rfl (any_of HT_.out (by kernel_rfl)) (fun _ _ _ h => h) (Or.inl ⟨by rfl, ?_⟩) ?_ ?_
                            rotate_left
                            · intro w'
                              go_simp
                              with_reducible rfl
                            rotate_left
                            · simp only [Act.put, List.setIfInBounds_toArray, List.set_cons_zero, List.set_cons_succ, i64_w, i32_w]
                              rfl
                            refine take_ (i := 8) (N := some 37) (v := ?_) (a' := ?_) #[true, true, true, true, true, true, true, true, true, true, true, false, false, false, true, false, false, false, false] rfl rfl (take_ofW HT_.out HW_.out (by kernel_rfl)) (fun _ _ _ h => h) (Or.inl ⟨by rfl, ?_⟩) hHeld ?_ ?_
                            rotate_left
                            · rintro w' ⟨s0, s1, s2, s3, s4, s5, s6⟩
                              go_simp
                              with_reducible rfl
                            rotate_left
                            · simp only [Act.put, List.setIfInBounds_toArray, List.set_cons_zero, List.set_cons_succ, i64_w, i32_w]
                              rfl
                            refine pure_ (i := 11) (N := some 40) (v := ?_) (a' := ?_) #[true, true, true, true, true, true, true, true, true, true, true, true, false, false, true, false, false, false, false] rfl rfl (any_of HT_.out (by kernel_rfl)) (fun _ _ _ h => h) (Or.inl ⟨by rfl, ?_⟩) ?_ ?_
                            rotate_left
                            · intro w'
                              go_simp
                              with_reducible rfl
                            rotate_left
                            · simp only [Act.put, List.setIfInBounds_toArray, List.set_cons_zero, List.set_cons_succ, i64_w, i32_w]
                              rfl
                            refine pure_ (i := 12) (N := some 41) (v := ?_) (a' := ?_) #[true, true, true, true, true, true, true, true, true, true, true, true, true, false, true, false, false, false, false] rfl rfl (any_of HT_.out (by kernel_rfl)) (fun _ _ _ h => h) (Or.inl ⟨by rfl, ?_⟩) ?_ ?_
                            rotate_left
                            · intro w'
                              go_simp
                              with_reducible rfl
                            rotate_left
                            · simp only [Act.put, List.setIfInBounds_toArray, List.set_cons_zero, List.set_cons_succ, i64_w, i32_w]
                              rfl
                            refine take_ (i := 13) (N := some 42) (v := ?_) (a' := ?_) #[true, true, true, true, true, true, true, true, true, true, true, true, true, true, true, false, false, false, false] rfl rfl (take_ofW HT_.out HW_.out (by kernel_rfl)) (fun _ _ _ h => h) (Or.inl ⟨by rfl, ?_⟩) hHeld ?_ ?_
                            rotate_left
                            · rintro w' ⟨s0, s1, s2, s3, s4, s5, s6⟩
                              go_simp
                              with_reducible rfl
                            rotate_left
                            · simp only [Act.put, List.setIfInBounds_toArray, List.set_cons_zero, List.set_cons_succ, i64_w, i32_w]
                              rfl
                            refine take_ (i := 15) (N := some 44) (v := ?_) (a' := ?_) #[true, true, true, true, true, true, true, true, true, true, true, true, true, true, true, true, false, false, false] rfl rfl (take_ofW HT_.out HW_.out (by kernel_rfl)) (fun _ _ _ h => h) (Or.inl ⟨by rfl, ?_⟩) hHeld ?_ ?_
                            rotate_left
                            · rintro w' ⟨s0, s1, s2, s3, s4, s5, s6⟩
                              go_simp
                              with_reducible rfl
                            rotate_left
                            · simp only [Act.put, List.setIfInBounds_toArray, List.set_cons_zero, List.set_cons_succ, i64_w, i32_w]
                              rfl
                            refine pure_ (i := 16) (N := some 45) (v := ?_) (a' := ?_) #[true, true, true, true, true, true, true, true, true, true, true, true, true, true, true, true, true, false, false] rfl rfl (any_of HT_.out (by kernel_rfl)) (fun _ _ _ h => h) (Or.inl ⟨by rfl, ?_⟩) ?_ ?_
                            rotate_left
                            · intro w'
                              go_simp
                              with_reducible rfl
                            rotate_left
                            · simp only [Act.put, List.setIfInBounds_toArray, List.set_cons_zero, List.set_cons_succ, i64_w, i32_w]
                              rfl
                            refine pure_ (i := 17) (N := some 46) (v := ?_) (a' := ?_) #[true, true, true, true, true, true, true, true, true, true, true, true, true, true, true, true, true, true, false] rfl rfl (any_of HT_.out (by kernel_rfl)) (fun _ _ _ h => h) (Or.inl ⟨by rfl, ?_⟩) ?_ ?_
                            rotate_left
                            · intro w'
                              go_simp
                              with_reducible rfl
                            rotate_left
                            · simp only [Act.put, List.setIfInBounds_toArray, List.set_cons_zero, List.set_cons_succ, i64_w, i32_w]
                              rfl
                            refine pure_ (i := 18) (N := some 47) (v := ?_) (a' := ?_) #[true, true, true, true, true, true, true, true, true, true, true, true, true, true, true, true, true, true, true] rfl rfl (any_of HT_.out (by kernel_rfl)) (fun _ _ _ h => h) (Or.inl ⟨by rfl, ?_⟩) ?_ ?_
                            rotate_left
                            · intro w'
                              go_simp
                              with_reducible rfl
                            rotate_left
                            · simp only [Act.put, List.setIfInBounds_toArray, List.set_cons_zero, List.set_cons_succ, i64_w, i32_w]
                              rfl
                            refine done_ (done_of HT_.out (by kernel_rfl)) ?_
                            try go_wp2
                            go_ret
                            exact ⟨by first | rfl | (simp [errW_none, errW_some] <;> rfl) | (simp only [← hji22]; first | rfl | (simp [errW_none, errW_some] <;> rfl)) | (simp [*, errW_none, errW_some] <;> rfl), by repeat (first | (with_reducible first | exact HB.out | apply below_alloc | apply pw_below_drewN | apply below_drew1 | refine below_set ?_ GE122.out | refine below_set ?_ GE126.out) | exact HB.out)⟩
                          · rw [if_neg c25] at H
                            have c25b0 : decide (((rd_T25 l0_2 x24_2).f0) ≤ ((rd_T25 l0_2 (ji22)).f0)) = false := decide_eq_false c25
                            clear c25
                            have H' := Aside0.mk H
                            clear H
                            have p125 : 0 ≤ (x24_2 : Int) := of_decide_eq_true (by first | (with_reducible assumption) | assumption)
                            have q125 : x24_2 < (l0_2.length : Int) := of_decide_eq_true (by first | (with_reducible assumption) | assumption)
                            obtain ⟨ad125, e125, hx125_0, hx125_1⟩ := at_T25 HR0_2.out x24_2 p125 q125
                            cases e125
                            replace hx125_0 := (HB.out.cell (World.block_lt_of_cell? w _ hx125_0)).trans hx125_0
                            replace hx125_1 := (HB.out.cell (World.block_lt_of_cell? w _ hx125_1)).trans hx125_1
                            replace p125 := eq_true p125
                            replace q125 := eq_true q125
                            try go_wp2_with (first | ((with_reducible refine gate_dst (N := 4) rfl ?_); (try (refine gate_guard (by rfl) ?_; dsimp only)); refine box_event ?hg (N := 4) ?hd (cs := #[.int .i64 0, .string (⟨#[]⟩ : ByteArray)]) (t := 25) ?hr ?_; (case hd => rfl); (case hg => rfl); (case hr => first | (go_simp; done) | (go_simp; rfl)); intro gb126 hg w32 hbox hb; have n0_ := Aside0.mk (blk_below (g := gb122) (o := .cells #[.int .u64 a0_0, .string a0_1, .slice (some ad125) l0_2.length c0_2] 65 (0, 0)) (by (with_reducible repeat (first | refine blk_drewN ?_ _ | refine blk_drew ?_ | refine blk_alloc ?_ _)); exact BK122.out) hb); have n1_ := Aside0.mk (below_step (by repeat (first | (with_reducible first | exact HB.out | apply below_alloc | apply pw_below_drewN | apply below_drew1 | refine below_set ?_ GE122.out) | exact HB.out)) hb); have n2_ := Aside0.mk (hbox); have n3_ := Aside0.mk ((by rw [hg]; exact (below_size (by repeat (first | (with_reducible first | exact HB.out | apply below_alloc | apply pw_below_drewN | apply below_drew1 | refine below_set ?_ GE122.out) | exact HB.out))) : w.heap.size ≤ gb126)); have n4_ := Aside0.mk ((by rw [hg]; exact (below_size (by repeat (first | (with_reducible first | exact HB.out | apply below_alloc | apply pw_below_drewN | apply below_drew1 | refine below_set ?_ GE122.out) | exact HB.out))) : w.heap.size ≤ gb126)); have n5_ := Aside0.mk ((by rw [hg]; exact Nat.ne_of_lt (blk_lt (g := gb122) (o := .cells #[.int .u64 a0_0, .string a0_1, .slice (some ad125) l0_2.length c0_2] 65 (0, 0)) (by (with_reducible repeat (first | refine blk_drewN ?_ _ | refine blk_drew ?_ | refine blk_alloc ?_ _)); exact BK122.out)) : gb122 ≠ gb126)); have n6_ := Aside0.mk ((by rw [hg]; exact Nat.ne_of_gt (blk_lt (g := gb122) (o := .cells #[.int .u64 a0_0, .string a0_1, .slice (some ad125) l0_2.length c0_2] 65 (0, 0)) (by (with_reducible repeat (first | refine blk_drewN ?_ _ | refine blk_drew ?_ | refine blk_alloc ?_ _)); exact BK122.out)) : gb126 ≠ gb122)); clear BK122; clear HB; have BK122 := n0_; have HB := n1_; have BK126 := n2_; have GW126 := n3_; have GE126 := n4_; have NB122_126 := n5_; have NB126_122 := n6_; clear n0_ n1_ n2_ n3_ n4_ n5_ n6_; clear hb hbox hg; have hnb33 := NB126_122.out; have hnc33 := NB122_126.out; have hcz34_0 : w32.cell? ⟨gb126, 0, none⟩ = some (.int .i64 0) := (blk_cell BK126.out 0).trans rfl; have hcz34_1 : w32.cell? ⟨gb126, 1, none⟩ = some (.string (⟨#[]⟩ : ByteArray)) := (blk_cell BK126.out 1).trans rfl; have hfz34_0 := blk_frozen BK126.out 0; have hfz34_1 := blk_frozen BK126.out 1))
                            have n0_ : Aside0 (((w32.setCell ⟨gb126, 0, none⟩ (.int .i64 ((rd_T25 l0_2 x24_2).f0))).setCell ⟨gb126, 1, none⟩ (.string ((rd_T25 l0_2 x24_2).f1))).heap[gb122]? = some (.cells #[.int .u64 a0_0, .string a0_1, .slice (some ad125) l0_2.length c0_2] 65 (0, 0))) := ⟨by (with_reducible repeat (first | refine blk_drewN ?_ _ | refine blk_drew ?_ | refine blk_alloc ?_ _)); refine blk_far ?_ NB122_126.out _; (with_reducible repeat (first | refine blk_drewN ?_ _ | refine blk_drew ?_ | refine blk_alloc ?_ _)); refine blk_far ?_ NB122_126.out _; (with_reducible repeat (first | refine blk_drewN ?_ _ | refine blk_drew ?_ | refine blk_alloc ?_ _)); exact BK122.out⟩
                            have n1_ : Aside0 (((w32.setCell ⟨gb126, 0, none⟩ (.int .i64 ((rd_T25 l0_2 x24_2).f0))).setCell ⟨gb126, 1, none⟩ (.string ((rd_T25 l0_2 x24_2).f1))).heap[gb126]? = some (.cells #[.int .i64 ((rd_T25 l0_2 x24_2).f0), .string ((rd_T25 l0_2 x24_2).f1)] 25 (0, 0))) := ⟨by (with_reducible repeat (first | refine blk_drewN ?_ _ | refine blk_drew ?_ | refine blk_alloc ?_ _)); refine blk_put (cs := #[.int .i64 ((rd_T25 l0_2 x24_2).f0), .string (⟨#[]⟩ : ByteArray)]) ?_ 1 _ rfl; (with_reducible repeat (first | refine blk_drewN ?_ _ | refine blk_drew ?_ | refine blk_alloc ?_ _)); refine blk_put (cs := #[.int .i64 0, .string (⟨#[]⟩ : ByteArray)]) ?_ 0 _ rfl; (with_reducible repeat (first | refine blk_drewN ?_ _ | refine blk_drew ?_ | refine blk_alloc ?_ _)); exact BK126.out⟩
                            have n2_ : Aside0 (Below w.heap.size w ((w32.setCell ⟨gb126, 0, none⟩ (.int .i64 ((rd_T25 l0_2 x24_2).f0))).setCell ⟨gb126, 1, none⟩ (.string ((rd_T25 l0_2 x24_2).f1)))) := ⟨by repeat (first | (with_reducible first | exact HB.out | apply below_alloc | apply pw_below_drewN | apply below_drew1 | refine below_set ?_ GE122.out | refine below_set ?_ GE126.out) | exact HB.out)⟩
                            (try clear BK122)
                            (try clear BK126)
                            (try clear HB)
                            generalize ((w32.setCell ⟨gb126, 0, none⟩ (.int .i64 ((rd_T25 l0_2 x24_2).f0))).setCell ⟨gb126, 1, none⟩ (.string ((rd_T25 l0_2 x24_2).f1))) = w35 at n0_ n1_ n2_ ⊢
                            have BK122 := n0_
                            have BK126 := n1_
                            have HB := n2_
                            clear n0_ n1_ n2_
                            have n0_ := Aside0.mk (blk_drew BK122.out)
                            have n1_ := Aside0.mk (blk_drew BK126.out)
                            have n2_ := Aside0.mk (below_drew1 HB.out)
                            clear BK122
                            clear BK126
                            clear HB
                            have BK122 := n0_
                            have BK126 := n1_
                            have HB := n2_
                            clear n0_ n1_ n2_
                            have p128 : 0 ≤ ((ji22) : Int) := of_decide_eq_true (by first | (with_reducible assumption) | assumption)
                            have q128 : (ji22) < (l0_2.length : Int) := of_decide_eq_true (by first | (with_reducible assumption) | assumption)
                            obtain ⟨ad128, e128, hx128_0, hx128_1⟩ := at_T25 HR0_2.out (ji22) p128 q128
                            have hw128_1 := hx128_1
                            have hw128_0 := hx128_0
                            obtain rfl : ad125 = ad128 := (by injection e128)
                            replace hx128_0 := (HB.out.cell (World.block_lt_of_cell? w _ hx128_0)).trans hx128_0
                            replace hx128_1 := (HB.out.cell (World.block_lt_of_cell? w _ hx128_1)).trans hx128_1
                            replace p128 := eq_true p128
                            replace q128 := eq_true q128
                            refine start_ (n := 19) (S := fun w' => w'.cell? ⟨gb126, 0, none⟩ = some (.int .i64 ((rd_T25 l0_2 x24_2).f0)) ∧ w'.cell? ⟨gb126, 1, none⟩ = some (.string ((rd_T25 l0_2 x24_2).f1)) ∧ w'.cell? ⟨gb122, 0, none⟩ = some (.int .u64 a0_0) ∧ w'.cell? ⟨gb122, 1, none⟩ = some (.string a0_1) ∧ w'.cell? ⟨gb122, 2, none⟩ = some (.slice (some ad125) l0_2.length c0_2) ∧ w'.cell? (ad125.add (((ji22)).toNat * 2)) = some (.int .i64 ((rd_T25 l0_2 (ji22)).f0)) ∧ w'.cell? ⟨(ad125.add (((ji22)).toNat * 2)).block, (ad125.add (((ji22)).toNat * 2)).off + 1, none⟩ = some (.string ((rd_T25 l0_2 (ji22)).f1))) (ds := []) #[false, false, false, false, false, false, false, false, false, false, false, false, false, false, false, false, false, false, false] (by kernel_rfl) rfl rfl ⟨(blk_cell BK126.out 0).trans rfl, (blk_cell BK126.out 1).trans rfl, (blk_cell BK122.out 0).trans rfl, (blk_cell BK122.out 1).trans rfl, (blk_cell BK122.out 2).trans rfl, ((HB.out.cell (World.block_lt_of_cell? w _ hw128_0)).trans hw128_0), ((HB.out.cell (World.block_lt_of_cell? w _ hw128_1)).trans hw128_1)⟩ (fun hHeld => ?_); refine with_tabW parts_upload_fine.tab6 parts_upload_fine.bits6 (fun HT_ HW_ => ?_)
                            generalize w35.drew = w36 at BK122 BK126 HB hx128_0 hx128_1 hHeld ⊢
                            refine take_ (i := 0) (N := some 29) (v := ?_) (a' := ?_) #[true, false, false, false, false, false, false, false, false, false, false, false, false, false, false, false, false, false, false] rfl rfl (take_ofW HT_.out HW_.out (by kernel_rfl)) (fun _ _ _ h => h) (Or.inl ⟨by rfl, ?_⟩) hHeld ?_ ?_
                            rotate_left
                            · rintro w' ⟨s0, s1, s2, s3, s4, s5, s6⟩
                              go_simp
                              with_reducible rfl
                            rotate_left
                            · simp only [Act.put, List.setIfInBounds_toArray, List.set_cons_zero, List.set_cons_succ, i64_w, i32_w]
                              rfl
                            refine one_ (i := 1) (N := some 30) #[true, true, false, false, false, false, false, false, false, false, false, false, false, false, false, false, false, false, false] rfl rfl (one_of HT_.out (by kernel_rfl)) (by decide) (fun K hK => ?_)
                            refine goes_ Tryz.func24 (by kernel_rfl) rfl #[.agg #[.int .i64 ((rd_T25 l0_2 x24_2).f0), .string ((rd_T25 l0_2 x24_2).f1)]] (by rfl) rfl rfl (by (try simp only [List.map_toArray, List.map_cons, List.map_nil]); first | done | rfl | (simp only [List.length_drop, List.length_take]; rfl)) ?_
                            with_reducible refine (parts_may.calls ((rd_T25 l0_2 x24_2).f0) ((rd_T25 l0_2 x24_2).f1) true _ A19.out).mono ?_
                            rintro e w37 ⟨rfl, hb⟩
                            refine ⟨_, rfl, ?_⟩
                            have n0_ := Aside0.mk (blk_below (g := gb122) (o := .cells #[.int .u64 a0_0, .string a0_1, .slice (some ad125) l0_2.length c0_2] 65 (0, 0)) (by (with_reducible repeat (first | refine blk_drewN ?_ _ | refine blk_drew ?_ | refine blk_alloc ?_ _)); exact BK122.out) hb)
                            have n1_ := Aside0.mk (blk_below (g := gb126) (o := .cells #[.int .i64 ((rd_T25 l0_2 x24_2).f0), .string ((rd_T25 l0_2 x24_2).f1)] 25 (0, 0)) (by (with_reducible repeat (first | refine blk_drewN ?_ _ | refine blk_drew ?_ | refine blk_alloc ?_ _)); exact BK126.out) hb)
                            have n2_ := Aside0.mk (below_step (by repeat (first | (with_reducible first | exact HB.out | apply below_alloc | apply pw_below_drewN | apply below_drew1 | refine below_set ?_ GE122.out | refine below_set ?_ GE126.out) | exact HB.out)) hb)
                            clear BK122
                            clear BK126
                            clear HB
                            have BK122 := n0_
                            have BK126 := n1_
                            have HB := n2_
                            clear n0_ n1_ n2_
                            (try clear hb)
                            (try clear hb2)
                            (try clear hk)
                            (try clear hi)
                            refine hK.out _ _ ⟨(blk_cell BK126.out 0).trans rfl, (blk_cell BK126.out 1).trans rfl, (blk_cell BK122.out 0).trans rfl, (blk_cell BK122.out 1).trans rfl, (blk_cell BK122.out 2).trans rfl, ((HB.out.cell (World.block_lt_of_cell? w _ hw128_0)).trans hw128_0), ((HB.out.cell (World.block_lt_of_cell? w _ hw128_1)).trans hw128_1)⟩ (fun hHeld => ?_)
                            clear hK K
                            refine norm_ (a' := ?_) ?_ ?_
                            rotate_left
                            · show Act.put _ (some 30) _ = _
                              simp only [Act.put, List.setIfInBounds_toArray, List.set_cons_zero, List.set_cons_succ, i64_w, i32_w]
                              rfl
                            refine pure_ (i := 2) (N := some 31) (v := ?_) (a' := ?_) #[true, true, true, false, false, false, false, false, false, false, false, false, false, false, false, false, false, false, false] rfl rfl (any_of HT_.out (by kernel_rfl)) (fun _ _ _ h => h) (Or.inl ⟨by rfl, ?_⟩) ?_ ?_
                            rotate_left
                            · intro w'
                              go_simp
                              with_reducible rfl
                            rotate_left
                            · simp only [Act.put, List.setIfInBounds_toArray, List.set_cons_zero, List.set_cons_succ, i64_w, i32_w]
                              rfl
                            refine pure_ (i := 3) (N := some 32) (v := ?_) (a' := ?_) #[true, true, true, true, false, false, false, false, false, false, false, false, false, false, false, false, false, false, false] rfl rfl (any_of HT_.out (by kernel_rfl)) (fun _ _ _ h => h) (Or.inl ⟨by rfl, ?_⟩) ?_ ?_
                            rotate_left
                            · intro w'
                              go_simp
                              with_reducible rfl
                            rotate_left
                            · simp only [Act.put, List.setIfInBounds_toArray, List.set_cons_zero, List.set_cons_succ, i64_w, i32_w]
                              rfl
                            refine pure_ (i := 4) (N := some 33) (v := ?_) (a' := ?_) #[true, true, true, true, true, false, false, false, false, false, false, false, false, false, false, false, false, false, false] rfl rfl (any_of HT_.out (by kernel_rfl)) (fun _ _ _ h => h) (Or.inl ⟨by rfl, ?_⟩) ?_ ?_
                            rotate_left
                            · intro w'
                              go_simp
                              with_reducible rfl
                            rotate_left
                            · simp only [Act.put, List.setIfInBounds_toArray, List.set_cons_zero, List.set_cons_succ, i64_w, i32_w]
                              rfl
                            refine pure_ (i := 5) (N := some 34) (v := ?_) (a' := ?_) #[true, true, true, true, true, true, false, false, false, false, false, false, false, false, false, false, false, false, false] rfl rfl (any_of HT_.out (by kernel_rfl)) (fun _ _ _ h => h) (Or.inl ⟨by rfl, ?_⟩) ?_ ?_
                            rotate_left
                            · intro w'
                              go_simp
                              with_reducible rfl
                            rotate_left
                            · simp only [Act.put, List.setIfInBounds_toArray, List.set_cons_zero, List.set_cons_succ, i64_w, i32_w]
                              rfl
                            refine pure_ (i := 6) (N := some 35) (v := ?_) (a' := ?_) #[true, true, true, true, true, true, true, false, false, false, false, false, false, false, false, false, false, false, false] rfl rfl (any_of HT_.out (by kernel_rfl)) (fun _ _ _ h => h) (Or.inl ⟨by rfl, ?_⟩) ?_ ?_
                            rotate_left
                            · intro w'
                              go_simp
                              with_reducible rfl
                            rotate_left
                            · simp only [Act.put, List.setIfInBounds_toArray, List.set_cons_zero, List.set_cons_succ, i64_w, i32_w]
                              rfl
                            refine pure_ (i := 7) (N := some 36) (v := ?_) (a' := ?_) #[true, true, true, true, true, true, true, true, false, false, false, false, false, false, false, false, false, false, false] rfl rfl (any_of HT_.out (by kernel_rfl)) (fun _ _ _ h => h) (Or.inl ⟨by rfl, ?_⟩) ?_ ?_
                            rotate_left
                            · intro w'
                              go_simp
                              with_reducible rfl
                            rotate_left
                            · simp only [Act.put, List.setIfInBounds_toArray, List.set_cons_zero, List.set_cons_succ, i64_w, i32_w]
                              rfl
                            refine pure_ (i := 9) (N := some 38) (v := ?_) (a' := ?_) #[true, true, true, true, true, true, true, true, false, true, false, false, false, false, false, false, false, false, false] rfl rfl (any_of HT_.out (by kernel_rfl)) (fun _ _ _ h => h) (Or.inl ⟨by rfl, ?_⟩) ?_ ?_
                            rotate_left
                            · intro w'
                              go_simp
                              with_reducible rfl
                            rotate_left
                            · simp only [Act.put, List.setIfInBounds_toArray, List.set_cons_zero, List.set_cons_succ, i64_w, i32_w]
                              rfl
                            refine pure_ (i := 10) (N := some 39) (v := ?_) (a' := ?_) #[true, true, true, true, true, true, true, true, false, true, true, false, false, false, false, false, false, false, false] rfl rfl (any_of HT_.out (by kernel_rfl)) (fun _ _ _ h => h) (Or.inl ⟨by rfl, ?_⟩) ?_ ?_
                            rotate_left
                            · intro w'
                              go_simp
                              with_reducible rfl
                            rotate_left
                            · simp only [Act.put, List.setIfInBounds_toArray, List.set_cons_zero, List.set_cons_succ, i64_w, i32_w]
                              rfl
                            refine pure_ (i := 14) (N := some 43) (v := ?_) (a' := ?_) #[true, true, true, true, true, true, true, true, false, true, true, false, false, false, true, false, false, false, false] rfl rfl (any_of HT_.out (by kernel_rfl)) (fun _ _ _ h => h) (Or.inl ⟨by rfl, ?_⟩) ?_ ?_
                            rotate_left
                            · intro w'
                              go_simp
                              with_reducible rfl
                            rotate_left
                            · simp only [Act.put, List.setIfInBounds_toArray, List.set_cons_zero, List.set_cons_succ, i64_w, i32_w]
                              rfl
                            refine take_ (i := 8) (N := some 37) (v := ?_) (a' := ?_) #[true, true, true, true, true, true, true, true, true, true, true, false, false, false, true, false, false, false, false] rfl rfl (take_ofW HT_.out HW_.out (by kernel_rfl)) (fun _ _ _ h => h) (Or.inl ⟨by rfl, ?_⟩) hHeld ?_ ?_
                            rotate_left
                            · rintro w' ⟨s0, s1, s2, s3, s4, s5, s6⟩
                              go_simp
                              with_reducible rfl
                            rotate_left
                            · simp only [Act.put, List.setIfInBounds_toArray, List.set_cons_zero, List.set_cons_succ, i64_w, i32_w]
                              rfl
                            refine pure_ (i := 11) (N := some 40) (v := ?_) (a' := ?_) #[true, true, true, true, true, true, true, true, true, true, true, true, false, false, true, false, false, false, false] rfl rfl (any_of HT_.out (by kernel_rfl)) (fun _ _ _ h => h) (Or.inl ⟨by rfl, ?_⟩) ?_ ?_
                            rotate_left
                            · intro w'
                              go_simp
                              with_reducible rfl
                            rotate_left
                            · simp only [Act.put, List.setIfInBounds_toArray, List.set_cons_zero, List.set_cons_succ, i64_w, i32_w]
                              rfl
                            refine pure_ (i := 12) (N := some 41) (v := ?_) (a' := ?_) #[true, true, true, true, true, true, true, true, true, true, true, true, true, false, true, false, false, false, false] rfl rfl (any_of HT_.out (by kernel_rfl)) (fun _ _ _ h => h) (Or.inl ⟨by rfl, ?_⟩) ?_ ?_
                            rotate_left
                            · intro w'
                              go_simp
                              with_reducible rfl
                            rotate_left
                            · simp only [Act.put, List.setIfInBounds_toArray, List.set_cons_zero, List.set_cons_succ, i64_w, i32_w]
                              rfl
                            refine take_ (i := 13) (N := some 42) (v := ?_) (a' := ?_) #[true, true, true, true, true, true, true, true, true, true, true, true, true, true, true, false, false, false, false] rfl rfl (take_ofW HT_.out HW_.out (by kernel_rfl)) (fun _ _ _ h => h) (Or.inl ⟨by rfl, ?_⟩) hHeld ?_ ?_
                            rotate_left
                            · rintro w' ⟨s0, s1, s2, s3, s4, s5, s6⟩
                              go_simp
                              with_reducible rfl
                            rotate_left
                            · simp only [Act.put, List.setIfInBounds_toArray, List.set_cons_zero, List.set_cons_succ, i64_w, i32_w]
                              rfl
                            refine take_ (i := 15) (N := some 44) (v := ?_) (a' := ?_) #[true, true, true, true, true, true, true, true, true, true, true, true, true, true, true, true, false, false, false] rfl rfl (take_ofW HT_.out HW_.out (by kernel_rfl)) (fun _ _ _ h => h) (Or.inl ⟨by rfl, ?_⟩) hHeld ?_ ?_
                            rotate_left
                            · rintro w' ⟨s0, s1, s2, s3, s4, s5, s6⟩
                              go_simp
                              with_reducible rfl
                            rotate_left
                            · simp only [Act.put, List.setIfInBounds_toArray, List.set_cons_zero, List.set_cons_succ, i64_w, i32_w]
                              rfl
                            refine pure_ (i := 16) (N := some 45) (v := ?_) (a' := ?_) #[true, true, true, true, true, true, true, true, true, true, true, true, true, true, true, true, true, false, false] rfl rfl (any_of HT_.out (by kernel_rfl)) (fun _ _ _ h => h) (Or.inl ⟨by rfl, ?_⟩) ?_ ?_
                            rotate_left
                            · intro w'
                              go_simp
                              with_reducible rfl
                            rotate_left
                            · simp only [Act.put, List.setIfInBounds_toArray, List.set_cons_zero, List.set_cons_succ, i64_w, i32_w]
                              rfl
                            refine pure_ (i := 17) (N := some 46) (v := ?_) (a' := ?_) #[true, true, true, true, true, true, true, true, true, true, true, true, true, true, true, true, true, true, false] rfl rfl (any_of HT_.out (by kernel_rfl)) (fun _ _ _ h => h) (Or.inl ⟨by rfl, ?_⟩) ?_ ?_
                            rotate_left
                            · intro w'
                              go_simp
                              with_reducible rfl
                            rotate_left
                            · simp only [Act.put, List.setIfInBounds_toArray, List.set_cons_zero, List.set_cons_succ, i64_w, i32_w]
                              rfl
                            refine pure_ (i := 18) (N := some 47) (v := ?_) (a' := ?_) #[true, true, true, true, true, true, true, true, true, true, true, true, true, true, true, true, true, true, true] rfl rfl (any_of HT_.out (by kernel_rfl)) (fun _ _ _ h => h) (Or.inl ⟨by rfl, ?_⟩) ?_ ?_
                            rotate_left
                            · intro w'
                              go_simp
                              with_reducible rfl
                            rotate_left
                            · simp only [Act.put, List.setIfInBounds_toArray, List.set_cons_zero, List.set_cons_succ, i64_w, i32_w]
                              rfl
                            refine done_ (done_of HT_.out (by kernel_rfl)) ?_
                            try go_wp2
                            go_roundg k2
                            case measure => have := HJ1.out; have := HK2.out; omega
                            case rel => exact ⟨(wrap64 (x24_2 + 1)), (by first | rfl | (simp; done) | (simp [*]; done)), H', ⟨by have := HJ1.out; have := HK2.out; omega⟩, ⟨by (with_reducible repeat (first | refine blk_drewN ?_ _ | refine blk_drew ?_ | refine blk_alloc ?_ _)); exact BK122.out⟩, ⟨by repeat (first | (with_reducible first | exact HB.out | apply below_alloc | apply pw_below_drewN | apply below_drew1 | refine below_set ?_ GE122.out | refine below_set ?_ GE126.out) | exact HB.out)⟩⟩
                        · rw [if_neg c24] at H
                          exact absurd H (by simp)
                      · rw [if_neg c23] at H
                        exact absurd H (by simp)
                    · rw [if_neg c21] at H
                      have c21b0 : decide (0 < x24_2) = false := decide_eq_false c21
                      clear c21
                      have H' := Aside0.mk H
                      clear H
                      have p125 : 0 ≤ (x24_2 : Int) := of_decide_eq_true (by first | (with_reducible assumption) | assumption)
                      have q125 : x24_2 < (l0_2.length : Int) := of_decide_eq_true (by first | (with_reducible assumption) | assumption)
                      obtain ⟨ad125, e125, hx125_0, hx125_1⟩ := at_T25 HR0_2.out x24_2 p125 q125
                      cases e125
                      replace hx125_0 := (HB.out.cell (World.block_lt_of_cell? w _ hx125_0)).trans hx125_0
                      replace hx125_1 := (HB.out.cell (World.block_lt_of_cell? w _ hx125_1)).trans hx125_1
                      replace p125 := eq_true p125
                      replace q125 := eq_true q125
                      try go_wp2_with (first | ((with_reducible refine gate_dst (N := 4) rfl ?_); (try (refine gate_guard (by rfl) ?_; dsimp only)); refine box_event ?hg (N := 4) ?hd (cs := #[.int .i64 0, .string (⟨#[]⟩ : ByteArray)]) (t := 25) ?hr ?_; (case hd => rfl); (case hg => rfl); (case hr => first | (go_simp; done) | (go_simp; rfl)); intro gb126 hg w38 hbox hb; have n0_ := Aside0.mk (blk_below (g := gb122) (o := .cells #[.int .u64 a0_0, .string a0_1, .slice (some ad125) l0_2.length c0_2] 65 (0, 0)) (by (with_reducible repeat (first | refine blk_drewN ?_ _ | refine blk_drew ?_ | refine blk_alloc ?_ _)); exact BK122.out) hb); have n1_ := Aside0.mk (below_step (by repeat (first | (with_reducible first | exact HB.out | apply below_alloc | apply pw_below_drewN | apply below_drew1 | refine below_set ?_ GE122.out) | exact HB.out)) hb); have n2_ := Aside0.mk (hbox); have n3_ := Aside0.mk ((by rw [hg]; exact (below_size (by repeat (first | (with_reducible first | exact HB.out | apply below_alloc | apply pw_below_drewN | apply below_drew1 | refine below_set ?_ GE122.out) | exact HB.out))) : w.heap.size ≤ gb126)); have n4_ := Aside0.mk ((by rw [hg]; exact (below_size (by repeat (first | (with_reducible first | exact HB.out | apply below_alloc | apply pw_below_drewN | apply below_drew1 | refine below_set ?_ GE122.out) | exact HB.out))) : w.heap.size ≤ gb126)); have n5_ := Aside0.mk ((by rw [hg]; exact Nat.ne_of_lt (blk_lt (g := gb122) (o := .cells #[.int .u64 a0_0, .string a0_1, .slice (some ad125) l0_2.length c0_2] 65 (0, 0)) (by (with_reducible repeat (first | refine blk_drewN ?_ _ | refine blk_drew ?_ | refine blk_alloc ?_ _)); exact BK122.out)) : gb122 ≠ gb126)); have n6_ := Aside0.mk ((by rw [hg]; exact Nat.ne_of_gt (blk_lt (g := gb122) (o := .cells #[.int .u64 a0_0, .string a0_1, .slice (some ad125) l0_2.length c0_2] 65 (0, 0)) (by (with_reducible repeat (first | refine blk_drewN ?_ _ | refine blk_drew ?_ | refine blk_alloc ?_ _)); exact BK122.out)) : gb126 ≠ gb122)); clear BK122; clear HB; have BK122 := n0_; have HB := n1_; have BK126 := n2_; have GW126 := n3_; have GE126 := n4_; have NB122_126 := n5_; have NB126_122 := n6_; clear n0_ n1_ n2_ n3_ n4_ n5_ n6_; clear hb hbox hg; have hnb39 := NB126_122.out; have hnc39 := NB122_126.out; have hcz40_0 : w38.cell? ⟨gb126, 0, none⟩ = some (.int .i64 0) := (blk_cell BK126.out 0).trans rfl; have hcz40_1 : w38.cell? ⟨gb126, 1, none⟩ = some (.string (⟨#[]⟩ : ByteArray)) := (blk_cell BK126.out 1).trans rfl; have hfz40_0 := blk_frozen BK126.out 0; have hfz40_1 := blk_frozen BK126.out 1))
                      have n0_ : Aside0 (((w38.setCell ⟨gb126, 0, none⟩ (.int .i64 ((rd_T25 l0_2 x24_2).f0))).setCell ⟨gb126, 1, none⟩ (.string ((rd_T25 l0_2 x24_2).f1))).heap[gb122]? = some (.cells #[.int .u64 a0_0, .string a0_1, .slice (some ad125) l0_2.length c0_2] 65 (0, 0))) := ⟨by (with_reducible repeat (first | refine blk_drewN ?_ _ | refine blk_drew ?_ | refine blk_alloc ?_ _)); refine blk_far ?_ NB122_126.out _; (with_reducible repeat (first | refine blk_drewN ?_ _ | refine blk_drew ?_ | refine blk_alloc ?_ _)); refine blk_far ?_ NB122_126.out _; (with_reducible repeat (first | refine blk_drewN ?_ _ | refine blk_drew ?_ | refine blk_alloc ?_ _)); exact BK122.out⟩
                      have n1_ : Aside0 (((w38.setCell ⟨gb126, 0, none⟩ (.int .i64 ((rd_T25 l0_2 x24_2).f0))).setCell ⟨gb126, 1, none⟩ (.string ((rd_T25 l0_2 x24_2).f1))).heap[gb126]? = some (.cells #[.int .i64 ((rd_T25 l0_2 x24_2).f0), .string ((rd_T25 l0_2 x24_2).f1)] 25 (0, 0))) := ⟨by (with_reducible repeat (first | refine blk_drewN ?_ _ | refine blk_drew ?_ | refine blk_alloc ?_ _)); refine blk_put (cs := #[.int .i64 ((rd_T25 l0_2 x24_2).f0), .string (⟨#[]⟩ : ByteArray)]) ?_ 1 _ rfl; (with_reducible repeat (first | refine blk_drewN ?_ _ | refine blk_drew ?_ | refine blk_alloc ?_ _)); refine blk_put (cs := #[.int .i64 0, .string (⟨#[]⟩ : ByteArray)]) ?_ 0 _ rfl; (with_reducible repeat (first | refine blk_drewN ?_ _ | refine blk_drew ?_ | refine blk_alloc ?_ _)); exact BK126.out⟩
                      have n2_ : Aside0 (Below w.heap.size w ((w38.setCell ⟨gb126, 0, none⟩ (.int .i64 ((rd_T25 l0_2 x24_2).f0))).setCell ⟨gb126, 1, none⟩ (.string ((rd_T25 l0_2 x24_2).f1)))) := ⟨by repeat (first | (with_reducible first | exact HB.out | apply below_alloc | apply pw_below_drewN | apply below_drew1 | refine below_set ?_ GE122.out | refine below_set ?_ GE126.out) | exact HB.out)⟩
                      (try clear BK122)
                      (try clear BK126)
                      (try clear HB)
                      generalize ((w38.setCell ⟨gb126, 0, none⟩ (.int .i64 ((rd_T25 l0_2 x24_2).f0))).setCell ⟨gb126, 1, none⟩ (.string ((rd_T25 l0_2 x24_2).f1))) = w41 at n0_ n1_ n2_ ⊢
                      have BK122 := n0_
                      have BK126 := n1_
                      have HB := n2_
                      clear n0_ n1_ n2_
                      have n0_ := Aside0.mk (blk_drew BK122.out)
                      have n1_ := Aside0.mk (blk_drew BK126.out)
                      have n2_ := Aside0.mk (below_drew1 HB.out)
                      clear BK122
                      clear BK126
                      clear HB
                      have BK122 := n0_
                      have BK126 := n1_
                      have HB := n2_
                      clear n0_ n1_ n2_
                      refine start_ (n := 19) (S := fun w' => w'.cell? ⟨gb126, 0, none⟩ = some (.int .i64 ((rd_T25 l0_2 x24_2).f0)) ∧ w'.cell? ⟨gb126, 1, none⟩ = some (.string ((rd_T25 l0_2 x24_2).f1))) (ds := []) #[false, false, false, false, false, false, false, false, false, false, false, false, false, false, false, false, false, false, false] (by kernel_rfl) rfl rfl ⟨(blk_cell BK126.out 0).trans rfl, (blk_cell BK126.out 1).trans rfl⟩ (fun hHeld => ?_); refine with_tabW parts_upload_fine.tab6 parts_upload_fine.bits6 (fun HT_ HW_ => ?_)
                      generalize w41.drew = w42 at BK122 BK126 HB hHeld ⊢
                      refine take_ (i := 0) (N := some 29) (v := ?_) (a' := ?_) #[true, false, false, false, false, false, false, false, false, false, false, false, false, false, false, false, false, false, false] rfl rfl (take_ofW HT_.out HW_.out (by kernel_rfl)) (fun _ _ _ h => h) (Or.inl ⟨by rfl, ?_⟩) hHeld ?_ ?_
                      rotate_left
                      · rintro w' ⟨s0, s1⟩
                        go_simp
                        with_reducible rfl
                      rotate_left
                      · simp only [Act.put, List.setIfInBounds_toArray, List.set_cons_zero, List.set_cons_succ, i64_w, i32_w]
                        rfl
                      refine one_ (i := 1) (N := some 30) #[true, true, false, false, false, false, false, false, false, false, false, false, false, false, false, false, false, false, false] rfl rfl (one_of HT_.out (by kernel_rfl)) (by decide) (fun K hK => ?_)
                      refine goes_ Tryz.func24 (by kernel_rfl) rfl #[.agg #[.int .i64 ((rd_T25 l0_2 x24_2).f0), .string ((rd_T25 l0_2 x24_2).f1)]] (by rfl) rfl rfl (by (try simp only [List.map_toArray, List.map_cons, List.map_nil]); first | done | rfl | (simp only [List.length_drop, List.length_take]; rfl)) ?_
                      with_reducible refine (parts_may.calls ((rd_T25 l0_2 x24_2).f0) ((rd_T25 l0_2 x24_2).f1) true _ A19.out).mono ?_
                      rintro e w43 ⟨rfl, hb⟩
                      refine ⟨_, rfl, ?_⟩
                      have n0_ := Aside0.mk (blk_below (g := gb122) (o := .cells #[.int .u64 a0_0, .string a0_1, .slice (some ad125) l0_2.length c0_2] 65 (0, 0)) (by (with_reducible repeat (first | refine blk_drewN ?_ _ | refine blk_drew ?_ | refine blk_alloc ?_ _)); exact BK122.out) hb)
                      have n1_ := Aside0.mk (blk_below (g := gb126) (o := .cells #[.int .i64 ((rd_T25 l0_2 x24_2).f0), .string ((rd_T25 l0_2 x24_2).f1)] 25 (0, 0)) (by (with_reducible repeat (first | refine blk_drewN ?_ _ | refine blk_drew ?_ | refine blk_alloc ?_ _)); exact BK126.out) hb)
                      have n2_ := Aside0.mk (below_step (by repeat (first | (with_reducible first | exact HB.out | apply below_alloc | apply pw_below_drewN | apply below_drew1 | refine below_set ?_ GE122.out | refine below_set ?_ GE126.out) | exact HB.out)) hb)
                      clear BK122
                      clear BK126
                      clear HB
                      have BK122 := n0_
                      have BK126 := n1_
                      have HB := n2_
                      clear n0_ n1_ n2_
                      (try clear hb)
                      (try clear hb2)
                      (try clear hk)
                      (try clear hi)
                      refine hK.out _ _ ⟨(blk_cell BK126.out 0).trans rfl, (blk_cell BK126.out 1).trans rfl⟩ (fun hHeld => ?_)
                      clear hK K
                      refine norm_ (a' := ?_) ?_ ?_
                      rotate_left
                      · show Act.put _ (some 30) _ = _
                        simp only [Act.put, List.setIfInBounds_toArray, List.set_cons_zero, List.set_cons_succ, i64_w, i32_w]
                        rfl
                      refine pure_ (i := 2) (N := some 31) (v := ?_) (a' := ?_) #[true, true, true, false, false, false, false, false, false, false, false, false, false, false, false, false, false, false, false] rfl rfl (any_of HT_.out (by kernel_rfl)) (fun _ _ _ h => h) (Or.inl ⟨by rfl, ?_⟩) ?_ ?_
                      rotate_left
                      · intro w'
                        go_simp
                        with_reducible rfl
                      rotate_left
                      · simp only [Act.put, List.setIfInBounds_toArray, List.set_cons_zero, List.set_cons_succ, i64_w, i32_w]
                        rfl
                      refine pure_ (i := 3) (N := some 32) (v := ?_) (a' := ?_) #[true, true, true, true, false, false, false, false, false, false, false, false, false, false, false, false, false, false, false] rfl rfl (any_of HT_.out (by kernel_rfl)) (fun _ _ _ h => h) (Or.inl ⟨by rfl, ?_⟩) ?_ ?_
                      rotate_left
                      · intro w'
                        go_simp
                        with_reducible rfl
                      rotate_left
                      · simp only [Act.put, List.setIfInBounds_toArray, List.set_cons_zero, List.set_cons_succ, i64_w, i32_w]
                        rfl
                      refine pure_ (i := 4) (N := some 33) (v := ?_) (a' := ?_) #[true, true, true, true, true, false, false, false, false, false, false, false, false, false, false, false, false, false, false] rfl rfl (any_of HT_.out (by kernel_rfl)) (fun _ _ _ h => h) (Or.inl ⟨by rfl, ?_⟩) ?_ ?_
                      rotate_left
                      · intro w'
                        go_simp
                        with_reducible rfl
                      rotate_left
                      · simp only [Act.put, List.setIfInBounds_toArray, List.set_cons_zero, List.set_cons_succ, i64_w, i32_w]
                        rfl
                      refine pure_ (i := 5) (N := some 34) (v := ?_) (a' := ?_) #[true, true, true, true, true, true, false, false, false, false, false, false, false, false, false, false, false, false, false] rfl rfl (any_of HT_.out (by kernel_rfl)) (fun _ _ _ h => h) (Or.inl ⟨by rfl, ?_⟩) ?_ ?_
                      rotate_left
                      · intro w'
                        go_simp
                        with_reducible rfl
                      rotate_left
                      · simp only [Act.put, List.setIfInBounds_toArray, List.set_cons_zero, List.set_cons_succ, i64_w, i32_w]
                        rfl
                      refine pure_ (i := 6) (N := some 35) (v := ?_) (a' := ?_) #[true, true, true, true, true, true, true, false, false, false, false, false, false, false, false, false, false, false, false] rfl rfl (any_of HT_.out (by kernel_rfl)) (fun _ _ _ h => h) (Or.inl ⟨by rfl, ?_⟩) ?_ ?_
                      rotate_left
                      · intro w'
                        go_simp
                        with_reducible rfl
                      rotate_left
                      · simp only [Act.put, List.setIfInBounds_toArray, List.set_cons_zero, List.set_cons_succ, i64_w, i32_w]
                        rfl
                      refine pure_ (i := 7) (N := some 36) (v := undef) (a' := ?_) #[true, true, true, true, true, true, true, true, false, false, false, false, false, false, false, false, false, false, false] rfl rfl (any_of HT_.out (by kernel_rfl)) (fun _ _ _ h => h) (Or.inr ⟨by rfl, rfl⟩) ?_ ?_
                      rotate_left
                      · simp only [Act.put, List.setIfInBounds_toArray, List.set_cons_zero, List.set_cons_succ, i64_w, i32_w]
                        rfl
                      refine pure_ (i := 8) (N := some 37) (v := undef) (a' := ?_) #[true, true, true, true, true, true, true, true, true, false, false, false, false, false, false, false, false, false, false] rfl rfl (any_of HT_.out (by kernel_rfl)) (fun _ _ _ h => h) (Or.inr ⟨by rfl, rfl⟩) ?_ ?_
                      rotate_left
                      · simp only [Act.put, List.setIfInBounds_toArray, List.set_cons_zero, List.set_cons_succ, i64_w, i32_w]
                        rfl
                      refine pure_ (i := 9) (N := some 38) (v := undef) (a' := ?_) #[true, true, true, true, true, true, true, true, true, true, false, false, false, false, false, false, false, false, false] rfl rfl (any_of HT_.out (by kernel_rfl)) (fun _ _ _ h => h) (Or.inr ⟨by rfl, rfl⟩) ?_ ?_
                      rotate_left
                      · simp only [Act.put, List.setIfInBounds_toArray, List.set_cons_zero, List.set_cons_succ, i64_w, i32_w]
                        rfl
                      refine pure_ (i := 10) (N := some 39) (v := undef) (a' := ?_) #[true, true, true, true, true, true, true, true, true, true, true, false, false, false, false, false, false, false, false] rfl rfl (any_of HT_.out (by kernel_rfl)) (fun _ _ _ h => h) (Or.inr ⟨by rfl, rfl⟩) ?_ ?_
                      rotate_left
                      · simp only [Act.put, List.setIfInBounds_toArray, List.set_cons_zero, List.set_cons_succ, i64_w, i32_w]
                        rfl
                      refine pure_ (i := 11) (N := some 40) (v := undef) (a' := ?_) #[true, true, true, true, true, true, true, true, true, true, true, true, false, false, false, false, false, false, false] rfl rfl (any_of HT_.out (by kernel_rfl)) (fun _ _ _ h => h) (Or.inr ⟨by rfl, rfl⟩) ?_ ?_
                      rotate_left
                      · simp only [Act.put, List.setIfInBounds_toArray, List.set_cons_zero, List.set_cons_succ, i64_w, i32_w]
                        rfl
                      refine pure_ (i := 12) (N := some 41) (v := undef) (a' := ?_) #[true, true, true, true, true, true, true, true, true, true, true, true, true, false, false, false, false, false, false] rfl rfl (any_of HT_.out (by kernel_rfl)) (fun _ _ _ h => h) (Or.inr ⟨by rfl, rfl⟩) ?_ ?_
                      rotate_left
                      · simp only [Act.put, List.setIfInBounds_toArray, List.set_cons_zero, List.set_cons_succ, i64_w, i32_w]
                        rfl
                      refine pure_ (i := 13) (N := some 42) (v := undef) (a' := ?_) #[true, true, true, true, true, true, true, true, true, true, true, true, true, true, false, false, false, false, false] rfl rfl (any_of HT_.out (by kernel_rfl)) (fun _ _ _ h => h) (Or.inr ⟨by rfl, rfl⟩) ?_ ?_
                      rotate_left
                      · simp only [Act.put, List.setIfInBounds_toArray, List.set_cons_zero, List.set_cons_succ, i64_w, i32_w]
                        rfl
                      refine pure_ (i := 14) (N := some 43) (v := undef) (a' := ?_) #[true, true, true, true, true, true, true, true, true, true, true, true, true, true, true, false, false, false, false] rfl rfl (any_of HT_.out (by kernel_rfl)) (fun _ _ _ h => h) (Or.inr ⟨by rfl, rfl⟩) ?_ ?_
                      rotate_left
                      · simp only [Act.put, List.setIfInBounds_toArray, List.set_cons_zero, List.set_cons_succ, i64_w, i32_w]
                        rfl
                      refine pure_ (i := 15) (N := some 44) (v := undef) (a' := ?_) #[true, true, true, true, true, true, true, true, true, true, true, true, true, true, true, true, false, false, false] rfl rfl (any_of HT_.out (by kernel_rfl)) (fun _ _ _ h => h) (Or.inr ⟨by rfl, rfl⟩) ?_ ?_
                      rotate_left
                      · simp only [Act.put, List.setIfInBounds_toArray, List.set_cons_zero, List.set_cons_succ, i64_w, i32_w]
                        rfl
                      refine pure_ (i := 16) (N := some 45) (v := undef) (a' := ?_) #[true, true, true, true, true, true, true, true, true, true, true, true, true, true, true, true, true, false, false] rfl rfl (any_of HT_.out (by kernel_rfl)) (fun _ _ _ h => h) (Or.inr ⟨by rfl, rfl⟩) ?_ ?_
                      rotate_left
                      · simp only [Act.put, List.setIfInBounds_toArray, List.set_cons_zero, List.set_cons_succ, i64_w, i32_w]
                        rfl
                      refine pure_ (i := 17) (N := some 46) (v := ?_) (a' := ?_) #[true, true, true, true, true, true, true, true, true, true, true, true, true, true, true, true, true, true, false] rfl rfl (any_of HT_.out (by kernel_rfl)) (fun _ _ _ h => h) (Or.inl ⟨by rfl, ?_⟩) ?_ ?_
                      rotate_left
                      · intro w'
                        go_simp
                        with_reducible rfl
                      rotate_left
                      · simp only [Act.put, List.setIfInBounds_toArray, List.set_cons_zero, List.set_cons_succ, i64_w, i32_w]
                        rfl
                      refine pure_ (i := 18) (N := some 47) (v := ?_) (a' := ?_) #[true, true, true, true, true, true, true, true, true, true, true, true, true, true, true, true, true, true, true] rfl rfl (any_of HT_.out (by kernel_rfl)) (fun _ _ _ h => h) (Or.inl ⟨by rfl, ?_⟩) ?_ ?_
                      rotate_left
                      · intro w'
                        go_simp
                        with_reducible rfl
                      rotate_left
                      · simp only [Act.put, List.setIfInBounds_toArray, List.set_cons_zero, List.set_cons_succ, i64_w, i32_w]
                        rfl
                      refine done_ (done_of HT_.out (by kernel_rfl)) ?_
                      try go_wp2
                      go_roundg k2
                      case measure => have := HJ1.out; have := HK2.out; omega
                      case rel => exact ⟨(wrap64 (x24_2 + 1)), (by first | rfl | (simp; done) | (simp [*]; done)), H', ⟨by have := HJ1.out; have := HK2.out; omega⟩, ⟨by (with_reducible repeat (first | refine blk_drewN ?_ _ | refine blk_drew ?_ | refine blk_alloc ?_ _)); exact BK122.out⟩, ⟨by repeat (first | (with_reducible first | exact HB.out | apply below_alloc | apply pw_below_drewN | apply below_drew1 | refine below_set ?_ GE122.out | refine below_set ?_ GE126.out) | exact HB.out)⟩⟩
                  · replace c20 := Bool.eq_false_iff.mpr c20
                    subst c20
                    have H1 : (some false) = some r := by rw [if_neg (show ¬ (false = true) by decide)] at H; exact H
                    clear H
                    have H := H1
                    clear H1
                    obtain rfl := Option.some.inj H
                    have p125 : 0 ≤ (x24_2 : Int) := of_decide_eq_true (by first | (with_reducible assumption) | assumption)
                    have q125 : x24_2 < (l0_2.length : Int) := of_decide_eq_true (by first | (with_reducible assumption) | assumption)
                    obtain ⟨ad125, e125, hx125_0, hx125_1⟩ := at_T25 HR0_2.out x24_2 p125 q125
                    cases e125
                    replace hx125_0 := (HB.out.cell (World.block_lt_of_cell? w _ hx125_0)).trans hx125_0
                    replace hx125_1 := (HB.out.cell (World.block_lt_of_cell? w _ hx125_1)).trans hx125_1
                    replace p125 := eq_true p125
                    replace q125 := eq_true q125
                    try go_wp2_with (first | ((with_reducible refine gate_dst (N := 4) rfl ?_); (try (refine gate_guard (by rfl) ?_; dsimp only)); refine box_event ?hg (N := 4) ?hd (cs := #[.int .i64 0, .string (⟨#[]⟩ : ByteArray)]) (t := 25) ?hr ?_; (case hd => rfl); (case hg => rfl); (case hr => first | (go_simp; done) | (go_simp; rfl)); intro gb126 hg w44 hbox hb; have n0_ := Aside0.mk (blk_below (g := gb122) (o := .cells #[.int .u64 a0_0, .string a0_1, .slice (some ad125) l0_2.length c0_2] 65 (0, 0)) (by (with_reducible repeat (first | refine blk_drewN ?_ _ | refine blk_drew ?_ | refine blk_alloc ?_ _)); exact BK122.out) hb); have n1_ := Aside0.mk (below_step (by repeat (first | (with_reducible first | exact HB.out | apply below_alloc | apply pw_below_drewN | apply below_drew1 | refine below_set ?_ GE122.out) | exact HB.out)) hb); have n2_ := Aside0.mk (hbox); have n3_ := Aside0.mk ((by rw [hg]; exact (below_size (by repeat (first | (with_reducible first | exact HB.out | apply below_alloc | apply pw_below_drewN | apply below_drew1 | refine below_set ?_ GE122.out) | exact HB.out))) : w.heap.size ≤ gb126)); have n4_ := Aside0.mk ((by rw [hg]; exact (below_size (by repeat (first | (with_reducible first | exact HB.out | apply below_alloc | apply pw_below_drewN | apply below_drew1 | refine below_set ?_ GE122.out) | exact HB.out))) : w.heap.size ≤ gb126)); have n5_ := Aside0.mk ((by rw [hg]; exact Nat.ne_of_lt (blk_lt (g := gb122) (o := .cells #[.int .u64 a0_0, .string a0_1, .slice (some ad125) l0_2.length c0_2] 65 (0, 0)) (by (with_reducible repeat (first | refine blk_drewN ?_ _ | refine blk_drew ?_ | refine blk_alloc ?_ _)); exact BK122.out)) : gb122 ≠ gb126)); have n6_ := Aside0.mk ((by rw [hg]; exact Nat.ne_of_gt (blk_lt (g := gb122) (o := .cells #[.int .u64 a0_0, .string a0_1, .slice (some ad125) l0_2.length c0_2] 65 (0, 0)) (by (with_reducible repeat (first | refine blk_drewN ?_ _ | refine blk_drew ?_ | refine blk_alloc ?_ _)); exact BK122.out)) : gb126 ≠ gb122)); clear BK122; clear HB; have BK122 := n0_; have HB := n1_; have BK126 := n2_; have GW126 := n3_; have GE126 := n4_; have NB122_126 := n5_; have NB126_122 := n6_; clear n0_ n1_ n2_ n3_ n4_ n5_ n6_; clear hb hbox hg; have hnb45 := NB126_122.out; have hnc45 := NB122_126.out; have hcz46_0 : w44.cell? ⟨gb126, 0, none⟩ = some (.int .i64 0) := (blk_cell BK126.out 0).trans rfl; have hcz46_1 : w44.cell? ⟨gb126, 1, none⟩ = some (.string (⟨#[]⟩ : ByteArray)) := (blk_cell BK126.out 1).trans rfl; have hfz46_0 := blk_frozen BK126.out 0; have hfz46_1 := blk_frozen BK126.out 1))
                    have n0_ : Aside0 (((w44.setCell ⟨gb126, 0, none⟩ (.int .i64 ((rd_T25 l0_2 x24_2).f0))).setCell ⟨gb126, 1, none⟩ (.string ((rd_T25 l0_2 x24_2).f1))).heap[gb122]? = some (.cells #[.int .u64 a0_0, .string a0_1, .slice (some ad125) l0_2.length c0_2] 65 (0, 0))) := ⟨by (with_reducible repeat (first | refine blk_drewN ?_ _ | refine blk_drew ?_ | refine blk_alloc ?_ _)); refine blk_far ?_ NB122_126.out _; (with_reducible repeat (first | refine blk_drewN ?_ _ | refine blk_drew ?_ | refine blk_alloc ?_ _)); refine blk_far ?_ NB122_126.out _; (with_reducible repeat (first | refine blk_drewN ?_ _ | refine blk_drew ?_ | refine blk_alloc ?_ _)); exact BK122.out⟩
                    have n1_ : Aside0 (((w44.setCell ⟨gb126, 0, none⟩ (.int .i64 ((rd_T25 l0_2 x24_2).f0))).setCell ⟨gb126, 1, none⟩ (.string ((rd_T25 l0_2 x24_2).f1))).heap[gb126]? = some (.cells #[.int .i64 ((rd_T25 l0_2 x24_2).f0), .string ((rd_T25 l0_2 x24_2).f1)] 25 (0, 0))) := ⟨by (with_reducible repeat (first | refine blk_drewN ?_ _ | refine blk_drew ?_ | refine blk_alloc ?_ _)); refine blk_put (cs := #[.int .i64 ((rd_T25 l0_2 x24_2).f0), .string (⟨#[]⟩ : ByteArray)]) ?_ 1 _ rfl; (with_reducible repeat (first | refine blk_drewN ?_ _ | refine blk_drew ?_ | refine blk_alloc ?_ _)); refine blk_put (cs := #[.int .i64 0, .string (⟨#[]⟩ : ByteArray)]) ?_ 0 _ rfl; (with_reducible repeat (first | refine blk_drewN ?_ _ | refine blk_drew ?_ | refine blk_alloc ?_ _)); exact BK126.out⟩
                    have n2_ : Aside0 (Below w.heap.size w ((w44.setCell ⟨gb126, 0, none⟩ (.int .i64 ((rd_T25 l0_2 x24_2).f0))).setCell ⟨gb126, 1, none⟩ (.string ((rd_T25 l0_2 x24_2).f1)))) := ⟨by repeat (first | (with_reducible first | exact HB.out | apply below_alloc | apply pw_below_drewN | apply below_drew1 | refine below_set ?_ GE122.out | refine below_set ?_ GE126.out) | exact HB.out)⟩
                    (try clear BK122)
                    (try clear BK126)
                    (try clear HB)
                    generalize ((w44.setCell ⟨gb126, 0, none⟩ (.int .i64 ((rd_T25 l0_2 x24_2).f0))).setCell ⟨gb126, 1, none⟩ (.string ((rd_T25 l0_2 x24_2).f1))) = w47 at n0_ n1_ n2_ ⊢
                    have BK122 := n0_
                    have BK126 := n1_
                    have HB := n2_
                    clear n0_ n1_ n2_
                    have n0_ := Aside0.mk (blk_drew BK122.out)
                    have n1_ := Aside0.mk (blk_drew BK126.out)
                    have n2_ := Aside0.mk (below_drew1 HB.out)
                    clear BK122
                    clear BK126
                    clear HB
                    have BK122 := n0_
                    have BK126 := n1_
                    have HB := n2_
                    clear n0_ n1_ n2_
                    refine start_ (n := 19) (S := fun w' => w'.cell? ⟨gb126, 0, none⟩ = some (.int .i64 ((rd_T25 l0_2 x24_2).f0)) ∧ w'.cell? ⟨gb126, 1, none⟩ = some (.string ((rd_T25 l0_2 x24_2).f1))) (ds := []) #[false, false, false, false, false, false, false, false, false, false, false, false, false, false, false, false, false, false, false] (by kernel_rfl) rfl rfl ⟨(blk_cell BK126.out 0).trans rfl, (blk_cell BK126.out 1).trans rfl⟩ (fun hHeld => ?_); refine with_tabW parts_upload_fine.tab6 parts_upload_fine.bits6 (fun HT_ HW_ => ?_)
                    generalize w47.drew = w48 at BK122 BK126 HB hHeld ⊢
                    refine take_ (i := 0) (N := some 29) (v := ?_) (a' := ?_) #[true, false, false, false, false, false, false, false, false, false, false, false, false, false, false, false, false, false, false] rfl rfl (take_ofW HT_.out HW_.out (by kernel_rfl)) (fun _ _ _ h => h) (Or.inl ⟨by rfl, ?_⟩) hHeld ?_ ?_
                    rotate_left
                    · rintro w' ⟨s0, s1⟩
                      go_simp
                      with_reducible rfl
                    rotate_left
                    · simp only [Act.put, List.setIfInBounds_toArray, List.set_cons_zero, List.set_cons_succ, i64_w, i32_w]
                      rfl
                    refine one_ (i := 1) (N := some 30) #[true, true, false, false, false, false, false, false, false, false, false, false, false, false, false, false, false, false, false] rfl rfl (one_of HT_.out (by kernel_rfl)) (by decide) (fun K hK => ?_)
                    refine goes_ Tryz.func24 (by kernel_rfl) rfl #[.agg #[.int .i64 ((rd_T25 l0_2 x24_2).f0), .string ((rd_T25 l0_2 x24_2).f1)]] (by rfl) rfl rfl (by (try simp only [List.map_toArray, List.map_cons, List.map_nil]); first | done | rfl | (simp only [List.length_drop, List.length_take]; rfl)) ?_
                    with_reducible refine (parts_may.calls ((rd_T25 l0_2 x24_2).f0) ((rd_T25 l0_2 x24_2).f1) false _ A19.out).mono ?_
                    rintro e w49 ⟨rfl, hb⟩
                    refine ⟨_, rfl, ?_⟩
                    have n0_ := Aside0.mk (blk_below (g := gb122) (o := .cells #[.int .u64 a0_0, .string a0_1, .slice (some ad125) l0_2.length c0_2] 65 (0, 0)) (by (with_reducible repeat (first | refine blk_drewN ?_ _ | refine blk_drew ?_ | refine blk_alloc ?_ _)); exact BK122.out) hb)
                    have n1_ := Aside0.mk (blk_below (g := gb126) (o := .cells #[.int .i64 ((rd_T25 l0_2 x24_2).f0), .string ((rd_T25 l0_2 x24_2).f1)] 25 (0, 0)) (by (with_reducible repeat (first | refine blk_drewN ?_ _ | refine blk_drew ?_ | refine blk_alloc ?_ _)); exact BK126.out) hb)
                    have n2_ := Aside0.mk (below_step (by repeat (first | (with_reducible first | exact HB.out | apply below_alloc | apply pw_below_drewN | apply below_drew1 | refine below_set ?_ GE122.out | refine below_set ?_ GE126.out) | exact HB.out)) hb)
                    clear BK122
                    clear BK126
                    clear HB
                    have BK122 := n0_
                    have BK126 := n1_
                    have HB := n2_
                    clear n0_ n1_ n2_
                    (try clear hb)
                    (try clear hb2)
                    (try clear hk)
                    (try clear hi)
                    refine hK.out _ _ ⟨(blk_cell BK126.out 0).trans rfl, (blk_cell BK126.out 1).trans rfl⟩ (fun hHeld => ?_)
                    clear hK K
                    refine norm_ (a' := ?_) ?_ ?_
                    rotate_left
                    · show Act.put _ (some 30) _ = _
                      simp only [Act.put, List.setIfInBounds_toArray, List.set_cons_zero, List.set_cons_succ, i64_w, i32_w]
                      rfl
                    refine pure_ (i := 2) (N := some 31) (v := ?_) (a' := ?_) #[true, true, true, false, false, false, false, false, false, false, false, false, false, false, false, false, false, false, false] rfl rfl (any_of HT_.out (by kernel_rfl)) (fun _ _ _ h => h) (Or.inl ⟨by rfl, ?_⟩) ?_ ?_
                    rotate_left
                    · intro w'
                      go_simp
                      with_reducible rfl
                    rotate_left
                    · simp only [Act.put, List.setIfInBounds_toArray, List.set_cons_zero, List.set_cons_succ, i64_w, i32_w]
                      rfl
                    refine pure_ (i := 3) (N := some 32) (v := ?_) (a' := ?_) #[true, true, true, true, false, false, false, false, false, false, false, false, false, false, false, false, false, false, false] rfl rfl (any_of HT_.out (by kernel_rfl)) (fun _ _ _ h => h) (Or.inl ⟨by rfl, ?_⟩) ?_ ?_
                    rotate_left
                    · intro w'
                      go_simp
                      with_reducible rfl
                    rotate_left
                    · simp only [Act.put, List.setIfInBounds_toArray, List.set_cons_zero, List.set_cons_succ, i64_w, i32_w]
                      rfl
                    refine pure_ (i := 4) (N := some 33) (v := undef) (a' := ?_) #[true, true, true, true, true, false, false, false, false, false, false, false, false, false, false, false, false, false, false] rfl rfl (any_of HT_.out (by kernel_rfl)) (fun _ _ _ h => h) (Or.inr ⟨by rfl, rfl⟩) ?_ ?_
                    rotate_left
                    · simp only [Act.put, List.setIfInBounds_toArray, List.set_cons_zero, List.set_cons_succ, i64_w, i32_w]
                      rfl
                    refine pure_ (i := 5) (N := some 34) (v := undef) (a' := ?_) #[true, true, true, true, true, true, false, false, false, false, false, false, false, false, false, false, false, false, false] rfl rfl (any_of HT_.out (by kernel_rfl)) (fun _ _ _ h => h) (Or.inr ⟨by rfl, rfl⟩) ?_ ?_
                    rotate_left
                    · simp only [Act.put, List.setIfInBounds_toArray, List.set_cons_zero, List.set_cons_succ, i64_w, i32_w]
                      rfl
                    refine pure_ (i := 6) (N := some 35) (v := undef) (a' := ?_) #[true, true, true, true, true, true, true, false, false, false, false, false, false, false, false, false, false, false, false] rfl rfl (any_of HT_.out (by kernel_rfl)) (fun _ _ _ h => h) (Or.inr ⟨by rfl, rfl⟩) ?_ ?_
                    rotate_left
                    · simp only [Act.put, List.setIfInBounds_toArray, List.set_cons_zero, List.set_cons_succ, i64_w, i32_w]
                      rfl
                    refine pure_ (i := 7) (N := some 36) (v := undef) (a' := ?_) #[true, true, true, true, true, true, true, true, false, false, false, false, false, false, false, false, false, false, false] rfl rfl (any_of HT_.out (by kernel_rfl)) (fun _ _ _ h => h) (Or.inr ⟨by rfl, rfl⟩) ?_ ?_
                    rotate_left
                    · simp only [Act.put, List.setIfInBounds_toArray, List.set_cons_zero, List.set_cons_succ, i64_w, i32_w]
                      rfl
                    refine pure_ (i := 8) (N := some 37) (v := undef) (a' := ?_) #[true, true, true, true, true, true, true, true, true, false, false, false, false, false, false, false, false, false, false] rfl rfl (any_of HT_.out (by kernel_rfl)) (fun _ _ _ h => h) (Or.inr ⟨by rfl, rfl⟩) ?_ ?_
                    rotate_left
                    · simp only [Act.put, List.setIfInBounds_toArray, List.set_cons_zero, List.set_cons_succ, i64_w, i32_w]
                      rfl
                    refine pure_ (i := 9) (N := some 38) (v := undef) (a' := ?_) #[true, true, true, true, true, true, true, true, true, true, false, false, false, false, false, false, false, false, false] rfl rfl (any_of HT_.out (by kernel_rfl)) (fun _ _ _ h => h) (Or.inr ⟨by rfl, rfl⟩) ?_ ?_
                    rotate_left
                    · simp only [Act.put, List.setIfInBounds_toArray, List.set_cons_zero, List.set_cons_succ, i64_w, i32_w]
                      rfl
                    refine pure_ (i := 10) (N := some 39) (v := undef) (a' := ?_) #[true, true, true, true, true, true, true, true, true, true, true, false, false, false, false, false, false, false, false] rfl rfl (any_of HT_.out (by kernel_rfl)) (fun _ _ _ h => h) (Or.inr ⟨by rfl, rfl⟩) ?_ ?_
                    rotate_left
                    · simp only [Act.put, List.setIfInBounds_toArray, List.set_cons_zero, List.set_cons_succ, i64_w, i32_w]
                      rfl
                    refine pure_ (i := 11) (N := some 40) (v := undef) (a' := ?_) #[true, true, true, true, true, true, true, true, true, true, true, true, false, false, false, false, false, false, false] rfl rfl (any_of HT_.out (by kernel_rfl)) (fun _ _ _ h => h) (Or.inr ⟨by rfl, rfl⟩) ?_ ?_
                    rotate_left
                    · simp only [Act.put, List.setIfInBounds_toArray, List.set_cons_zero, List.set_cons_succ, i64_w, i32_w]
                      rfl
                    refine pure_ (i := 12) (N := some 41) (v := undef) (a' := ?_) #[true, true, true, true, true, true, true, true, true, true, true, true, true, false, false, false, false, false, false] rfl rfl (any_of HT_.out (by kernel_rfl)) (fun _ _ _ h => h) (Or.inr ⟨by rfl, rfl⟩) ?_ ?_
                    rotate_left
                    · simp only [Act.put, List.setIfInBounds_toArray, List.set_cons_zero, List.set_cons_succ, i64_w, i32_w]
                      rfl
                    refine pure_ (i := 13) (N := some 42) (v := undef) (a' := ?_) #[true, true, true, true, true, true, true, true, true, true, true, true, true, true, false, false, false, false, false] rfl rfl (any_of HT_.out (by kernel_rfl)) (fun _ _ _ h => h) (Or.inr ⟨by rfl, rfl⟩) ?_ ?_
                    rotate_left
                    · simp only [Act.put, List.setIfInBounds_toArray, List.set_cons_zero, List.set_cons_succ, i64_w, i32_w]
                      rfl
                    refine pure_ (i := 14) (N := some 43) (v := undef) (a' := ?_) #[true, true, true, true, true, true, true, true, true, true, true, true, true, true, true, false, false, false, false] rfl rfl (any_of HT_.out (by kernel_rfl)) (fun _ _ _ h => h) (Or.inr ⟨by rfl, rfl⟩) ?_ ?_
                    rotate_left
                    · simp only [Act.put, List.setIfInBounds_toArray, List.set_cons_zero, List.set_cons_succ, i64_w, i32_w]
                      rfl
                    refine pure_ (i := 15) (N := some 44) (v := undef) (a' := ?_) #[true, true, true, true, true, true, true, true, true, true, true, true, true, true, true, true, false, false, false] rfl rfl (any_of HT_.out (by kernel_rfl)) (fun _ _ _ h => h) (Or.inr ⟨by rfl, rfl⟩) ?_ ?_
                    rotate_left
                    · simp only [Act.put, List.setIfInBounds_toArray, List.set_cons_zero, List.set_cons_succ, i64_w, i32_w]
                      rfl
                    refine pure_ (i := 16) (N := some 45) (v := undef) (a' := ?_) #[true, true, true, true, true, true, true, true, true, true, true, true, true, true, true, true, true, false, false] rfl rfl (any_of HT_.out (by kernel_rfl)) (fun _ _ _ h => h) (Or.inr ⟨by rfl, rfl⟩) ?_ ?_
                    rotate_left
                    · simp only [Act.put, List.setIfInBounds_toArray, List.set_cons_zero, List.set_cons_succ, i64_w, i32_w]
                      rfl
                    refine pure_ (i := 17) (N := some 46) (v := undef) (a' := ?_) #[true, true, true, true, true, true, true, true, true, true, true, true, true, true, true, true, true, true, false] rfl rfl (any_of HT_.out (by kernel_rfl)) (fun _ _ _ h => h) (Or.inr ⟨by rfl, rfl⟩) ?_ ?_
                    rotate_left
                    · simp only [Act.put, List.setIfInBounds_toArray, List.set_cons_zero, List.set_cons_succ, i64_w, i32_w]
                      rfl
                    refine pure_ (i := 18) (N := some 47) (v := ?_) (a' := ?_) #[true, true, true, true, true, true, true, true, true, true, true, true, true, true, true, true, true, true, true] rfl rfl (any_of HT_.out (by kernel_rfl)) (fun _ _ _ h => h) (Or.inl ⟨by rfl, ?_⟩) ?_ ?_
                    rotate_left
                    · intro w'
                      go_simp
                      with_reducible rfl
                    rotate_left
                    · simp only [Act.put, List.setIfInBounds_toArray, List.set_cons_zero, List.set_cons_succ, i64_w, i32_w]
                      rfl
                    refine done_ (done_of HT_.out (by kernel_rfl)) ?_
                    try go_wp2
                    go_ret
                    exact ⟨by first | rfl | (simp [errW_none, errW_some] <;> rfl) | (simp [*, errW_none, errW_some] <;> rfl), by repeat (first | (with_reducible first | exact HB.out | apply below_alloc | apply pw_below_drewN | apply below_drew1 | refine below_set ?_ GE122.out | refine below_set ?_ GE126.out) | exact HB.out)⟩
                · rw [if_neg c18] at H
                  exact absurd H (by simp)
              · rw [if_neg c17] at H
                exact absurd H (by simp)
            · rw [if_neg c16] at H
              have c16b0 : decide (x24_2 < (l0_2.length : Int)) = false := decide_eq_false c16
              clear c16
              obtain rfl := Option.some.inj H
              go_wp2
              go_ret
              exact ⟨by first | rfl | (simp [errW_none, errW_some] <;> rfl) | (simp [*, errW_none, errW_some] <;> rfl), by repeat (first | (with_reducible first | exact HB.out | apply below_alloc | apply pw_below_drewN | apply below_drew1 | refine below_set ?_ GE122.out) | exact HB.out)⟩

end Go.Proofs.YtgpmkbmobdbdoaaGreatDoor.Q

-- Rx4
namespace Go.Proofs.YtgpmkbmobdbdoaaGreatDoor.Q
open Go.RowKit Go.Proofs.YtgpmkbmobdbdoaaGreatDoorW.PrintWords Go.Proofs.YtgpmkbmobdbdoaaGreatDoorW.PrintLast Go.Proofs.YtgpmkbmobdbdoaaGreatDoorW.PrintMore
attribute [local go_sem] max2_int min2_int max_two min_two max_three min_three max_four min_four   -- for this text's walks alone
set_option linter.unusedVariables false
set_option linter.unusedSimpArgs false

/-! ### parts_Check: function 14 -/
def parts_Check.l0 : Nat → List (S40) → List (S40) → Int → Int → Option (Int)
  | 0, _, _, _, _ => none
  | k + 1, x0, x8, x9, x10 => if x10 < x9 then (if 0 ≤ x10 then (if x10 < (x8.length : Int) then ((parts_upload_fine.f k ((rd_T40 x8 x10).f0) ((rd_T40 x8 x10).f1) ((rd_T40 x8 x10).f2)).bind fun t131 => (if t131 = true then (if x10 > 0 then (if 0 ≤ (wrap64 (x10 - 1)) then (if (wrap64 (x10 - 1)) < (x0.length : Int) then (if ((rd_T40 x0 (wrap64 (x10 - 1))).f0) ≥ ((rd_T40 x8 x10).f0) then (some 1) else (parts_Check.l0 k x0 x8 x9 (wrap64 (x10 + 1)))) else (none)) else (none)) else (parts_Check.l0 k x0 x8 x9 (wrap64 (x10 + 1)))) else (some 1))) else (none)) else (none)) else (some 0)
def parts_Check.f (k : Nat) (l0 : List (S40)) : Option (Int) := if (l0.length : Int) > 10 then (some 1) else (parts_Check.l0 k l0 l0 (l0.length : Int) 0)
theorem parts_Check.mono_l : ∀ k, (∀ y0 y1 y2 y3, LeO (parts_Check.l0 k y0 y1 y2 y3) (parts_Check.l0 (k + 1) y0 y1 y2 y3))
  | 0 => fun _ _ _ _ r h => by simp [parts_Check.l0] at h
  | k + 1 => by
    have ih0 := parts_Check.mono_l k
    · intro y0 y1 y2 y3
      unfold parts_Check.l0
      repeat' first
      | (with_reducible exact ih0 _ _ _ _)
      | (with_reducible exact parts_upload_fine.mono _ _ _ _)
      | (with_reducible exact LeO.refl _)
      | (with_reducible exact LeO.none _)
      | (with_reducible refine LeO.ite ?_ ?_)
      | (with_reducible refine LeO.bind ?_ (fun _ => ?_))
      | exact ih0 _ _ _ _
      | exact parts_upload_fine.mono _ _ _ _
      | exact LeO.none _
      | refine LeO.ite ?_ ?_
      | refine LeO.bind ?_ (fun _ => ?_)
theorem parts_Check.mono : ∀ a0 k, LeO (parts_Check.f k a0) (parts_Check.f (k + 1) a0) := by
  intro a0 k
  have ih0 := parts_Check.mono_l k
  unfold parts_Check.f
  repeat' first
      | (with_reducible exact ih0 _ _ _ _)
      | (with_reducible exact parts_upload_fine.mono _ _ _ _)
      | (with_reducible exact LeO.refl _)
      | (with_reducible exact LeO.none _)
      | (with_reducible refine LeO.ite ?_ ?_)
      | (with_reducible refine LeO.bind ?_ (fun _ => ?_))
      | exact ih0 _ _ _ _
      | exact parts_upload_fine.mono _ _ _ _
      | exact LeO.none _
      | refine LeO.ite ?_ ?_
      | refine LeO.bind ?_ (fun _ => ?_)
def parts_Check.T6 : Bool × List (List Nat × List Nat) := (true, [([], []), ([0], [0]), ([1], [1]), ([2, 1], [2]), ([3], [3]), ([4, 3], [3, 4]), ([5, 3, 3], [3, 5]), ([6], [6]), ([6], [6]), ([8, 6], [6, 8]), ([7, 9, 6], [6, 7, 9]), ([10, 6], [6, 10]), ([11, 6], [6, 11]), ([6], [6]), ([13, 6], [6, 13]), ([12, 14, 6], [6, 12, 14]), ([6, 15, 3], [3, 6, 15]), ([3, 16], [3, 16])])
def parts_Check.B6 : List Nat := [0, 1, 3, 7, 15, 31, 63, 127, 127, 383, 1023, 2047, 4095, 127, 8319, 32767, 65535, 131071]
theorem parts_Check.tab6 : rtab .any (opsOf Tryz.f14 6) = parts_Check.T6 := by kernel_rfl
theorem parts_Check.bits6 : waitsOk parts_Check.T6.2 parts_Check.B6 = true := by kernel_rfl
set_option maxHeartbeats 8000000 in
set_option maxRecDepth 100000 in
theorem parts_Check.calls (k : Nat) (A0 : Option Addr) (c0 : Nat) (l0 : List (S40)) (r : Int) (w : World) (hr0 : Kd.C k40 w A0 l0.length l0) (hc0 : l0.length ≤ c0) (h : parts_Check.f k l0 = some r) :
    Calls Tryz.prog 14 #[.slice A0 l0.length c0] w fun e w' => e = .returned (.int .i64 r) ∧ Below w.heap.size w w' := by
  have hu40 := Tryz.underlying40
  have HR0 := Aside0.mk hr0
  have HC0 := Aside0.mk hc0
  clear hr0 hc0
  have HB := Aside0.mk (Below.refl w.heap.size w)
  have H : (if (l0.length : Int) > 10 then (some 1) else (parts_Check.l0 k l0 l0 (l0.length : Int) 0)) = some r := h
  clear h
  by_cases c2 : (l0.length : Int) > 10
  · rw [if_pos c2] at H
    have c2b0 : decide (10 < (l0.length : Int)) = true := decide_eq_true c2
    have c2b1 : decide (10 < l0.length) = true := decide_eq_true (by omega)
    clear c2
    obtain rfl := Option.some.inj H
    go_enter Tryz.func14, Tryz.ntmps14
    go_wp2
    go_ret
    exact ⟨by first | rfl | (simp [errW_none, errW_some] <;> rfl) | (simp [*, errW_none, errW_some] <;> rfl), by repeat (first | (with_reducible first | exact HB.out | apply below_alloc | apply pw_below_drewN | apply below_drew1) | exact HB.out)⟩
  · rw [if_neg c2] at H
    have c2b0 : decide (10 < (l0.length : Int)) = false := decide_eq_false c2
    have c2b1 : decide (10 < l0.length) = false := decide_eq_false (by omega)
    clear c2
    have H' := Aside0.mk H
    clear H
    go_enter Tryz.func14, Tryz.ntmps14
    go_wp2
    go_loopg [10] k (fun kq v10 w' => ∃ (x10_1 : Int), v10 = .int .i64 x10_1 ∧ Aside0 (parts_Check.l0 kq l0 l0 (l0.length : Int) x10_1 = some r) ∧ Aside0 (kq ≤ k) ∧ Aside0 (Below w.heap.size w w'))
    case atStart => exact ⟨(0), (by first | rfl | (simp; done) | (simp [*]; done)), H', ⟨Nat.le_refl _⟩, ⟨by repeat (first | (with_reducible first | exact HB.out | apply below_alloc | apply pw_below_drewN | apply below_drew1) | exact HB.out)⟩⟩
    case round =>
      clear H'
      try clear c1
      try clear c2
      try clear c2b0
      try clear c2b1
      try clear p2
      obtain ⟨x10_1, rfl, HA, HK1, HB⟩ := hrel
      cases gk with
      | zero => exact absurd HA.out (by simp [parts_Check.l0])
      | succ k1 =>
        have H := HA.out
        clear HA
        simp only [parts_Check.l0] at H
        by_cases c3 : x10_1 < (l0.length : Int)
        · rw [if_pos c3] at H
          have c3b0 : decide (x10_1 < (l0.length : Int)) = true := decide_eq_true c3
          clear c3
          by_cases c4 : 0 ≤ x10_1
          · rw [if_pos c4] at H
            have c4b0 : decide (0 ≤ x10_1) = true := decide_eq_true c4
            clear c4
            by_cases c5 : x10_1 < (l0.length : Int)
            · rw [if_pos c5] at H
              have c5b0 : decide (x10_1 < (l0.length : Int)) = true := decide_eq_true c5
              clear c5
              replace H := Option.bind_eq_some_iff.mp H
              obtain ⟨t131, A60, H⟩ := H
              replace H : (if t131 = true then (if x10_1 > 0 then (if 0 ≤ (wrap64 (x10_1 - 1)) then (if (wrap64 (x10_1 - 1)) < (l0.length : Int) then (if ((rd_T40 l0 (wrap64 (x10_1 - 1))).f0) ≥ ((rd_T40 l0 x10_1).f0) then (some 1) else (parts_Check.l0 k1 l0 l0 (l0.length : Int) (wrap64 (x10_1 + 1)))) else (none)) else (none)) else (parts_Check.l0 k1 l0 l0 (l0.length : Int) (wrap64 (x10_1 + 1)))) else (some 1)) = some r := H
              have A6 := Aside0.mk A60
              clear A60
              by_cases c7 : t131 = true
              · subst c7
                have H1 : (if x10_1 > 0 then (if 0 ≤ (wrap64 (x10_1 - 1)) then (if (wrap64 (x10_1 - 1)) < (l0.length : Int) then (if ((rd_T40 l0 (wrap64 (x10_1 - 1))).f0) ≥ ((rd_T40 l0 x10_1).f0) then (some 1) else (parts_Check.l0 k1 l0 l0 (l0.length : Int) (wrap64 (x10_1 + 1)))) else (none)) else (none)) else (parts_Check.l0 k1 l0 l0 (l0.length : Int) (wrap64 (x10_1 + 1)))) = some r := by rw [if_pos rfl] at H; exact H
                clear H
                have H := H1
                clear H1
                by_cases c8 : x10_1 > 0
                · rw [if_pos c8] at H
                  have c8b0 : decide (0 < x10_1) = true := decide_eq_true c8
                  clear c8
                  obtain ⟨ji9, hji9⟩ : ∃ j_ : Int, (wrap64 (x10_1 - 1)) = j_ := ⟨_, rfl⟩
                  replace H : (if 0 ≤ (ji9) then (if (ji9) < (l0.length : Int) then (if ((rd_T40 l0 (ji9)).f0) ≥ ((rd_T40 l0 x10_1).f0) then (some 1) else (parts_Check.l0 k1 l0 l0 (l0.length : Int) (wrap64 (x10_1 + 1)))) else (none)) else (none)) = some r := by first | (rw [hji9] at H; exact H) | (simp only [hji9] at H ⊢; exact H)
                  (try rw [hji9] at A6)
                  have hji9w : (IntKind.i64.wrap (x10_1 - 1)) = ji9 := (i64_w _).trans hji9
                  by_cases c10 : 0 ≤ (ji9)
                  · rw [if_pos c10] at H
                    have c10b0 : decide (0 ≤ (ji9)) = true := decide_eq_true c10
                    clear c10
                    by_cases c11 : (ji9) < (l0.length : Int)
                    · rw [if_pos c11] at H
                      have c11b0 : decide ((ji9) < (l0.length : Int)) = true := decide_eq_true c11
                      clear c11
                      by_cases c12 : ((rd_T40 l0 (ji9)).f0) ≥ ((rd_T40 l0 x10_1).f0)
                      · rw [if_pos c12] at H
                        have c12b0 : decide (((rd_T40 l0 x10_1).f0) ≤ ((rd_T40 l0 (ji9)).f0)) = true := decide_eq_true c12
                        clear c12
                        obtain rfl := Option.some.inj H
                        have p129 : 0 ≤ (x10_1 : Int) := of_decide_eq_true (by first | (with_reducible assumption) | assumption)
                        have q129 : x10_1 < (l0.length : Int) := of_decide_eq_true (by first | (with_reducible assumption) | assumption)
                        obtain ⟨ad129, A129_2, c129_2, e129, hx129_0, hx129_1, hx129_2, hl129_2, hi129_2⟩ := at_T40 HR0.out x10_1 p129 q129
                        cases e129
                        replace hx129_0 := (HB.out.cell (World.block_lt_of_cell? w _ hx129_0)).trans hx129_0
                        replace hx129_1 := (HB.out.cell (World.block_lt_of_cell? w _ hx129_1)).trans hx129_1
                        replace hx129_2 := (HB.out.cell (World.block_lt_of_cell? w _ hx129_2)).trans hx129_2
                        have HR129_2 := Aside0.mk hi129_2
                        have HC129_2 := Aside0.mk hl129_2
                        clear hi129_2 hl129_2
                        replace p129 := eq_true p129
                        replace q129 := eq_true q129
                        try go_wp2_with (first | ((with_reducible refine gate_dst (N := 4) rfl ?_); refine box_event ?hg (N := 4) ?hd (cs := #[.int .u64 0, .string (⟨#[]⟩ : ByteArray), .slice none 0 0]) (t := 40) ?hr ?_; (case hd => rfl); (case hg => rfl); (case hr => first | (go_simp; done) | (go_simp; rfl)); intro gb130 hg w13 hbox hb; have n0_ := Aside0.mk (below_step (by repeat (first | (with_reducible first | exact HB.out | apply below_alloc | apply pw_below_drewN | apply below_drew1) | exact HB.out)) hb); have n1_ := Aside0.mk (hbox); have n2_ := Aside0.mk ((by rw [hg]; exact (below_size (by repeat (first | (with_reducible first | exact HB.out | apply below_alloc | apply pw_below_drewN | apply below_drew1) | exact HB.out))) : w.heap.size ≤ gb130)); have n3_ := Aside0.mk ((by rw [hg]; exact (below_size (by repeat (first | (with_reducible first | exact HB.out | apply below_alloc | apply pw_below_drewN | apply below_drew1) | exact HB.out))) : w.heap.size ≤ gb130)); clear HB; have HB := n0_; have BK130 := n1_; have GW130 := n2_; have GE130 := n3_; clear n0_ n1_ n2_ n3_; clear hb hbox hg; have hcz14_0 : w13.cell? ⟨gb130, 0, none⟩ = some (.int .u64 0) := (blk_cell BK130.out 0).trans rfl; have hcz14_1 : w13.cell? ⟨gb130, 1, none⟩ = some (.string (⟨#[]⟩ : ByteArray)) := (blk_cell BK130.out 1).trans rfl; have hcz14_2 : w13.cell? ⟨gb130, 2, none⟩ = some (.slice none 0 0) := (blk_cell BK130.out 2).trans rfl; have hfz14_0 := blk_frozen BK130.out 0; have hfz14_1 := blk_frozen BK130.out 1; have hfz14_2 := blk_frozen BK130.out 2))
                        have n0_ : Aside0 ((((w13.setCell ⟨gb130, 0, none⟩ (.int .u64 ((rd_T40 l0 x10_1).f0))).setCell ⟨gb130, 1, none⟩ (.string ((rd_T40 l0 x10_1).f1))).setCell ⟨gb130, 2, none⟩ (.slice A129_2 ((rd_T40 l0 x10_1).f2).length c129_2)).heap[gb130]? = some (.cells #[.int .u64 ((rd_T40 l0 x10_1).f0), .string ((rd_T40 l0 x10_1).f1), .slice A129_2 ((rd_T40 l0 x10_1).f2).length c129_2] 40 (0, 0))) := ⟨by (with_reducible repeat (first | refine blk_drewN ?_ _ | refine blk_drew ?_ | refine blk_alloc ?_ _)); refine blk_put (cs := #[.int .u64 ((rd_T40 l0 x10_1).f0), .string ((rd_T40 l0 x10_1).f1), .slice none 0 0]) ?_ 2 _ rfl; (with_reducible repeat (first | refine blk_drewN ?_ _ | refine blk_drew ?_ | refine blk_alloc ?_ _)); refine blk_put (cs := #[.int .u64 ((rd_T40 l0 x10_1).f0), .string (⟨#[]⟩ : ByteArray), .slice none 0 0]) ?_ 1 _ rfl; (with_reducible repeat (first | refine blk_drewN ?_ _ | refine blk_drew ?_ | refine blk_alloc ?_ _)); refine blk_put (cs := #[.int .u64 0, .string (⟨#[]⟩ : ByteArray), .slice none 0 0]) ?_ 0 _ rfl; (with_reducible repeat (first | refine blk_drewN ?_ _ | refine blk_drew ?_ | refine blk_alloc ?_ _)); exact BK130.out⟩
                        have n1_ : Aside0 (Below w.heap.size w (((w13.setCell ⟨gb130, 0, none⟩ (.int .u64 ((rd_T40 l0 x10_1).f0))).setCell ⟨gb130, 1, none⟩ (.string ((rd_T40 l0 x10_1).f1))).setCell ⟨gb130, 2, none⟩ (.slice A129_2 ((rd_T40 l0 x10_1).f2).length c129_2))) := ⟨by repeat (first | (with_reducible first | exact HB.out | apply below_alloc | apply pw_below_drewN | apply below_drew1 | refine below_set ?_ GE130.out) | exact HB.out)⟩
                        (try clear BK130)
                        (try clear HB)
                        generalize (((w13.setCell ⟨gb130, 0, none⟩ (.int .u64 ((rd_T40 l0 x10_1).f0))).setCell ⟨gb130, 1, none⟩ (.string ((rd_T40 l0 x10_1).f1))).setCell ⟨gb130, 2, none⟩ (.slice A129_2 ((rd_T40 l0 x10_1).f2).length c129_2)) = w15 at n0_ n1_ ⊢
                        have BK130 := n0_
                        have HB := n1_
                        clear n0_ n1_
                        have n0_ := Aside0.mk (blk_drew BK130.out)
                        have n1_ := Aside0.mk (below_drew1 HB.out)
                        clear BK130
                        clear HB
                        have BK130 := n0_
                        have HB := n1_
                        clear n0_ n1_
                        have p132 : 0 ≤ ((ji9) : Int) := of_decide_eq_true (by first | (with_reducible assumption) | assumption)
                        have q132 : (ji9) < (l0.length : Int) := of_decide_eq_true (by first | (with_reducible assumption) | assumption)
                        obtain ⟨ad132, A132_2, c132_2, e132, hx132_0, hx132_1, hx132_2, hl132_2, hi132_2⟩ := at_T40 HR0.out (ji9) p132 q132
                        have hw132_2 := hx132_2
                        have hw132_1 := hx132_1
                        have hw132_0 := hx132_0
                        obtain rfl : ad129 = ad132 := (by injection e132)
                        replace hx132_0 := (HB.out.cell (World.block_lt_of_cell? w _ hx132_0)).trans hx132_0
                        replace hx132_1 := (HB.out.cell (World.block_lt_of_cell? w _ hx132_1)).trans hx132_1
                        replace hx132_2 := (HB.out.cell (World.block_lt_of_cell? w _ hx132_2)).trans hx132_2
                        have HR132_2 := Aside0.mk hi132_2
                        have HC132_2 := Aside0.mk hl132_2
                        clear hi132_2 hl132_2
                        replace p132 := eq_true p132
                        replace q132 := eq_true q132
                        refine start_ (n := 18) (S := fun w' => w'.cell? ⟨gb130, 0, none⟩ = some (.int .u64 ((rd_T40 l0 x10_1).f0)) ∧ w'.cell? ⟨gb130, 1, none⟩ = some (.string ((rd_T40 l0 x10_1).f1)) ∧ w'.cell? ⟨gb130, 2, none⟩ = some (.slice A129_2 ((rd_T40 l0 x10_1).f2).length c129_2) ∧ w'.cell? (ad129.add (((ji9)).toNat * 3)) = some (.int .u64 ((rd_T40 l0 (ji9)).f0)) ∧ w'.cell? ⟨(ad129.add (((ji9)).toNat * 3)).block, (ad129.add (((ji9)).toNat * 3)).off + 1, none⟩ = some (.string ((rd_T40 l0 (ji9)).f1)) ∧ w'.cell? ⟨(ad129.add (((ji9)).toNat * 3)).block, (ad129.add (((ji9)).toNat * 3)).off + 2, none⟩ = some (.slice A132_2 ((rd_T40 l0 (ji9)).f2).length c132_2)) (ds := []) #[false, false, false, false, false, false, false, false, false, false, false, false, false, false, false, false, false, false] (by kernel_rfl) rfl rfl ⟨(blk_cell BK130.out 0).trans rfl, (blk_cell BK130.out 1).trans rfl, (blk_cell BK130.out 2).trans rfl, ((HB.out.cell (World.block_lt_of_cell? w _ hw132_0)).trans hw132_0), ((HB.out.cell (World.block_lt_of_cell? w _ hw132_1)).trans hw132_1), ((HB.out.cell (World.block_lt_of_cell? w _ hw132_2)).trans hw132_2)⟩ (fun hHeld => ?_); refine with_tabW parts_Check.tab6 parts_Check.bits6 (fun HT_ HW_ => ?_)
                        generalize w15.drew = w16 at BK130 HB HR132_2 hx132_0 hx132_1 hx132_2 hHeld ⊢
                        refine take_ (i := 0) (N := some 15) (v := ?_) (a' := ?_) #[true, false, false, false, false, false, false, false, false, false, false, false, false, false, false, false, false, false] rfl rfl (take_ofW HT_.out HW_.out (by kernel_rfl)) (fun _ _ _ h => h) (Or.inl ⟨by rfl, ?_⟩) hHeld ?_ ?_
                        rotate_left
                        · rintro w' ⟨s0, s1, s2, s3, s4, s5⟩
                          go_simp
                          with_reducible rfl
                        rotate_left
                        · simp only [Act.put, List.setIfInBounds_toArray, List.set_cons_zero, List.set_cons_succ, i64_w, i32_w]
                          rfl
                        refine one_ (i := 1) (N := some 16) #[true, true, false, false, false, false, false, false, false, false, false, false, false, false, false, false, false, false] rfl rfl (one_of HT_.out (by kernel_rfl)) (by decide) (fun K hK => ?_)
                        refine goes_ Tryz.func34 (by kernel_rfl) rfl #[.agg #[.int .u64 ((rd_T40 l0 x10_1).f0), .string ((rd_T40 l0 x10_1).f1), .slice A129_2 ((rd_T40 l0 x10_1).f2).length c129_2]] (by rfl) rfl rfl (by (try simp only [List.map_toArray, List.map_cons, List.map_nil]); first | done | rfl | (simp only [List.length_drop, List.length_take]; rfl)) ?_
                        with_reducible refine (parts_upload_fine.calls k1 ((rd_T40 l0 x10_1).f0) ((rd_T40 l0 x10_1).f1) _ _ ((rd_T40 l0 x10_1).f2) true _ ?side1 ?side2 A6.out).mono ?_
                        (case side1 => repeat (first | exact (Kd.C_below HR129_2.out HB.out) | (with_reducible refine Kd.C_alloc ?_ _) | (with_reducible refine Kd.C_drewN ?_ _) | (with_reducible refine Kd.C_drew ?_)))
                        (case side2 => exact HC129_2.out)
                        rintro e w17 ⟨rfl, hb⟩
                        refine ⟨_, rfl, ?_⟩
                        have n0_ := Aside0.mk (blk_below (g := gb130) (o := .cells #[.int .u64 ((rd_T40 l0 x10_1).f0), .string ((rd_T40 l0 x10_1).f1), .slice A129_2 ((rd_T40 l0 x10_1).f2).length c129_2] 40 (0, 0)) (by (with_reducible repeat (first | refine blk_drewN ?_ _ | refine blk_drew ?_ | refine blk_alloc ?_ _)); exact BK130.out) hb)
                        have n1_ := Aside0.mk (below_step (by repeat (first | (with_reducible first | exact HB.out | apply below_alloc | apply pw_below_drewN | apply below_drew1 | refine below_set ?_ GE130.out) | exact HB.out)) hb)
                        clear BK130
                        clear HB
                        have BK130 := n0_
                        have HB := n1_
                        clear n0_ n1_
                        (try clear hb)
                        (try clear hb2)
                        (try clear hk)
                        (try clear hi)
                        refine hK.out _ _ ⟨(blk_cell BK130.out 0).trans rfl, (blk_cell BK130.out 1).trans rfl, (blk_cell BK130.out 2).trans rfl, ((HB.out.cell (World.block_lt_of_cell? w _ hw132_0)).trans hw132_0), ((HB.out.cell (World.block_lt_of_cell? w _ hw132_1)).trans hw132_1), ((HB.out.cell (World.block_lt_of_cell? w _ hw132_2)).trans hw132_2)⟩ (fun hHeld => ?_)
                        clear hK K
                        refine norm_ (a' := ?_) ?_ ?_
                        rotate_left
                        · show Act.put _ (some 16) _ = _
                          simp only [Act.put, List.setIfInBounds_toArray, List.set_cons_zero, List.set_cons_succ, i64_w, i32_w]
                          rfl
                        refine pure_ (i := 2) (N := some 17) (v := ?_) (a' := ?_) #[true, true, true, false, false, false, false, false, false, false, false, false, false, false, false, false, false, false] rfl rfl (any_of HT_.out (by kernel_rfl)) (fun _ _ _ h => h) (Or.inl ⟨by rfl, ?_⟩) ?_ ?_
                        rotate_left
                        · intro w'
                          go_simp
                          with_reducible rfl
                        rotate_left
                        · simp only [Act.put, List.setIfInBounds_toArray, List.set_cons_zero, List.set_cons_succ, i64_w, i32_w]
                          rfl
                        refine pure_ (i := 3) (N := some 18) (v := ?_) (a' := ?_) #[true, true, true, true, false, false, false, false, false, false, false, false, false, false, false, false, false, false] rfl rfl (any_of HT_.out (by kernel_rfl)) (fun _ _ _ h => h) (Or.inl ⟨by rfl, ?_⟩) ?_ ?_
                        rotate_left
                        · intro w'
                          go_simp
                          with_reducible rfl
                        rotate_left
                        · simp only [Act.put, List.setIfInBounds_toArray, List.set_cons_zero, List.set_cons_succ, i64_w, i32_w]
                          rfl
                        refine pure_ (i := 4) (N := some 19) (v := ?_) (a' := ?_) #[true, true, true, true, true, false, false, false, false, false, false, false, false, false, false, false, false, false] rfl rfl (any_of HT_.out (by kernel_rfl)) (fun _ _ _ h => h) (Or.inl ⟨by rfl, ?_⟩) ?_ ?_
                        rotate_left
                        · intro w'
                          go_simp
                          with_reducible rfl
                        rotate_left
                        · simp only [Act.put, List.setIfInBounds_toArray, List.set_cons_zero, List.set_cons_succ, i64_w, i32_w]
                          rfl
                        refine pure_ (i := 5) (N := some 20) (v := ?_) (a' := ?_) #[true, true, true, true, true, true, false, false, false, false, false, false, false, false, false, false, false, false] rfl rfl (any_of HT_.out (by kernel_rfl)) (fun _ _ _ h => h) (Or.inl ⟨by rfl, ?_⟩) ?_ ?_
                        rotate_left
                        · intro w'
                          go_simp
                          with_reducible rfl
                        rotate_left
                        · simp only [Act.put, List.setIfInBounds_toArray, List.set_cons_zero, List.set_cons_succ, i64_w, i32_w]
                          rfl
                        refine pure_ (i := 6) (N := some 21) (v := ?_) (a' := ?_) #[true, true, true, true, true, true, true, false, false, false, false, false, false, false, false, false, false, false] rfl rfl (any_of HT_.out (by kernel_rfl)) (fun _ _ _ h => h) (Or.inl ⟨by rfl, ?_⟩) ?_ ?_
                        rotate_left
                        · intro w'
                          go_simp
                          with_reducible rfl
                        rotate_left
                        · simp only [Act.put, List.setIfInBounds_toArray, List.set_cons_zero, List.set_cons_succ, i64_w, i32_w]
                          rfl
                        refine pure_ (i := 7) (N := some 22) (v := ?_) (a' := ?_) #[true, true, true, true, true, true, true, true, false, false, false, false, false, false, false, false, false, false] rfl rfl (any_of HT_.out (by kernel_rfl)) (fun _ _ _ h => h) (Or.inl ⟨by rfl, ?_⟩) ?_ ?_
                        rotate_left
                        · intro w'
                          go_simp
                          with_reducible rfl
                        rotate_left
                        · simp only [Act.put, List.setIfInBounds_toArray, List.set_cons_zero, List.set_cons_succ, i64_w, i32_w]
                          rfl
                        refine pure_ (i := 8) (N := some 23) (v := ?_) (a' := ?_) #[true, true, true, true, true, true, true, true, true, false, false, false, false, false, false, false, false, false] rfl rfl (any_of HT_.out (by kernel_rfl)) (fun _ _ _ h => h) (Or.inl ⟨by rfl, ?_⟩) ?_ ?_
                        rotate_left
                        · intro w'
                          go_simp
                          with_reducible rfl
                        rotate_left
                        · simp only [Act.put, List.setIfInBounds_toArray, List.set_cons_zero, List.set_cons_succ, i64_w, i32_w]
                          rfl
                        refine pure_ (i := 9) (N := some 24) (v := ?_) (a' := ?_) #[true, true, true, true, true, true, true, true, true, true, false, false, false, false, false, false, false, false] rfl rfl (any_of HT_.out (by kernel_rfl)) (fun _ _ _ h => h) (Or.inl ⟨by rfl, ?_⟩) ?_ ?_
                        rotate_left
                        · intro w'
                          go_simp
                          with_reducible rfl
                        rotate_left
                        · simp only [Act.put, List.setIfInBounds_toArray, List.set_cons_zero, List.set_cons_succ, i64_w, i32_w]
                          rfl
                        refine pure_ (i := 10) (N := some 25) (v := ?_) (a' := ?_) #[true, true, true, true, true, true, true, true, true, true, true, false, false, false, false, false, false, false] rfl rfl (any_of HT_.out (by kernel_rfl)) (fun _ _ _ h => h) (Or.inl ⟨by rfl, ?_⟩) ?_ ?_
                        rotate_left
                        · intro w'
                          go_simp
                          with_reducible rfl
                        rotate_left
                        · simp only [Act.put, List.setIfInBounds_toArray, List.set_cons_zero, List.set_cons_succ, i64_w, i32_w]
                          rfl
                        refine pure_ (i := 11) (N := some 26) (v := ?_) (a' := ?_) #[true, true, true, true, true, true, true, true, true, true, true, true, false, false, false, false, false, false] rfl rfl (any_of HT_.out (by kernel_rfl)) (fun _ _ _ h => h) (Or.inl ⟨by rfl, ?_⟩) ?_ ?_
                        rotate_left
                        · intro w'
                          go_simp
                          with_reducible rfl
                        rotate_left
                        · simp only [Act.put, List.setIfInBounds_toArray, List.set_cons_zero, List.set_cons_succ, i64_w, i32_w]
                          rfl
                        refine pure_ (i := 13) (N := some 28) (v := ?_) (a' := ?_) #[true, true, true, true, true, true, true, true, true, true, true, true, false, true, false, false, false, false] rfl rfl (any_of HT_.out (by kernel_rfl)) (fun _ _ _ h => h) (Or.inl ⟨by rfl, ?_⟩) ?_ ?_
                        rotate_left
                        · intro w'
                          go_simp
                          with_reducible rfl
                        rotate_left
                        · simp only [Act.put, List.setIfInBounds_toArray, List.set_cons_zero, List.set_cons_succ, i64_w, i32_w]
                          rfl
                        refine take_ (i := 12) (N := some 27) (v := ?_) (a' := ?_) #[true, true, true, true, true, true, true, true, true, true, true, true, true, true, false, false, false, false] rfl rfl (take_ofW HT_.out HW_.out (by kernel_rfl)) (fun _ _ _ h => h) (Or.inl ⟨by rfl, ?_⟩) hHeld ?_ ?_
                        rotate_left
                        · rintro w' ⟨s0, s1, s2, s3, s4, s5⟩
                          go_simp
                          with_reducible rfl
                        rotate_left
                        · simp only [Act.put, List.setIfInBounds_toArray, List.set_cons_zero, List.set_cons_succ, i64_w, i32_w]
                          rfl
                        refine take_ (i := 14) (N := some 29) (v := ?_) (a' := ?_) #[true, true, true, true, true, true, true, true, true, true, true, true, true, true, true, false, false, false] rfl rfl (take_ofW HT_.out HW_.out (by kernel_rfl)) (fun _ _ _ h => h) (Or.inl ⟨by rfl, ?_⟩) hHeld ?_ ?_
                        rotate_left
                        · rintro w' ⟨s0, s1, s2, s3, s4, s5⟩
                          go_simp
                          with_reducible rfl
                        rotate_left
                        · simp only [Act.put, List.setIfInBounds_toArray, List.set_cons_zero, List.set_cons_succ, i64_w, i32_w]
                          rfl
                        refine pure_ (i := 15) (N := some 30) (v := ?_) (a' := ?_) #[true, true, true, true, true, true, true, true, true, true, true, true, true, true, true, true, false, false] rfl rfl (any_of HT_.out (by kernel_rfl)) (fun _ _ _ h => h) (Or.inl ⟨by rfl, ?_⟩) ?_ ?_
                        rotate_left
                        · intro w'
                          go_simp
                          with_reducible rfl
                        rotate_left
                        · simp only [Act.put, List.setIfInBounds_toArray, List.set_cons_zero, List.set_cons_succ, i64_w, i32_w]
                          rfl
                        refine pure_ (i := 16) (N := some 31) (v := ?_) (a' := ?_) #[true, true, true, true, true, true, true, true, true, true, true, true, true, true, true, true, true, false] rfl rfl (any_of HT_.out (by kernel_rfl)) (fun _ _ _ h => h) (Or.inl ⟨by rfl, ?_⟩) ?_ ?_
                        rotate_left
                        · intro w'
                          go_simp
                          with_reducible rfl
                        rotate_left
                        · simp only [Act.put, List.setIfInBounds_toArray, List.set_cons_zero, List.set_cons_succ, i64_w, i32_w]
                          rfl
                        refine pure_ (i := 17) (N := some 32) (v := ?_) (a' := ?_) #[true, true, true, true, true, true, true, true, true, true, true, true, true, true, true, true, true, true] rfl rfl (any_of HT_.out (by kernel_rfl)) (fun _ _ _ h => h) (Or.inl ⟨by rfl, ?_⟩) ?_ ?_
                        rotate_left
                        · intro w'
                          go_simp
                          with_reducible rfl
                        rotate_left
                        · simp only [Act.put, List.setIfInBounds_toArray, List.set_cons_zero, List.set_cons_succ, i64_w, i32_w]
                          rfl
                        refine done_ (done_of HT_.out (by kernel_rfl)) ?_
                        try go_wp2
                        go_ret
                        exact ⟨by first | rfl | (simp [errW_none, errW_some] <;> rfl) | (simp only [← hji9]; first | rfl | (simp [errW_none, errW_some] <;> rfl)) | (simp [*, errW_none, errW_some] <;> rfl), by repeat (first | (with_reducible first | exact HB.out | apply below_alloc | apply pw_below_drewN | apply below_drew1 | refine below_set ?_ GE130.out) | exact HB.out)⟩
                      · rw [if_neg c12] at H
                        have c12b0 : decide (((rd_T40 l0 x10_1).f0) ≤ ((rd_T40 l0 (ji9)).f0)) = false := decide_eq_false c12
                        clear c12
                        have H' := Aside0.mk H
                        clear H
                        have p129 : 0 ≤ (x10_1 : Int) := of_decide_eq_true (by first | (with_reducible assumption) | assumption)
                        have q129 : x10_1 < (l0.length : Int) := of_decide_eq_true (by first | (with_reducible assumption) | assumption)
                        obtain ⟨ad129, A129_2, c129_2, e129, hx129_0, hx129_1, hx129_2, hl129_2, hi129_2⟩ := at_T40 HR0.out x10_1 p129 q129
                        cases e129
                        replace hx129_0 := (HB.out.cell (World.block_lt_of_cell? w _ hx129_0)).trans hx129_0
                        replace hx129_1 := (HB.out.cell (World.block_lt_of_cell? w _ hx129_1)).trans hx129_1
                        replace hx129_2 := (HB.out.cell (World.block_lt_of_cell? w _ hx129_2)).trans hx129_2
                        have HR129_2 := Aside0.mk hi129_2
                        have HC129_2 := Aside0.mk hl129_2
                        clear hi129_2 hl129_2
                        replace p129 := eq_true p129
                        replace q129 := eq_true q129
                        try go_wp2_with (first | ((with_reducible refine gate_dst (N := 4) rfl ?_); refine box_event ?hg (N := 4) ?hd (cs := #[.int .u64 0, .string (⟨#[]⟩ : ByteArray), .slice none 0 0]) (t := 40) ?hr ?_; (case hd => rfl); (case hg => rfl); (case hr => first | (go_simp; done) | (go_simp; rfl)); intro gb130 hg w18 hbox hb; have n0_ := Aside0.mk (below_step (by repeat (first | (with_reducible first | exact HB.out | apply below_alloc | apply pw_below_drewN | apply below_drew1) | exact HB.out)) hb); have n1_ := Aside0.mk (hbox); have n2_ := Aside0.mk ((by rw [hg]; exact (below_size (by repeat (first | (with_reducible first | exact HB.out | apply below_alloc | apply pw_below_drewN | apply below_drew1) | exact HB.out))) : w.heap.size ≤ gb130)); have n3_ := Aside0.mk ((by rw [hg]; exact (below_size (by repeat (first | (with_reducible first | exact HB.out | apply below_alloc | apply pw_below_drewN | apply below_drew1) | exact HB.out))) : w.heap.size ≤ gb130)); clear HB; have HB := n0_; have BK130 := n1_; have GW130 := n2_; have GE130 := n3_; clear n0_ n1_ n2_ n3_; clear hb hbox hg; have hcz19_0 : w18.cell? ⟨gb130, 0, none⟩ = some (.int .u64 0) := (blk_cell BK130.out 0).trans rfl; have hcz19_1 : w18.cell? ⟨gb130, 1, none⟩ = some (.string (⟨#[]⟩ : ByteArray)) := (blk_cell BK130.out 1).trans rfl; have hcz19_2 : w18.cell? ⟨gb130, 2, none⟩ = some (.slice none 0 0) := (blk_cell BK130.out 2).trans rfl; have hfz19_0 := blk_frozen BK130.out 0; have hfz19_1 := blk_frozen BK130.out 1; have hfz19_2 := blk_frozen BK130.out 2))
                        have n0_ : Aside0 ((((w18.setCell ⟨gb130, 0, none⟩ (.int .u64 ((rd_T40 l0 x10_1).f0))).setCell ⟨gb130, 1, none⟩ (.string ((rd_T40 l0 x10_1).f1))).setCell ⟨gb130, 2, none⟩ (.slice A129_2 ((rd_T40 l0 x10_1).f2).length c129_2)).heap[gb130]? = some (.cells #[.int .u64 ((rd_T40 l0 x10_1).f0), .string ((rd_T40 l0 x10_1).f1), .slice A129_2 ((rd_T40 l0 x10_1).f2).length c129_2] 40 (0, 0))) := ⟨by (with_reducible repeat (first | refine blk_drewN ?_ _ | refine blk_drew ?_ | refine blk_alloc ?_ _)); refine blk_put (cs := #[.int .u64 ((rd_T40 l0 x10_1).f0), .string ((rd_T40 l0 x10_1).f1), .slice none 0 0]) ?_ 2 _ rfl; (with_reducible repeat (first | refine blk_drewN ?_ _ | refine blk_drew ?_ | refine blk_alloc ?_ _)); refine blk_put (cs := #[.int .u64 ((rd_T40 l0 x10_1).f0), .string (⟨#[]⟩ : ByteArray), .slice none 0 0]) ?_ 1 _ rfl; (with_reducible repeat (first | refine blk_drewN ?_ _ | refine blk_drew ?_ | refine blk_alloc ?_ _)); refine blk_put (cs := #[.int .u64 0, .string (⟨#[]⟩ : ByteArray), .slice none 0 0]) ?_ 0 _ rfl; (with_reducible repeat (first | refine blk_drewN ?_ _ | refine blk_drew ?_ | refine blk_alloc ?_ _)); exact BK130.out⟩
                        have n1_ : Aside0 (Below w.heap.size w (((w18.setCell ⟨gb130, 0, none⟩ (.int .u64 ((rd_T40 l0 x10_1).f0))).setCell ⟨gb130, 1, none⟩ (.string ((rd_T40 l0 x10_1).f1))).setCell ⟨gb130, 2, none⟩ (.slice A129_2 ((rd_T40 l0 x10_1).f2).length c129_2))) := ⟨by repeat (first | (with_reducible first | exact HB.out | apply below_alloc | apply pw_below_drewN | apply below_drew1 | refine below_set ?_ GE130.out) | exact HB.out)⟩
                        (try clear BK130)
                        (try clear HB)
                        generalize (((w18.setCell ⟨gb130, 0, none⟩ (.int .u64 ((rd_T40 l0 x10_1).f0))).setCell ⟨gb130, 1, none⟩ (.string ((rd_T40 l0 x10_1).f1))).setCell ⟨gb130, 2, none⟩ (.slice A129_2 ((rd_T40 l0 x10_1).f2).length c129_2)) = w20 at n0_ n1_ ⊢
                        have BK130 := n0_
                        have HB := n1_
                        clear n0_ n1_
                        have n0_ := Aside0.mk (blk_drew BK130.out)
                        have n1_ := Aside0.mk (below_drew1 HB.out)
                        clear BK130
                        clear HB
                        have BK130 := n0_
                        have HB := n1_
                        clear n0_ n1_
                        have p132 : 0 ≤ ((ji9) : Int) := of_decide_eq_true (by first | (with_reducible assumption) | assumption)
                        have q132 : (ji9) < (l0.length : Int) := of_decide_eq_true (by first | (with_reducible assumption) | assumption)
                        obtain ⟨ad132, A132_2, c132_2, e132, hx132_0, hx132_1, hx132_2, hl132_2, hi132_2⟩ := at_T40 HR0.out (ji9) p132 q132
                        have hw132_2 := hx132_2
                        have hw132_1 := hx132_1
                        have hw132_0 := hx132_0
                        obtain rfl : ad129 = ad132 := (by injection e132)
                        replace hx132_0 := (HB.out.cell (World.block_lt_of_cell? w _ hx132_0)).trans hx132_0
                        replace hx132_1 := (HB.out.cell (World.block_lt_of_cell? w _ hx132_1)).trans hx132_1
                        replace hx132_2 := (HB.out.cell (World.block_lt_of_cell? w _ hx132_2)).trans hx132_2
                        have HR132_2 := Aside0.mk hi132_2
                        have HC132_2 := Aside0.mk hl132_2
                        clear hi132_2 hl132_2
                        replace p132 := eq_true p132
                        replace q132 := eq_true q132
                        refine start_ (n := 18) (S := fun w' => w'.cell? ⟨gb130, 0, none⟩ = some (.int .u64 ((rd_T40 l0 x10_1).f0)) ∧ w'.cell? ⟨gb130, 1, none⟩ = some (.string ((rd_T40 l0 x10_1).f1)) ∧ w'.cell? ⟨gb130, 2, none⟩ = some (.slice A129_2 ((rd_T40 l0 x10_1).f2).length c129_2) ∧ w'.cell? (ad129.add (((ji9)).toNat * 3)) = some (.int .u64 ((rd_T40 l0 (ji9)).f0)) ∧ w'.cell? ⟨(ad129.add (((ji9)).toNat * 3)).block, (ad129.add (((ji9)).toNat * 3)).off + 1, none⟩ = some (.string ((rd_T40 l0 (ji9)).f1)) ∧ w'.cell? ⟨(ad129.add (((ji9)).toNat * 3)).block, (ad129.add (((ji9)).toNat * 3)).off + 2, none⟩ = some (.slice A132_2 ((rd_T40 l0 (ji9)).f2).length c132_2)) (ds := []) #[false, false, false, false, false, false, false, false, false, false, false, false, false, false, false, false, false, false] (by kernel_rfl) rfl rfl ⟨(blk_cell BK130.out 0).trans rfl, (blk_cell BK130.out 1).trans rfl, (blk_cell BK130.out 2).trans rfl, ((HB.out.cell (World.block_lt_of_cell? w _ hw132_0)).trans hw132_0), ((HB.out.cell (World.block_lt_of_cell? w _ hw132_1)).trans hw132_1), ((HB.out.cell (World.block_lt_of_cell? w _ hw132_2)).trans hw132_2)⟩ (fun hHeld => ?_); refine with_tabW parts_Check.tab6 parts_Check.bits6 (fun HT_ HW_ => ?_)
                        generalize w20.drew = w21 at BK130 HB HR132_2 hx132_0 hx132_1 hx132_2 hHeld ⊢
                        refine take_ (i := 0) (N := some 15) (v := ?_) (a' := ?_) #[true, false, false, false, false, false, false, false, false, false, false, false, false, false, false, false, false, false] rfl rfl (take_ofW HT_.out HW_.out (by kernel_rfl)) (fun _ _ _ h => h) (Or.inl ⟨by rfl, ?_⟩) hHeld ?_ ?_
                        rotate_left
                        · rintro w' ⟨s0, s1, s2, s3, s4, s5⟩
                          go_simp
                          with_reducible rfl
                        rotate_left
                        · simp only [Act.put, List.setIfInBounds_toArray, List.set_cons_zero, List.set_cons_succ, i64_w, i32_w]
                          rfl
                        refine one_ (i := 1) (N := some 16) #[true, true, false, false, false, false, false, false, false, false, false, false, false, false, false, false, false, false] rfl rfl (one_of HT_.out (by kernel_rfl)) (by decide) (fun K hK => ?_)
                        refine goes_ Tryz.func34 (by kernel_rfl) rfl #[.agg #[.int .u64 ((rd_T40 l0 x10_1).f0), .string ((rd_T40 l0 x10_1).f1), .slice A129_2 ((rd_T40 l0 x10_1).f2).length c129_2]] (by rfl) rfl rfl (by (try simp only [List.map_toArray, List.map_cons, List.map_nil]); first | done | rfl | (simp only [List.length_drop, List.length_take]; rfl)) ?_
                        with_reducible refine (parts_upload_fine.calls k1 ((rd_T40 l0 x10_1).f0) ((rd_T40 l0 x10_1).f1) _ _ ((rd_T40 l0 x10_1).f2) true _ ?side1 ?side2 A6.out).mono ?_
                        (case side1 => repeat (first | exact (Kd.C_below HR129_2.out HB.out) | (with_reducible refine Kd.C_alloc ?_ _) | (with_reducible refine Kd.C_drewN ?_ _) | (with_reducible refine Kd.C_drew ?_)))
                        (case side2 => exact HC129_2.out)
                        rintro e w22 ⟨rfl, hb⟩
                        refine ⟨_, rfl, ?_⟩
                        have n0_ := Aside0.mk (blk_below (g := gb130) (o := .cells #[.int .u64 ((rd_T40 l0 x10_1).f0), .string ((rd_T40 l0 x10_1).f1), .slice A129_2 ((rd_T40 l0 x10_1).f2).length c129_2] 40 (0, 0)) (by (with_reducible repeat (first | refine blk_drewN ?_ _ | refine blk_drew ?_ | refine blk_alloc ?_ _)); exact BK130.out) hb)
                        have n1_ := Aside0.mk (below_step (by repeat (first | (with_reducible first | exact HB.out | apply below_alloc | apply pw_below_drewN | apply below_drew1 | refine below_set ?_ GE130.out) | exact HB.out)) hb)
                        clear BK130
                        clear HB
                        have BK130 := n0_
                        have HB := n1_
                        clear n0_ n1_
                        (try clear hb)
                        (try clear hb2)
                        (try clear hk)
                        (try clear hi)
                        refine hK.out _ _ ⟨(blk_cell BK130.out 0).trans rfl, (blk_cell BK130.out 1).trans rfl, (blk_cell BK130.out 2).trans rfl, ((HB.out.cell (World.block_lt_of_cell? w _ hw132_0)).trans hw132_0), ((HB.out.cell (World.block_lt_of_cell? w _ hw132_1)).trans hw132_1), ((HB.out.cell (World.block_lt_of_cell? w _ hw132_2)).trans hw132_2)⟩ (fun hHeld => ?_)
                        clear hK K
                        refine norm_ (a' := ?_) ?_ ?_
                        rotate_left
                        · show Act.put _ (some 16) _ = _
                          simp only [Act.put, List.setIfInBounds_toArray, List.set_cons_zero, List.set_cons_succ, i64_w, i32_w]
                          rfl
                        refine pure_ (i := 2) (N := some 17) (v := ?_) (a' := ?_) #[true, true, true, false, false, false, false, false, false, false, false, false, false, false, false, false, false, false] rfl rfl (any_of HT_.out (by kernel_rfl)) (fun _ _ _ h => h) (Or.inl ⟨by rfl, ?_⟩) ?_ ?_
                        rotate_left
                        · intro w'
                          go_simp
                          with_reducible rfl
                        rotate_left
                        · simp only [Act.put, List.setIfInBounds_toArray, List.set_cons_zero, List.set_cons_succ, i64_w, i32_w]
                          rfl
                        refine pure_ (i := 3) (N := some 18) (v := ?_) (a' := ?_) #[true, true, true, true, false, false, false, false, false, false, false, false, false, false, false, false, false, false] rfl rfl (any_of HT_.out (by kernel_rfl)) (fun _ _ _ h => h) (Or.inl ⟨by rfl, ?_⟩) ?_ ?_
                        rotate_left
                        · intro w'
                          go_simp
                          with_reducible rfl
                        rotate_left
                        · simp only [Act.put, List.setIfInBounds_toArray, List.set_cons_zero, List.set_cons_succ, i64_w, i32_w]
                          rfl
                        refine pure_ (i := 4) (N := some 19) (v := ?_) (a' := ?_) #[true, true, true, true, true, false, false, false, false, false, false, false, false, false, false, false, false, false] rfl rfl (any_of HT_.out (by kernel_rfl)) (fun _ _ _ h => h) (Or.inl ⟨by rfl, ?_⟩) ?_ ?_
                        rotate_left
                        · intro w'
                          go_simp
                          with_reducible rfl
                        rotate_left
                        · simp only [Act.put, List.setIfInBounds_toArray, List.set_cons_zero, List.set_cons_succ, i64_w, i32_w]
                          rfl
                        refine pure_ (i := 5) (N := some 20) (v := ?_) (a' := ?_) #[true, true, true, true, true, true, false, false, false, false, false, false, false, false, false, false, false, false] rfl rfl (any_of HT_.out (by kernel_rfl)) (fun _ _ _ h => h) (Or.inl ⟨by rfl, ?_⟩) ?_ ?_
                        rotate_left
                        · intro w'
                          go_simp
                          with_reducible rfl
                        rotate_left
                        · simp only [Act.put, List.setIfInBounds_toArray, List.set_cons_zero, List.set_cons_succ, i64_w, i32_w]
                          rfl
                        refine pure_ (i := 6) (N := some 21) (v := ?_) (a' := ?_) #[true, true, true, true, true, true, true, false, false, false, false, false, false, false, false, false, false, false] rfl rfl (any_of HT_.out (by kernel_rfl)) (fun _ _ _ h => h) (Or.inl ⟨by rfl, ?_⟩) ?_ ?_
                        rotate_left
                        · intro w'
                          go_simp
                          with_reducible rfl
                        rotate_left
                        · simp only [Act.put, List.setIfInBounds_toArray, List.set_cons_zero, List.set_cons_succ, i64_w, i32_w]
                          rfl
                        refine pure_ (i := 7) (N := some 22) (v := ?_) (a' := ?_) #[true, true, true, true, true, true, true, true, false, false, false, false, false, false, false, false, false, false] rfl rfl (any_of HT_.out (by kernel_rfl)) (fun _ _ _ h => h) (Or.inl ⟨by rfl, ?_⟩) ?_ ?_
                        rotate_left
                        · intro w'
                          go_simp
                          with_reducible rfl
                        rotate_left
                        · simp only [Act.put, List.setIfInBounds_toArray, List.set_cons_zero, List.set_cons_succ, i64_w, i32_w]
                          rfl
                        refine pure_ (i := 8) (N := some 23) (v := ?_) (a' := ?_) #[true, true, true, true, true, true, true, true, true, false, false, false, false, false, false, false, false, false] rfl rfl (any_of HT_.out (by kernel_rfl)) (fun _ _ _ h => h) (Or.inl ⟨by rfl, ?_⟩) ?_ ?_
                        rotate_left
                        · intro w'
                          go_simp
                          with_reducible rfl
                        rotate_left
                        · simp only [Act.put, List.setIfInBounds_toArray, List.set_cons_zero, List.set_cons_succ, i64_w, i32_w]
                          rfl
                        refine pure_ (i := 9) (N := some 24) (v := ?_) (a' := ?_) #[true, true, true, true, true, true, true, true, true, true, false, false, false, false, false, false, false, false] rfl rfl (any_of HT_.out (by kernel_rfl)) (fun _ _ _ h => h) (Or.inl ⟨by rfl, ?_⟩) ?_ ?_
                        rotate_left
                        · intro w'
                          go_simp
                          with_reducible rfl
                        rotate_left
                        · simp only [Act.put, List.setIfInBounds_toArray, List.set_cons_zero, List.set_cons_succ, i64_w, i32_w]
                          rfl
                        refine pure_ (i := 10) (N := some 25) (v := ?_) (a' := ?_) #[true, true, true, true, true, true, true, true, true, true, true, false, false, false, false, false, false, false] rfl rfl (any_of HT_.out (by kernel_rfl)) (fun _ _ _ h => h) (Or.inl ⟨by rfl, ?_⟩) ?_ ?_
                        rotate_left
                        · intro w'
                          go_simp
                          with_reducible rfl
                        rotate_left
                        · simp only [Act.put, List.setIfInBounds_toArray, List.set_cons_zero, List.set_cons_succ, i64_w, i32_w]
                          rfl
                        refine pure_ (i := 11) (N := some 26) (v := ?_) (a' := ?_) #[true, true, true, true, true, true, true, true, true, true, true, true, false, false, false, false, false, false] rfl rfl (any_of HT_.out (by kernel_rfl)) (fun _ _ _ h => h) (Or.inl ⟨by rfl, ?_⟩) ?_ ?_
                        rotate_left
                        · intro w'
                          go_simp
                          with_reducible rfl
                        rotate_left
                        · simp only [Act.put, List.setIfInBounds_toArray, List.set_cons_zero, List.set_cons_succ, i64_w, i32_w]
                          rfl
                        refine pure_ (i := 13) (N := some 28) (v := ?_) (a' := ?_) #[true, true, true, true, true, true, true, true, true, true, true, true, false, true, false, false, false, false] rfl rfl (any_of HT_.out (by kernel_rfl)) (fun _ _ _ h => h) (Or.inl ⟨by rfl, ?_⟩) ?_ ?_
                        rotate_left
                        · intro w'
                          go_simp
                          with_reducible rfl
                        rotate_left
                        · simp only [Act.put, List.setIfInBounds_toArray, List.set_cons_zero, List.set_cons_succ, i64_w, i32_w]
                          rfl
                        refine take_ (i := 12) (N := some 27) (v := ?_) (a' := ?_) #[true, true, true, true, true, true, true, true, true, true, true, true, true, true, false, false, false, false] rfl rfl (take_ofW HT_.out HW_.out (by kernel_rfl)) (fun _ _ _ h => h) (Or.inl ⟨by rfl, ?_⟩) hHeld ?_ ?_
                        rotate_left
                        · rintro w' ⟨s0, s1, s2, s3, s4, s5⟩
                          go_simp
                          with_reducible rfl
                        rotate_left
                        · simp only [Act.put, List.setIfInBounds_toArray, List.set_cons_zero, List.set_cons_succ, i64_w, i32_w]
                          rfl
                        refine take_ (i := 14) (N := some 29) (v := ?_) (a' := ?_) #[true, true, true, true, true, true, true, true, true, true, true, true, true, true, true, false, false, false] rfl rfl (take_ofW HT_.out HW_.out (by kernel_rfl)) (fun _ _ _ h => h) (Or.inl ⟨by rfl, ?_⟩) hHeld ?_ ?_
                        rotate_left
                        · rintro w' ⟨s0, s1, s2, s3, s4, s5⟩
                          go_simp
                          with_reducible rfl
                        rotate_left
                        · simp only [Act.put, List.setIfInBounds_toArray, List.set_cons_zero, List.set_cons_succ, i64_w, i32_w]
                          rfl
                        refine pure_ (i := 15) (N := some 30) (v := ?_) (a' := ?_) #[true, true, true, true, true, true, true, true, true, true, true, true, true, true, true, true, false, false] rfl rfl (any_of HT_.out (by kernel_rfl)) (fun _ _ _ h => h) (Or.inl ⟨by rfl, ?_⟩) ?_ ?_
                        rotate_left
                        · intro w'
                          go_simp
                          with_reducible rfl
                        rotate_left
                        · simp only [Act.put, List.setIfInBounds_toArray, List.set_cons_zero, List.set_cons_succ, i64_w, i32_w]
                          rfl
                        refine pure_ (i := 16) (N := some 31) (v := ?_) (a' := ?_) #[true, true, true, true, true, true, true, true, true, true, true, true, true, true, true, true, true, false] rfl rfl (any_of HT_.out (by kernel_rfl)) (fun _ _ _ h => h) (Or.inl ⟨by rfl, ?_⟩) ?_ ?_
                        rotate_left
                        · intro w'
                          go_simp
                          with_reducible rfl
                        rotate_left
                        · simp only [Act.put, List.setIfInBounds_toArray, List.set_cons_zero, List.set_cons_succ, i64_w, i32_w]
                          rfl
                        refine pure_ (i := 17) (N := some 32) (v := ?_) (a' := ?_) #[true, true, true, true, true, true, true, true, true, true, true, true, true, true, true, true, true, true] rfl rfl (any_of HT_.out (by kernel_rfl)) (fun _ _ _ h => h) (Or.inl ⟨by rfl, ?_⟩) ?_ ?_
                        rotate_left
                        · intro w'
                          go_simp
                          with_reducible rfl
                        rotate_left
                        · simp only [Act.put, List.setIfInBounds_toArray, List.set_cons_zero, List.set_cons_succ, i64_w, i32_w]
                          rfl
                        refine done_ (done_of HT_.out (by kernel_rfl)) ?_
                        try go_wp2
                        go_roundg k1
                        case measure => have := HK1.out; omega
                        case rel => exact ⟨(wrap64 (x10_1 + 1)), (by first | rfl | (simp; done) | (simp [*]; done)), H', ⟨by have := HK1.out; omega⟩, ⟨by repeat (first | (with_reducible first | exact HB.out | apply below_alloc | apply pw_below_drewN | apply below_drew1 | refine below_set ?_ GE130.out) | exact HB.out)⟩⟩
                    · rw [if_neg c11] at H
                      exact absurd H (by simp)
                  · rw [if_neg c10] at H
                    exact absurd H (by simp)
                · rw [if_neg c8] at H
                  have c8b0 : decide (0 < x10_1) = false := decide_eq_false c8
                  clear c8
                  have H' := Aside0.mk H
                  clear H
                  have p129 : 0 ≤ (x10_1 : Int) := of_decide_eq_true (by first | (with_reducible assumption) | assumption)
                  have q129 : x10_1 < (l0.length : Int) := of_decide_eq_true (by first | (with_reducible assumption) | assumption)
                  obtain ⟨ad129, A129_2, c129_2, e129, hx129_0, hx129_1, hx129_2, hl129_2, hi129_2⟩ := at_T40 HR0.out x10_1 p129 q129
                  cases e129
                  replace hx129_0 := (HB.out.cell (World.block_lt_of_cell? w _ hx129_0)).trans hx129_0
                  replace hx129_1 := (HB.out.cell (World.block_lt_of_cell? w _ hx129_1)).trans hx129_1
                  replace hx129_2 := (HB.out.cell (World.block_lt_of_cell? w _ hx129_2)).trans hx129_2
                  have HR129_2 := Aside0.mk hi129_2
                  have HC129_2 := Aside0.mk hl129_2
                  clear hi129_2 hl129_2
                  replace p129 := eq_true p129
                  replace q129 := eq_true q129
                  try go_wp2_with (first | ((with_reducible refine gate_dst (N := 4) rfl ?_); refine box_event ?hg (N := 4) ?hd (cs := #[.int .u64 0, .string (⟨#[]⟩ : ByteArray), .slice none 0 0]) (t := 40) ?hr ?_; (case hd => rfl); (case hg => rfl); (case hr => first | (go_simp; done) | (go_simp; rfl)); intro gb130 hg w23 hbox hb; have n0_ := Aside0.mk (below_step (by repeat (first | (with_reducible first | exact HB.out | apply below_alloc | apply pw_below_drewN | apply below_drew1) | exact HB.out)) hb); have n1_ := Aside0.mk (hbox); have n2_ := Aside0.mk ((by rw [hg]; exact (below_size (by repeat (first | (with_reducible first | exact HB.out | apply below_alloc | apply pw_below_drewN | apply below_drew1) | exact HB.out))) : w.heap.size ≤ gb130)); have n3_ := Aside0.mk ((by rw [hg]; exact (below_size (by repeat (first | (with_reducible first | exact HB.out | apply below_alloc | apply pw_below_drewN | apply below_drew1) | exact HB.out))) : w.heap.size ≤ gb130)); clear HB; have HB := n0_; have BK130 := n1_; have GW130 := n2_; have GE130 := n3_; clear n0_ n1_ n2_ n3_; clear hb hbox hg; have hcz24_0 : w23.cell? ⟨gb130, 0, none⟩ = some (.int .u64 0) := (blk_cell BK130.out 0).trans rfl; have hcz24_1 : w23.cell? ⟨gb130, 1, none⟩ = some (.string (⟨#[]⟩ : ByteArray)) := (blk_cell BK130.out 1).trans rfl; have hcz24_2 : w23.cell? ⟨gb130, 2, none⟩ = some (.slice none 0 0) := (blk_cell BK130.out 2).trans rfl; have hfz24_0 := blk_frozen BK130.out 0; have hfz24_1 := blk_frozen BK130.out 1; have hfz24_2 := blk_frozen BK130.out 2))
                  have n0_ : Aside0 ((((w23.setCell ⟨gb130, 0, none⟩ (.int .u64 ((rd_T40 l0 x10_1).f0))).setCell ⟨gb130, 1, none⟩ (.string ((rd_T40 l0 x10_1).f1))).setCell ⟨gb130, 2, none⟩ (.slice A129_2 ((rd_T40 l0 x10_1).f2).length c129_2)).heap[gb130]? = some (.cells #[.int .u64 ((rd_T40 l0 x10_1).f0), .string ((rd_T40 l0 x10_1).f1), .slice A129_2 ((rd_T40 l0 x10_1).f2).length c129_2] 40 (0, 0))) := ⟨by (with_reducible repeat (first | refine blk_drewN ?_ _ | refine blk_drew ?_ | refine blk_alloc ?_ _)); refine blk_put (cs := #[.int .u64 ((rd_T40 l0 x10_1).f0), .string ((rd_T40 l0 x10_1).f1), .slice none 0 0]) ?_ 2 _ rfl; (with_reducible repeat (first | refine blk_drewN ?_ _ | refine blk_drew ?_ | refine blk_alloc ?_ _)); refine blk_put (cs := #[.int .u64 ((rd_T40 l0 x10_1).f0), .string (⟨#[]⟩ : ByteArray), .slice none 0 0]) ?_ 1 _ rfl; (with_reducible repeat (first | refine blk_drewN ?_ _ | refine blk_drew ?_ | refine blk_alloc ?_ _)); refine blk_put (cs := #[.int .u64 0, .string (⟨#[]⟩ : ByteArray), .slice none 0 0]) ?_ 0 _ rfl; (with_reducible repeat (first | refine blk_drewN ?_ _ | refine blk_drew ?_ | refine blk_alloc ?_ _)); exact BK130.out⟩
                  have n1_ : Aside0 (Below w.heap.size w (((w23.setCell ⟨gb130, 0, none⟩ (.int .u64 ((rd_T40 l0 x10_1).f0))).setCell ⟨gb130, 1, none⟩ (.string ((rd_T40 l0 x10_1).f1))).setCell ⟨gb130, 2, none⟩ (.slice A129_2 ((rd_T40 l0 x10_1).f2).length c129_2))) := ⟨by repeat (first | (with_reducible first | exact HB.out | apply below_alloc | apply pw_below_drewN | apply below_drew1 | refine below_set ?_ GE130.out) | exact HB.out)⟩
                  (try clear BK130)
                  (try clear HB)
                  generalize (((w23.setCell ⟨gb130, 0, none⟩ (.int .u64 ((rd_T40 l0 x10_1).f0))).setCell ⟨gb130, 1, none⟩ (.string ((rd_T40 l0 x10_1).f1))).setCell ⟨gb130, 2, none⟩ (.slice A129_2 ((rd_T40 l0 x10_1).f2).length c129_2)) = w25 at n0_ n1_ ⊢
                  have BK130 := n0_
                  have HB := n1_
                  clear n0_ n1_
                  have n0_ := Aside0.mk (blk_drew BK130.out)
                  have n1_ := Aside0.mk (below_drew1 HB.out)
                  clear BK130
                  clear HB
                  have BK130 := n0_
                  have HB := n1_
                  clear n0_ n1_
                  refine start_ (n := 18) (S := fun w' => w'.cell? ⟨gb130, 0, none⟩ = some (.int .u64 ((rd_T40 l0 x10_1).f0)) ∧ w'.cell? ⟨gb130, 1, none⟩ = some (.string ((rd_T40 l0 x10_1).f1)) ∧ w'.cell? ⟨gb130, 2, none⟩ = some (.slice A129_2 ((rd_T40 l0 x10_1).f2).length c129_2)) (ds := []) #[false, false, false, false, false, false, false, false, false, false, false, false, false, false, false, false, false, false] (by kernel_rfl) rfl rfl ⟨(blk_cell BK130.out 0).trans rfl, (blk_cell BK130.out 1).trans rfl, (blk_cell BK130.out 2).trans rfl⟩ (fun hHeld => ?_); refine with_tabW parts_Check.tab6 parts_Check.bits6 (fun HT_ HW_ => ?_)
                  generalize w25.drew = w26 at BK130 HB hHeld ⊢
                  refine take_ (i := 0) (N := some 15) (v := ?_) (a' := ?_) #[true, false, false, false, false, false, false, false, false, false, false, false, false, false, false, false, false, false] rfl rfl (take_ofW HT_.out HW_.out (by kernel_rfl)) (fun _ _ _ h => h) (Or.inl ⟨by rfl, ?_⟩) hHeld ?_ ?_
                  rotate_left
                  · rintro w' ⟨s0, s1, s2⟩
                    go_simp
                    with_reducible rfl
                  rotate_left
                  · simp only [Act.put, List.setIfInBounds_toArray, List.set_cons_zero, List.set_cons_succ, i64_w, i32_w]
                    rfl
                  refine one_ (i := 1) (N := some 16) #[true, true, false, false, false, false, false, false, false, false, false, false, false, false, false, false, false, false] rfl rfl (one_of HT_.out (by kernel_rfl)) (by decide) (fun K hK => ?_)
                  refine goes_ Tryz.func34 (by kernel_rfl) rfl #[.agg #[.int .u64 ((rd_T40 l0 x10_1).f0), .string ((rd_T40 l0 x10_1).f1), .slice A129_2 ((rd_T40 l0 x10_1).f2).length c129_2]] (by rfl) rfl rfl (by (try simp only [List.map_toArray, List.map_cons, List.map_nil]); first | done | rfl | (simp only [List.length_drop, List.length_take]; rfl)) ?_
                  with_reducible refine (parts_upload_fine.calls k1 ((rd_T40 l0 x10_1).f0) ((rd_T40 l0 x10_1).f1) _ _ ((rd_T40 l0 x10_1).f2) true _ ?side1 ?side2 A6.out).mono ?_
                  (case side1 => repeat (first | exact (Kd.C_below HR129_2.out HB.out) | (with_reducible refine Kd.C_alloc ?_ _) | (with_reducible refine Kd.C_drewN ?_ _) | (with_reducible refine Kd.C_drew ?_)))
                  (case side2 => exact HC129_2.out)
                  rintro e w27 ⟨rfl, hb⟩
                  refine ⟨_, rfl, ?_⟩
                  have n0_ := Aside0.mk (blk_below (g := gb130) (o := .cells #[.int .u64 ((rd_T40 l0 x10_1).f0), .string ((rd_T40 l0 x10_1).f1), .slice A129_2 ((rd_T40 l0 x10_1).f2).length c129_2] 40 (0, 0)) (by (with_reducible repeat (first | refine blk_drewN ?_ _ | refine blk_drew ?_ | refine blk_alloc ?_ _)); exact BK130.out) hb)
                  have n1_ := Aside0.mk (below_step (by repeat (first | (with_reducible first | exact HB.out | apply below_alloc | apply pw_below_drewN | apply below_drew1 | refine below_set ?_ GE130.out) | exact HB.out)) hb)
                  clear BK130
                  clear HB
                  have BK130 := n0_
                  have HB := n1_
                  clear n0_ n1_
                  (try clear hb)
                  (try clear hb2)
                  (try clear hk)
                  (try clear hi)
                  refine hK.out _ _ ⟨(blk_cell BK130.out 0).trans rfl, (blk_cell BK130.out 1).trans rfl, (blk_cell BK130.out 2).trans rfl⟩ (fun hHeld => ?_)
                  clear hK K
                  refine norm_ (a' := ?_) ?_ ?_
                  rotate_left
                  · show Act.put _ (some 16) _ = _
                    simp only [Act.put, List.setIfInBounds_toArray, List.set_cons_zero, List.set_cons_succ, i64_w, i32_w]
                    rfl
                  refine pure_ (i := 2) (N := some 17) (v := ?_) (a' := ?_) #[true, true, true, false, false, false, false, false, false, false, false, false, false, false, false, false, false, false] rfl rfl (any_of HT_.out (by kernel_rfl)) (fun _ _ _ h => h) (Or.inl ⟨by rfl, ?_⟩) ?_ ?_
                  rotate_left
                  · intro w'
                    go_simp
                    with_reducible rfl
                  rotate_left
                  · simp only [Act.put, List.setIfInBounds_toArray, List.set_cons_zero, List.set_cons_succ, i64_w, i32_w]
                    rfl
                  refine pure_ (i := 3) (N := some 18) (v := ?_) (a' := ?_) #[true, true, true, true, false, false, false, false, false, false, false, false, false, false, false, false, false, false] rfl rfl (any_of HT_.out (by kernel_rfl)) (fun _ _ _ h => h) (Or.inl ⟨by rfl, ?_⟩) ?_ ?_
                  rotate_left
                  · intro w'
                    go_simp
                    with_reducible rfl
                  rotate_left
                  · simp only [Act.put, List.setIfInBounds_toArray, List.set_cons_zero, List.set_cons_succ, i64_w, i32_w]
                    rfl
                  refine pure_ (i := 4) (N := some 19) (v := ?_) (a' := ?_) #[true, true, true, true, true, false, false, false, false, false, false, false, false, false, false, false, false, false] rfl rfl (any_of HT_.out (by kernel_rfl)) (fun _ _ _ h => h) (Or.inl ⟨by rfl, ?_⟩) ?_ ?_
                  rotate_left
                  · intro w'
                    go_simp
                    with_reducible rfl
                  rotate_left
                  · simp only [Act.put, List.setIfInBounds_toArray, List.set_cons_zero, List.set_cons_succ, i64_w, i32_w]
                    rfl
                  refine pure_ (i := 5) (N := some 20) (v := ?_) (a' := ?_) #[true, true, true, true, true, true, false, false, false, false, false, false, false, false, false, false, false, false] rfl rfl (any_of HT_.out (by kernel_rfl)) (fun _ _ _ h => h) (Or.inl ⟨by rfl, ?_⟩) ?_ ?_
                  rotate_left
                  · intro w'
                    go_simp
                    with_reducible rfl
                  rotate_left
                  · simp only [Act.put, List.setIfInBounds_toArray, List.set_cons_zero, List.set_cons_succ, i64_w, i32_w]
                    rfl
                  refine pure_ (i := 6) (N := some 21) (v := ?_) (a' := ?_) #[true, true, true, true, true, true, true, false, false, false, false, false, false, false, false, false, false, false] rfl rfl (any_of HT_.out (by kernel_rfl)) (fun _ _ _ h => h) (Or.inl ⟨by rfl, ?_⟩) ?_ ?_
                  rotate_left
                  · intro w'
                    go_simp
                    with_reducible rfl
                  rotate_left
                  · simp only [Act.put, List.setIfInBounds_toArray, List.set_cons_zero, List.set_cons_succ, i64_w, i32_w]
                    rfl
                  refine pure_ (i := 7) (N := some 22) (v := undef) (a' := ?_) #[true, true, true, true, true, true, true, true, false, false, false, false, false, false, false, false, false, false] rfl rfl (any_of HT_.out (by kernel_rfl)) (fun _ _ _ h => h) (Or.inr ⟨by rfl, rfl⟩) ?_ ?_
                  rotate_left
                  · simp only [Act.put, List.setIfInBounds_toArray, List.set_cons_zero, List.set_cons_succ, i64_w, i32_w]
                    rfl
                  refine pure_ (i := 8) (N := some 23) (v := undef) (a' := ?_) #[true, true, true, true, true, true, true, true, true, false, false, false, false, false, false, false, false, false] rfl rfl (any_of HT_.out (by kernel_rfl)) (fun _ _ _ h => h) (Or.inr ⟨by rfl, rfl⟩) ?_ ?_
                  rotate_left
                  · simp only [Act.put, List.setIfInBounds_toArray, List.set_cons_zero, List.set_cons_succ, i64_w, i32_w]
                    rfl
                  refine pure_ (i := 9) (N := some 24) (v := undef) (a' := ?_) #[true, true, true, true, true, true, true, true, true, true, false, false, false, false, false, false, false, false] rfl rfl (any_of HT_.out (by kernel_rfl)) (fun _ _ _ h => h) (Or.inr ⟨by rfl, rfl⟩) ?_ ?_
                  rotate_left
                  · simp only [Act.put, List.setIfInBounds_toArray, List.set_cons_zero, List.set_cons_succ, i64_w, i32_w]
                    rfl
                  refine pure_ (i := 10) (N := some 25) (v := undef) (a' := ?_) #[true, true, true, true, true, true, true, true, true, true, true, false, false, false, false, false, false, false] rfl rfl (any_of HT_.out (by kernel_rfl)) (fun _ _ _ h => h) (Or.inr ⟨by rfl, rfl⟩) ?_ ?_
                  rotate_left
                  · simp only [Act.put, List.setIfInBounds_toArray, List.set_cons_zero, List.set_cons_succ, i64_w, i32_w]
                    rfl
                  refine pure_ (i := 11) (N := some 26) (v := undef) (a' := ?_) #[true, true, true, true, true, true, true, true, true, true, true, true, false, false, false, false, false, false] rfl rfl (any_of HT_.out (by kernel_rfl)) (fun _ _ _ h => h) (Or.inr ⟨by rfl, rfl⟩) ?_ ?_
                  rotate_left
                  · simp only [Act.put, List.setIfInBounds_toArray, List.set_cons_zero, List.set_cons_succ, i64_w, i32_w]
                    rfl
                  refine pure_ (i := 12) (N := some 27) (v := undef) (a' := ?_) #[true, true, true, true, true, true, true, true, true, true, true, true, true, false, false, false, false, false] rfl rfl (any_of HT_.out (by kernel_rfl)) (fun _ _ _ h => h) (Or.inr ⟨by rfl, rfl⟩) ?_ ?_
                  rotate_left
                  · simp only [Act.put, List.setIfInBounds_toArray, List.set_cons_zero, List.set_cons_succ, i64_w, i32_w]
                    rfl
                  refine pure_ (i := 13) (N := some 28) (v := undef) (a' := ?_) #[true, true, true, true, true, true, true, true, true, true, true, true, true, true, false, false, false, false] rfl rfl (any_of HT_.out (by kernel_rfl)) (fun _ _ _ h => h) (Or.inr ⟨by rfl, rfl⟩) ?_ ?_
                  rotate_left
                  · simp only [Act.put, List.setIfInBounds_toArray, List.set_cons_zero, List.set_cons_succ, i64_w, i32_w]
                    rfl
                  refine pure_ (i := 14) (N := some 29) (v := undef) (a' := ?_) #[true, true, true, true, true, true, true, true, true, true, true, true, true, true, true, false, false, false] rfl rfl (any_of HT_.out (by kernel_rfl)) (fun _ _ _ h => h) (Or.inr ⟨by rfl, rfl⟩) ?_ ?_
                  rotate_left
                  · simp only [Act.put, List.setIfInBounds_toArray, List.set_cons_zero, List.set_cons_succ, i64_w, i32_w]
                    rfl
                  refine pure_ (i := 15) (N := some 30) (v := undef) (a' := ?_) #[true, true, true, true, true, true, true, true, true, true, true, true, true, true, true, true, false, false] rfl rfl (any_of HT_.out (by kernel_rfl)) (fun _ _ _ h => h) (Or.inr ⟨by rfl, rfl⟩) ?_ ?_
                  rotate_left
                  · simp only [Act.put, List.setIfInBounds_toArray, List.set_cons_zero, List.set_cons_succ, i64_w, i32_w]
                    rfl
                  refine pure_ (i := 16) (N := some 31) (v := ?_) (a' := ?_) #[true, true, true, true, true, true, true, true, true, true, true, true, true, true, true, true, true, false] rfl rfl (any_of HT_.out (by kernel_rfl)) (fun _ _ _ h => h) (Or.inl ⟨by rfl, ?_⟩) ?_ ?_
                  rotate_left
                  · intro w'
                    go_simp
                    with_reducible rfl
                  rotate_left
                  · simp only [Act.put, List.setIfInBounds_toArray, List.set_cons_zero, List.set_cons_succ, i64_w, i32_w]
                    rfl
                  refine pure_ (i := 17) (N := some 32) (v := ?_) (a' := ?_) #[true, true, true, true, true, true, true, true, true, true, true, true, true, true, true, true, true, true] rfl rfl (any_of HT_.out (by kernel_rfl)) (fun _ _ _ h => h) (Or.inl ⟨by rfl, ?_⟩) ?_ ?_
                  rotate_left
                  · intro w'
                    go_simp
                    with_reducible rfl
                  rotate_left
                  · simp only [Act.put, List.setIfInBounds_toArray, List.set_cons_zero, List.set_cons_succ, i64_w, i32_w]
                    rfl
                  refine done_ (done_of HT_.out (by kernel_rfl)) ?_
                  try go_wp2
                  go_roundg k1
                  case measure => have := HK1.out; omega
                  case rel => exact ⟨(wrap64 (x10_1 + 1)), (by first | rfl | (simp; done) | (simp [*]; done)), H', ⟨by have := HK1.out; omega⟩, ⟨by repeat (first | (with_reducible first | exact HB.out | apply below_alloc | apply pw_below_drewN | apply below_drew1 | refine below_set ?_ GE130.out) | exact HB.out)⟩⟩
              · replace c7 := Bool.eq_false_iff.mpr c7
                subst c7
                have H1 : (some 1) = some r := by rw [if_neg (show ¬ (false = true) by decide)] at H; exact H
                clear H
                have H := H1
                clear H1
                obtain rfl := Option.some.inj H
                have p129 : 0 ≤ (x10_1 : Int) := of_decide_eq_true (by first | (with_reducible assumption) | assumption)
                have q129 : x10_1 < (l0.length : Int) := of_decide_eq_true (by first | (with_reducible assumption) | assumption)
                obtain ⟨ad129, A129_2, c129_2, e129, hx129_0, hx129_1, hx129_2, hl129_2, hi129_2⟩ := at_T40 HR0.out x10_1 p129 q129
                cases e129
                replace hx129_0 := (HB.out.cell (World.block_lt_of_cell? w _ hx129_0)).trans hx129_0
                replace hx129_1 := (HB.out.cell (World.block_lt_of_cell? w _ hx129_1)).trans hx129_1
                replace hx129_2 := (HB.out.cell (World.block_lt_of_cell? w _ hx129_2)).trans hx129_2
                have HR129_2 := Aside0.mk hi129_2
                have HC129_2 := Aside0.mk hl129_2
                clear hi129_2 hl129_2
                replace p129 := eq_true p129
                replace q129 := eq_true q129
                try go_wp2_with (first | ((with_reducible refine gate_dst (N := 4) rfl ?_); refine box_event ?hg (N := 4) ?hd (cs := #[.int .u64 0, .string (⟨#[]⟩ : ByteArray), .slice none 0 0]) (t := 40) ?hr ?_; (case hd => rfl); (case hg => rfl); (case hr => first | (go_simp; done) | (go_simp; rfl)); intro gb130 hg w28 hbox hb; have n0_ := Aside0.mk (below_step (by repeat (first | (with_reducible first | exact HB.out | apply below_alloc | apply pw_below_drewN | apply below_drew1) | exact HB.out)) hb); have n1_ := Aside0.mk (hbox); have n2_ := Aside0.mk ((by rw [hg]; exact (below_size (by repeat (first | (with_reducible first | exact HB.out | apply below_alloc | apply pw_below_drewN | apply below_drew1) | exact HB.out))) : w.heap.size ≤ gb130)); have n3_ := Aside0.mk ((by rw [hg]; exact (below_size (by repeat (first | (with_reducible first | exact HB.out | apply below_alloc | apply pw_below_drewN | apply below_drew1) | exact HB.out))) : w.heap.size ≤ gb130)); clear HB; have HB := n0_; have BK130 := n1_; have GW130 := n2_; have GE130 := n3_; clear n0_ n1_ n2_ n3_; clear hb hbox hg; have hcz29_0 : w28.cell? ⟨gb130, 0, none⟩ = some (.int .u64 0) := (blk_cell BK130.out 0).trans rfl; have hcz29_1 : w28.cell? ⟨gb130, 1, none⟩ = some (.string (⟨#[]⟩ : ByteArray)) := (blk_cell BK130.out 1).trans rfl; have hcz29_2 : w28.cell? ⟨gb130, 2, none⟩ = some (.slice none 0 0) := (blk_cell BK130.out 2).trans rfl; have hfz29_0 := blk_frozen BK130.out 0; have hfz29_1 := blk_frozen BK130.out 1; have hfz29_2 := blk_frozen BK130.out 2))
                have n0_ : Aside0 ((((w28.setCell ⟨gb130, 0, none⟩ (.int .u64 ((rd_T40 l0 x10_1).f0))).setCell ⟨gb130, 1, none⟩ (.string ((rd_T40 l0 x10_1).f1))).setCell ⟨gb130, 2, none⟩ (.slice A129_2 ((rd_T40 l0 x10_1).f2).length c129_2)).heap[gb130]? = some (.cells #[.int .u64 ((rd_T40 l0 x10_1).f0), .string ((rd_T40 l0 x10_1).f1), .slice A129_2 ((rd_T40 l0 x10_1).f2).length c129_2] 40 (0, 0))) := ⟨by (with_reducible repeat (first | refine blk_drewN ?_ _ | refine blk_drew ?_ | refine blk_alloc ?_ _)); refine blk_put (cs := #[.int .u64 ((rd_T40 l0 x10_1).f0), .string ((rd_T40 l0 x10_1).f1), .slice none 0 0]) ?_ 2 _ rfl; (with_reducible repeat (first | refine blk_drewN ?_ _ | refine blk_drew ?_ | refine blk_alloc ?_ _)); refine blk_put (cs := #[.int .u64 ((rd_T40 l0 x10_1).f0), .string (⟨#[]⟩ : ByteArray), .slice none 0 0]) ?_ 1 _ rfl; (with_reducible repeat (first | refine blk_drewN ?_ _ | refine blk_drew ?_ | refine blk_alloc ?_ _)); refine blk_put (cs := #[.int .u64 0, .string (⟨#[]⟩ : ByteArray), .slice none 0 0]) ?_ 0 _ rfl; (with_reducible repeat (first | refine blk_drewN ?_ _ | refine blk_drew ?_ | refine blk_alloc ?_ _)); exact BK130.out⟩
                have n1_ : Aside0 (Below w.heap.size w (((w28.setCell ⟨gb130, 0, none⟩ (.int .u64 ((rd_T40 l0 x10_1).f0))).setCell ⟨gb130, 1, none⟩ (.string ((rd_T40 l0 x10_1).f1))).setCell ⟨gb130, 2, none⟩ (.slice A129_2 ((rd_T40 l0 x10_1).f2).length c129_2))) := ⟨by repeat (first | (with_reducible first | exact HB.out | apply below_alloc | apply pw_below_drewN | apply below_drew1 | refine below_set ?_ GE130.out) | exact HB.out)⟩
                (try clear BK130)
                (try clear HB)
                generalize (((w28.setCell ⟨gb130, 0, none⟩ (.int .u64 ((rd_T40 l0 x10_1).f0))).setCell ⟨gb130, 1, none⟩ (.string ((rd_T40 l0 x10_1).f1))).setCell ⟨gb130, 2, none⟩ (.slice A129_2 ((rd_T40 l0 x10_1).f2).length c129_2)) = w30 at n0_ n1_ ⊢
                have BK130 := n0_
                have HB := n1_
                clear n0_ n1_
                have n0_ := Aside0.mk (blk_drew BK130.out)
                have n1_ := Aside0.mk (below_drew1 HB.out)
                clear BK130
                clear HB
                have BK130 := n0_
                have HB := n1_
                clear n0_ n1_
                refine start_ (n := 18) (S := fun w' => w'.cell? ⟨gb130, 0, none⟩ = some (.int .u64 ((rd_T40 l0 x10_1).f0)) ∧ w'.cell? ⟨gb130, 1, none⟩ = some (.string ((rd_T40 l0 x10_1).f1)) ∧ w'.cell? ⟨gb130, 2, none⟩ = some (.slice A129_2 ((rd_T40 l0 x10_1).f2).length c129_2)) (ds := []) #[false, false, false, false, false, false, false, false, false, false, false, false, false, false, false, false, false, false] (by kernel_rfl) rfl rfl ⟨(blk_cell BK130.out 0).trans rfl, (blk_cell BK130.out 1).trans rfl, (blk_cell BK130.out 2).trans rfl⟩ (fun hHeld => ?_); refine with_tabW parts_Check.tab6 parts_Check.bits6 (fun HT_ HW_ => ?_)
                generalize w30.drew = w31 at BK130 HB hHeld ⊢
                refine take_ (i := 0) (N := some 15) (v := ?_) (a' := ?_) #[true, false, false, false, false, false, false, false, false, false, false, false, false, false, false, false, false, false] rfl rfl (take_ofW HT_.out HW_.out (by kernel_rfl)) (fun _ _ _ h => h) (Or.inl ⟨by rfl, ?_⟩) hHeld ?_ ?_
                rotate_left
                · rintro w' ⟨s0, s1, s2⟩
                  go_simp
                  with_reducible rfl
                rotate_left
                · simp only [Act.put, List.setIfInBounds_toArray, List.set_cons_zero, List.set_cons_succ, i64_w, i32_w]
                  rfl
                refine one_ (i := 1) (N := some 16) #[true, true, false, false, false, false, false, false, false, false, false, false, false, false, false, false, false, false] rfl rfl (one_of HT_.out (by kernel_rfl)) (by decide) (fun K hK => ?_)
                refine goes_ Tryz.func34 (by kernel_rfl) rfl #[.agg #[.int .u64 ((rd_T40 l0 x10_1).f0), .string ((rd_T40 l0 x10_1).f1), .slice A129_2 ((rd_T40 l0 x10_1).f2).length c129_2]] (by rfl) rfl rfl (by (try simp only [List.map_toArray, List.map_cons, List.map_nil]); first | done | rfl | (simp only [List.length_drop, List.length_take]; rfl)) ?_
                with_reducible refine (parts_upload_fine.calls k1 ((rd_T40 l0 x10_1).f0) ((rd_T40 l0 x10_1).f1) _ _ ((rd_T40 l0 x10_1).f2) false _ ?side1 ?side2 A6.out).mono ?_
                (case side1 => repeat (first | exact (Kd.C_below HR129_2.out HB.out) | (with_reducible refine Kd.C_alloc ?_ _) | (with_reducible refine Kd.C_drewN ?_ _) | (with_reducible refine Kd.C_drew ?_)))
                (case side2 => exact HC129_2.out)
                rintro e w32 ⟨rfl, hb⟩
                refine ⟨_, rfl, ?_⟩
                have n0_ := Aside0.mk (blk_below (g := gb130) (o := .cells #[.int .u64 ((rd_T40 l0 x10_1).f0), .string ((rd_T40 l0 x10_1).f1), .slice A129_2 ((rd_T40 l0 x10_1).f2).length c129_2] 40 (0, 0)) (by (with_reducible repeat (first | refine blk_drewN ?_ _ | refine blk_drew ?_ | refine blk_alloc ?_ _)); exact BK130.out) hb)
                have n1_ := Aside0.mk (below_step (by repeat (first | (with_reducible first | exact HB.out | apply below_alloc | apply pw_below_drewN | apply below_drew1 | refine below_set ?_ GE130.out) | exact HB.out)) hb)
                clear BK130
                clear HB
                have BK130 := n0_
                have HB := n1_
                clear n0_ n1_
                (try clear hb)
                (try clear hb2)
                (try clear hk)
                (try clear hi)
                refine hK.out _ _ ⟨(blk_cell BK130.out 0).trans rfl, (blk_cell BK130.out 1).trans rfl, (blk_cell BK130.out 2).trans rfl⟩ (fun hHeld => ?_)
                clear hK K
                refine norm_ (a' := ?_) ?_ ?_
                rotate_left
                · show Act.put _ (some 16) _ = _
                  simp only [Act.put, List.setIfInBounds_toArray, List.set_cons_zero, List.set_cons_succ, i64_w, i32_w]
                  rfl
                refine pure_ (i := 2) (N := some 17) (v := ?_) (a' := ?_) #[true, true, true, false, false, false, false, false, false, false, false, false, false, false, false, false, false, false] rfl rfl (any_of HT_.out (by kernel_rfl)) (fun _ _ _ h => h) (Or.inl ⟨by rfl, ?_⟩) ?_ ?_
                rotate_left
                · intro w'
                  go_simp
                  with_reducible rfl
                rotate_left
                · simp only [Act.put, List.setIfInBounds_toArray, List.set_cons_zero, List.set_cons_succ, i64_w, i32_w]
                  rfl
                refine pure_ (i := 3) (N := some 18) (v := ?_) (a' := ?_) #[true, true, true, true, false, false, false, false, false, false, false, false, false, false, false, false, false, false] rfl rfl (any_of HT_.out (by kernel_rfl)) (fun _ _ _ h => h) (Or.inl ⟨by rfl, ?_⟩) ?_ ?_
                rotate_left
                · intro w'
                  go_simp
                  with_reducible rfl
                rotate_left
                · simp only [Act.put, List.setIfInBounds_toArray, List.set_cons_zero, List.set_cons_succ, i64_w, i32_w]
                  rfl
                refine pure_ (i := 4) (N := some 19) (v := undef) (a' := ?_) #[true, true, true, true, true, false, false, false, false, false, false, false, false, false, false, false, false, false] rfl rfl (any_of HT_.out (by kernel_rfl)) (fun _ _ _ h => h) (Or.inr ⟨by rfl, rfl⟩) ?_ ?_
                rotate_left
                · simp only [Act.put, List.setIfInBounds_toArray, List.set_cons_zero, List.set_cons_succ, i64_w, i32_w]
                  rfl
                refine pure_ (i := 5) (N := some 20) (v := undef) (a' := ?_) #[true, true, true, true, true, true, false, false, false, false, false, false, false, false, false, false, false, false] rfl rfl (any_of HT_.out (by kernel_rfl)) (fun _ _ _ h => h) (Or.inr ⟨by rfl, rfl⟩) ?_ ?_
                rotate_left
                · simp only [Act.put, List.setIfInBounds_toArray, List.set_cons_zero, List.set_cons_succ, i64_w, i32_w]
                  rfl
                refine pure_ (i := 6) (N := some 21) (v := undef) (a' := ?_) #[true, true, true, true, true, true, true, false, false, false, false, false, false, false, false, false, false, false] rfl rfl (any_of HT_.out (by kernel_rfl)) (fun _ _ _ h => h) (Or.inr ⟨by rfl, rfl⟩) ?_ ?_
                rotate_left
                · simp only [Act.put, List.setIfInBounds_toArray, List.set_cons_zero, List.set_cons_succ, i64_w, i32_w]
                  rfl
                refine pure_ (i := 7) (N := some 22) (v := undef) (a' := ?_) #[true, true, true, true, true, true, true, true, false, false, false, false, false, false, false, false, false, false] rfl rfl (any_of HT_.out (by kernel_rfl)) (fun _ _ _ h => h) (Or.inr ⟨by rfl, rfl⟩) ?_ ?_
                rotate_left
                · simp only [Act.put, List.setIfInBounds_toArray, List.set_cons_zero, List.set_cons_succ, i64_w, i32_w]
                  rfl
                refine pure_ (i := 8) (N := some 23) (v := undef) (a' := ?_) #[true, true, true, true, true, true, true, true, true, false, false, false, false, false, false, false, false, false] rfl rfl (any_of HT_.out (by kernel_rfl)) (fun _ _ _ h => h) (Or.inr ⟨by rfl, rfl⟩) ?_ ?_
                rotate_left
                · simp only [Act.put, List.setIfInBounds_toArray, List.set_cons_zero, List.set_cons_succ, i64_w, i32_w]
                  rfl
                refine pure_ (i := 9) (N := some 24) (v := undef) (a' := ?_) #[true, true, true, true, true, true, true, true, true, true, false, false, false, false, false, false, false, false] rfl rfl (any_of HT_.out (by kernel_rfl)) (fun _ _ _ h => h) (Or.inr ⟨by rfl, rfl⟩) ?_ ?_
                rotate_left
                · simp only [Act.put, List.setIfInBounds_toArray, List.set_cons_zero, List.set_cons_succ, i64_w, i32_w]
                  rfl
                refine pure_ (i := 10) (N := some 25) (v := undef) (a' := ?_) #[true, true, true, true, true, true, true, true, true, true, true, false, false, false, false, false, false, false] rfl rfl (any_of HT_.out (by kernel_rfl)) (fun _ _ _ h => h) (Or.inr ⟨by rfl, rfl⟩) ?_ ?_
                rotate_left
                · simp only [Act.put, List.setIfInBounds_toArray, List.set_cons_zero, List.set_cons_succ, i64_w, i32_w]
                  rfl
                refine pure_ (i := 11) (N := some 26) (v := undef) (a' := ?_) #[true, true, true, true, true, true, true, true, true, true, true, true, false, false, false, false, false, false] rfl rfl (any_of HT_.out (by kernel_rfl)) (fun _ _ _ h => h) (Or.inr ⟨by rfl, rfl⟩) ?_ ?_
                rotate_left
                · simp only [Act.put, List.setIfInBounds_toArray, List.set_cons_zero, List.set_cons_succ, i64_w, i32_w]
                  rfl
                refine pure_ (i := 12) (N := some 27) (v := undef) (a' := ?_) #[true, true, true, true, true, true, true, true, true, true, true, true, true, false, false, false, false, false] rfl rfl (any_of HT_.out (by kernel_rfl)) (fun _ _ _ h => h) (Or.inr ⟨by rfl, rfl⟩) ?_ ?_
                rotate_left
                · simp only [Act.put, List.setIfInBounds_toArray, List.set_cons_zero, List.set_cons_succ, i64_w, i32_w]
                  rfl
                refine pure_ (i := 13) (N := some 28) (v := undef) (a' := ?_) #[true, true, true, true, true, true, true, true, true, true, true, true, true, true, false, false, false, false] rfl rfl (any_of HT_.out (by kernel_rfl)) (fun _ _ _ h => h) (Or.inr ⟨by rfl, rfl⟩) ?_ ?_
                rotate_left
                · simp only [Act.put, List.setIfInBounds_toArray, List.set_cons_zero, List.set_cons_succ, i64_w, i32_w]
                  rfl
                refine pure_ (i := 14) (N := some 29) (v := undef) (a' := ?_) #[true, true, true, true, true, true, true, true, true, true, true, true, true, true, true, false, false, false] rfl rfl (any_of HT_.out (by kernel_rfl)) (fun _ _ _ h => h) (Or.inr ⟨by rfl, rfl⟩) ?_ ?_
                rotate_left
                · simp only [Act.put, List.setIfInBounds_toArray, List.set_cons_zero, List.set_cons_succ, i64_w, i32_w]
                  rfl
                refine pure_ (i := 15) (N := some 30) (v := undef) (a' := ?_) #[true, true, true, true, true, true, true, true, true, true, true, true, true, true, true, true, false, false] rfl rfl (any_of HT_.out (by kernel_rfl)) (fun _ _ _ h => h) (Or.inr ⟨by rfl, rfl⟩) ?_ ?_
                rotate_left
                · simp only [Act.put, List.setIfInBounds_toArray, List.set_cons_zero, List.set_cons_succ, i64_w, i32_w]
                  rfl
                refine pure_ (i := 16) (N := some 31) (v := undef) (a' := ?_) #[true, true, true, true, true, true, true, true, true, true, true, true, true, true, true, true, true, false] rfl rfl (any_of HT_.out (by kernel_rfl)) (fun _ _ _ h => h) (Or.inr ⟨by rfl, rfl⟩) ?_ ?_
                rotate_left
                · simp only [Act.put, List.setIfInBounds_toArray, List.set_cons_zero, List.set_cons_succ, i64_w, i32_w]
                  rfl
                refine pure_ (i := 17) (N := some 32) (v := ?_) (a' := ?_) #[true, true, true, true, true, true, true, true, true, true, true, true, true, true, true, true, true, true] rfl rfl (any_of HT_.out (by kernel_rfl)) (fun _ _ _ h => h) (Or.inl ⟨by rfl, ?_⟩) ?_ ?_
                rotate_left
                · intro w'
                  go_simp
                  with_reducible rfl
                rotate_left
                · simp only [Act.put, List.setIfInBounds_toArray, List.set_cons_zero, List.set_cons_succ, i64_w, i32_w]
                  rfl
                refine done_ (done_of HT_.out (by kernel_rfl)) ?_
                try go_wp2
                go_ret
                exact ⟨by first | rfl | (simp [errW_none, errW_some] <;> rfl) | (simp [*, errW_none, errW_some] <;> rfl), by repeat (first | (with_reducible first | exact HB.out | apply below_alloc | apply pw_below_drewN | apply below_drew1 | refine below_set ?_ GE130.out) | exact HB.out)⟩
            · rw [if_neg c5] at H
              exact absurd H (by simp)
          · rw [if_neg c4] at H
            exact absurd H (by simp)
        · rw [if_neg c3] at H
          have c3b0 : decide (x10_1 < (l0.length : Int)) = false := decide_eq_false c3
          clear c3
          obtain rfl := Option.some.inj H
          go_wp2
          go_ret
          exact ⟨by first | rfl | (simp [errW_none, errW_some] <;> rfl) | (simp [*, errW_none, errW_some] <;> rfl), by repeat (first | (with_reducible first | exact HB.out | apply below_alloc | apply pw_below_drewN | apply below_drew1) | exact HB.out)⟩

-- NOT PRINTED: function 44 (api_Upload_44)

-- NOT PRINTED: function 23 (parts_place)

-- NOT PRINTED: function 25 (api_Part_int)

-- NOT PRINTED: function 27 (api_Upload_27)

-- NOT PRINTED: function 28 (api_Part_28)

-- NOT PRINTED: function 46 (api_Part_46)

-- NOT PRINTED: function 69 (api_Part_69)

-- NOT PRINTED: function 60 (api_Part_60)

-- NOT PRINTED: function 47 (api_Part_47)

-- NOT PRINTED: function 29 (api_Part_29)

-- NOT PRINTED: function 78 (atomic_LoadUint32)

-- NOT PRINTED: function 75 (atomic_Bool_Load)

end Go.Proofs.YtgpmkbmobdbdoaaGreatDoor.Q

-- T9
namespace Go.Proofs.YtgpmkbmobdbdoaaGreatDoor.Q
open Go.RowKit Go.Proofs.YtgpmkbmobdbdoaaGreatDoorW.PrintWords Go.Proofs.YtgpmkbmobdbdoaaGreatDoorW.PrintLast Go.Proofs.YtgpmkbmobdbdoaaGreatDoorW.PrintMore
set_option linter.unusedVariables false
set_option linter.unusedSimpArgs false

theorem keepc {w w' : World} {p : Addr} {v : Value} (hb : Below w.heap.size w w') (h : w.cell? p = some v) : w'.cell? p = some v := pw_cell_below hb h
theorem keepB {w w1 w2 : World} (h : Hid (Below w.heap.size w w1)) (hb : Below w1.heap.size w1 w2) : Hid (Below w.heap.size w w2) := h.out.trans (hb.mono h.out.size)
theorem outB {B : Nat} {w w1 : World} (h : Hid (Below B w w1)) : Below B w w1 := h
theorem keepD {B : Nat} {w w1 : World} (h : Hid (Below B w w1)) : Hid (Below B w w1.drew) := h.out.drew
def isPiece (x : S70) (p : S25) : Bool := decide (p.f0 = x.f0) && decide (tagOf p.f1 = x.f1)
set_option maxHeartbeats 2000000 in
set_option maxRecDepth 100000 in
theorem lacks1.walk (n m t : Int) (d : ByteArray) (hd : d.size ≤ 9223372036854775807) (b : Nat) (w : World) (h0 : w.cell? ⟨b, 0, none⟩ = some (.int .i64 m)) (h1 : w.cell? ⟨b, 1, none⟩ = some (.int .u32 t)) :
    Calls Tryz.prog 64 #[.agg #[.int .i64 n, .string d], .pointer (some ⟨b, 0, none⟩)] w fun e w' => e = .returned (.bool (isPiece ⟨m, t⟩ ⟨n, d⟩)) ∧ Below w.heap.size w w' := by
  have HB0 : Hid (Below w.heap.size w w) := Below.refl _ _
  have e0 := World.new_ne w _ h0
  have hlt := World.block_lt_of_cell? w _ h0
  by_cases hn : n = m
  · subst hn
    have HE : Hid (isPiece ⟨n, t⟩ ⟨n, d⟩ = (tagOf d == t)) := by unfold Hid isPiece; simp; rfl
    go_enter Tryz.func64, Tryz.ntmps64
    go_wp2
    go_region_held3 (fun w' => w'.cell? ⟨b, 1, none⟩ = some (.int .u32 t) ∧ w'.cell? ⟨b, 0, none⟩ = some (.int .i64 n) ∧ w'.cell? ⟨w.heap.size, 0, none⟩ = some (.int .i64 n) ∧ w'.cell? ⟨w.heap.size, 1, none⟩ = some (.string d) ∧ Hid (Below w.heap.size w w')) (((try go_split_ands); refine ⟨?_, ?_, ?_, ?_, ?_⟩ <;> first | (refine keepc hb ?_; assumption) | (refine keepB ?_ hb; assumption) | assumption | (refine keepD ?_; assumption) | exact (HB0.out.alloc (Nat.le_refl _) _).drew | (go_keep; done)))
      (first | (go_at_call 30; refine (tag_Of.walk d hd _).mono ?_; rintro e w' ⟨rfl, hb⟩))
    all_goals ((try go_split_ands); go_wp2; go_ret; exact ⟨by rw [HE.out]; rfl, outB (by assumption)⟩)
  · have hn' : (n == m) = false := beq_eq_false_iff_ne.2 hn
    have HE : Hid (isPiece ⟨m, t⟩ ⟨n, d⟩ = false) := by unfold Hid isPiece; simp [hn]
    go_enter Tryz.func64, Tryz.ntmps64
    go_wp2
    go_quiet (fail)
    go_wp2
    go_ret
    exact ⟨by rw [HE.out]; rfl, (HB0.out.alloc (Nat.le_refl _) _).trans (below_drewN _ _ _)⟩

theorem rd40 (l : List S25) (k : Nat) (h : k < l.length) : rd_T25 l k = l[k] := by unfold rd_T25; simp [List.getD_eq_getElem?_getD, h]
theorem at40 {w w1 : World} {A : Option Addr} {l : List S25} (hr : Kd.C k25 w A l.length l) (hb : Below w.heap.size w w1) (k : Nat) (h : k < l.length) :
    ∃ ad, A = some ad ∧ w1.cell? (ad.add (k * 2)) = some (.int .i64 l[k].f0) ∧ w1.cell? ⟨(ad.add (k * 2)).block, (ad.add (k * 2)).off + 1, none⟩ = some (.string l[k].f1) := by
  obtain ⟨ad, e, h0, h1⟩ := at_T25 hr k (by omega) (by omega)
  rw [Int.toNat_natCast, rd40 l k h] at h0 h1
  exact ⟨ad, e, keepc hb h0, keepc hb h1⟩
/-- slices.IndexFunc over parts, with the closure of lacks. -/
def hasPiece (x : S70) (l : List S25) : Bool := l.any (isPiece x)
def FitsP (l : List S25) : Prop := ∀ p ∈ l, p.f1.size ≤ 9223372036854775807
set_option maxHeartbeats 2000000 in
set_option maxRecDepth 100000 in
theorem idx63.walk (A : Option Addr) (c : Nat) (l : List S25) (x : S70) (b : Nat) (w : World) (hr : Kd.C k25 w A l.length l) (hf : FitsP l) (h0 : w.cell? ⟨b, 0, none⟩ = some (.int .i64 x.f0)) (h1 : w.cell? ⟨b, 1, none⟩ = some (.int .u32 x.f1)) :
    Calls Tryz.prog 72 #[.slice A l.length c, .func (.func 64) #[] #[.pointer (some ⟨b, 0, none⟩)]] w fun e w' => (∃ r, e = .returned (.int .i64 r) ∧ ((0 ≤ r) ↔ hasPiece x l = true)) ∧ Below w.heap.size w w' := by
  have HR := Lib.hid hr
  have hlen : (l.length : Int) ≤ 9223372036854775807 := by have := hr.2.1; omega
  clear hr
  have HB0 : Hid (Below w.heap.size w w) := Below.refl _ _
  have H0 := Lib.hid h0; have H1 := Lib.hid h1; have HF := Lib.hid hf; clear h0 h1 hf
  go_enter Tryz.func72, Tryz.ntmps72
  go_wp2
  go_loopw [5, 8] (fun _ i wr => ∃ (k : Nat), i = .int .i64 k ∧ k ≤ l.length ∧ Hid ((l.take k).any (isPiece x) = false) ∧ Hid (Below w.heap.size w wr)) (fun _ i _ => l.length - (intOf i).toNat)
  case atStart => exact ⟨0, rfl, Nat.zero_le _, by simp [Hid], HB0⟩
  case round =>
    obtain ⟨k, rfl, hk, hall, hb⟩ := hrel
    by_cases hlt : k < l.length
    · obtain ⟨ad, e', hc0, hc1⟩ := at40 HR.out hb.out k hlt
      subst e'
      have HC := Lib.hid (lacks1.walk l[k].f0 x.f0 x.f1 l[k].f1 (HF.out _ (List.getElem_mem hlt)) b wr (keepc hb.out H0.out) (keepc hb.out H1.out))
      have hal := hall.out
      cases hp : isPiece x l[k]
      · have hn : Hid ((l.take (k + 1)).any (isPiece x) = false) := by
          unfold Hid; rw [List.take_succ_eq_append_getElem hlt, List.any_append, hal]; simp [hp]
        have hp2 : isPiece ⟨x.f0, x.f1⟩ ⟨l[k].f0, l[k].f1⟩ = false := hp
        rw [hp2] at HC
        clear hp hp2 hal
        go_wp2_with (go_at_call 64; refine HC.out.mono ?_; rintro e w1 ⟨rfl, hb1⟩; have HB1 := Lib.hid hb1; clear hb1)
        go_roundw
        case rel => exact ⟨k + 1, by go_num, by omega, hn, keepB hb HB1.out⟩
        case measure => simp [intOf]; omega
      · have hn : Hid (hasPiece x l = true) := by
          unfold Hid hasPiece; rw [List.any_eq_true]; exact ⟨l[k], List.getElem_mem hlt, hp⟩
        have hp2 : isPiece ⟨x.f0, x.f1⟩ ⟨l[k].f0, l[k].f1⟩ = true := hp
        rw [hp2] at HC
        clear hp hp2 hal
        go_wp2_with (go_at_call 64; refine HC.out.mono ?_; rintro e w1 ⟨rfl, hb1⟩; have HB1 := Lib.hid hb1; clear hb1)
        go_ret
        exact ⟨⟨k, rfl, by simp [hn.out]⟩, keepB hb HB1.out⟩
    · have hn : Hid (hasPiece x l = false) := by
        have := hall.out; rw [List.take_of_length_le (by omega)] at this; exact this
      go_wp2
      go_ret
      exact ⟨⟨-1, rfl, by simp [hn.out]⟩, hb.out⟩
theorem cont45.walk (A : Option Addr) (c : Nat) (l : List S25) (x : S70) (b : Nat) (w : World) (hr : Kd.C k25 w A l.length l) (hf : FitsP l) (h0 : w.cell? ⟨b, 0, none⟩ = some (.int .i64 x.f0)) (h1 : w.cell? ⟨b, 1, none⟩ = some (.int .u32 x.f1)) :
    Calls Tryz.prog 63 #[.slice A l.length c, .func (.func 64) #[] #[.pointer (some ⟨b, 0, none⟩)]] w fun e w' => e = .returned (.bool (hasPiece x l)) ∧ Below w.heap.size w w' := by
  have H := Lib.hid (idx63.walk A c l x b w hr hf h0 h1)
  clear hr hf h0 h1
  go_enter Tryz.func63, Tryz.ntmps63
  go_wp2_with (go_at_call 72; refine H.out.mono ?_; rintro e w1 ⟨⟨r, rfl, hr⟩, hb⟩; have HB := Lib.hid hb; have HR := Lib.hid hr; clear hb hr)
  go_ret
  refine ⟨?_, HB.out⟩
  show Ending.returned (.bool (decide (0 ≤ r))) = _
  congr 2
  have := HR.out
  cases h : hasPiece x l <;> simp_all
set_option maxHeartbeats 2000000 in
theorem lacks.walk (i : Int) (key : ByteArray) (A : Option Addr) (c : Nat) (l : List S25) (x : S70) (w : World) (hr : Kd.C k25 w A l.length l) (hf : FitsP l) :
    Calls Tryz.prog 51 #[.agg #[.int .u64 i, .string key, .slice A l.length c], .agg #[.int .i64 x.f0, .int .u32 x.f1]] w fun e w' => e = .returned (.bool (!hasPiece x l)) ∧ Below w.heap.size w w' := by
  have HB1 := (Below.refl w.heap.size w).alloc (Nat.le_refl _) (.cells #[.int .u64 i, .string key, .slice A l.length c] 65)
  have HB2 := Lib.hid (HB1.alloc (by simp) (.cells #[.int .i64 x.f0, .int .u32 x.f1] 70))
  have H := Lib.hid (cont45.walk A c l x (w.heap.size + 1) ((w.alloc (.cells #[.int .u64 i, .string key, .slice A l.length c] 65)).alloc (.cells #[.int .i64 x.f0, .int .u32 x.f1] 70)) (Kd.C_below hr HB2.out) hf (by simp [go_sem]) (by simp [go_sem]))
  clear HB1 hr hf
  go_enter Tryz.func51, Tryz.ntmps51
  go_wp2_with (go_at_call 63; refine H.out.mono ?_; rintro e w1 ⟨rfl, hb⟩; have HB := Lib.hid hb; clear hb)
  go_ret
  exact ⟨rfl, keepB HB2 HB.out⟩
end Go.Proofs.YtgpmkbmobdbdoaaGreatDoor.Q

-- P1
namespace Go.Proofs.YtgpmkbmobdbdoaaGreatDoor.Q
open Go.RowKit Go.Proofs.YtgpmkbmobdbdoaaGreatDoorW.PrintWords Go.Proofs.YtgpmkbmobdbdoaaGreatDoorW.PrintLast Go.Proofs.YtgpmkbmobdbdoaaGreatDoorW.PrintMore
set_option linter.unusedVariables false
set_option linter.unusedSimpArgs false

def numB (i : Int) : Bool := decide (1 ≤ i) && decide (i ≤ 281474976710655)
def mayB (p : S25) : Bool := decide (1 ≤ p.f0) && (decide (p.f0 ≤ 1000) && decide (p.f1.size ≤ 2000))
theorem num_of (i : Int) : parts_numbered.f i = some (numB i) := by
  unfold parts_numbered.f numB
  by_cases h : i ≥ 1 <;> simp [h]
theorem may_of (p : S25) : parts_may.f p.f0 p.f1 = some (mayB p) := by
  unfold parts_may.f mayB
  by_cases h : p.f0 ≥ 1
  · by_cases h2 : p.f0 ≤ 1000
    · rw [if_pos h, if_pos h2]; simp [h, h2]; omega
    · rw [if_pos h, if_neg h2]; simp [h, h2]
  · rw [if_neg h]; simp; omega
def adjB (l : List S25) (j : Nat) : Bool := mayB (l.getD j z25) && (decide (j = 0) || decide ((l.getD (j - 1) z25).f0 < (l.getD j z25).f0))
def allFrom (P : Nat → Bool) (i : Nat) : Nat → Bool
  | 0 => true
  | d + 1 => P i && allFrom P (i + 1) d
theorem wrap64_of {x : Int} (h0 : -9223372036854775808 ≤ x) (h1 : x ≤ 9223372036854775807) : wrap64 x = x := by unfold wrap64; omega
theorem fine_l0 (u : Int) (key : ByteArray) (l : List S25) (hn : (l.length : Int) ≤ 9223372036854775807) (d : Nat) : ∀ (k i : Nat), l.length = i + d → d < k →
    parts_upload_fine.l0 k l (l.length : Int) (i : Int) u key l = some (allFrom (adjB l) i d) := by
  induction d with
  | zero =>
    intro k i hi hk
    obtain ⟨k, rfl⟩ : ∃ m, k = m + 1 := ⟨k - 1, by omega⟩
    simp only [parts_upload_fine.l0]
    rw [if_neg (by omega)]; rfl
  | succ d ih =>
    intro k i hi hk
    obtain ⟨k, rfl⟩ : ∃ m, k = m + 1 := ⟨k - 1, by omega⟩
    simp only [parts_upload_fine.l0]
    rw [if_pos (by omega), if_pos (by omega), if_pos (by omega)]
    have e1 : rd_T25 l (i : Int) = l.getD i z25 := by unfold rd_T25; rw [Int.toNat_natCast]
    rw [may_of, Option.bind_some, e1, show wrap64 ((i : Int) + 1) = ((i + 1 : Nat) : Int) by rw [wrap64_of (by omega) (by omega)]; omega, ih k (i + 1) (by omega) (by omega)]
    show _ = some (adjB l i && allFrom (adjB l) (i + 1) d)
    unfold adjB
    cases hm : mayB (l.getD i z25)
    · simp
    · rw [if_pos rfl]
      by_cases hi0 : i = 0
      · subst hi0; simp
      · rw [if_pos (show (i : Int) > 0 by omega), wrap64_of (x := (i : Int) - 1) (by omega) (by omega), if_pos (by omega), if_pos (by omega)]
        have e2 : rd_T25 l ((i : Int) - 1) = l.getD (i - 1) z25 := by unfold rd_T25; rw [show ((i : Int) - 1).toNat = i - 1 by omega]
        rw [e2]
        generalize (l.getD (i - 1) z25).f0 = a
        generalize (l.getD i z25).f0 = b
        by_cases hl : a ≥ b
        · rw [if_pos hl, decide_eq_false hi0, decide_eq_false (show ¬ a < b by omega)]; rfl
        · rw [if_neg hl, decide_eq_false hi0, decide_eq_true (show a < b by omega)]; rfl
def fineB (u : Int) (key : ByteArray) (l : List S25) : Bool := numB u && (keyB key && (decide (l.length ≤ 30) && allFrom (adjB l) 0 l.length))
theorem fine_of (u : Int) (key : ByteArray) (l : List S25) (hn : (l.length : Int) ≤ 9223372036854775807) : parts_upload_fine.f (l.length + 2) u key l = some (fineB u key l) := by
  unfold parts_upload_fine.f fineB
  rw [num_of, Option.bind_some]
  have h0 : parts_upload_fine.j0 (l.length + 2) true u key l = some false := by simp only [parts_upload_fine.j0]; rw [if_pos trivial]
  have h1 : parts_upload_fine.j0 (l.length + 2) (decide ((l.length : Int) > 30)) u key l = some (decide (l.length ≤ 30) && allFrom (adjB l) 0 l.length) := by
    simp only [parts_upload_fine.j0]
    by_cases h : l.length ≤ 30
    · rw [if_neg (by simp; omega)]
      have := fine_l0 u key l hn l.length (l.length + 1) 0 (by omega) (by omega)
      simp only [Int.ofNat_zero, Int.natCast_zero] at this
      rw [this]; simp [h]
    · rw [if_pos (by simp; omega)]; simp [h]
  cases numB u
  · simp [h0]
  · rw [if_pos rfl, show name_Key.f key = some (keyB key) from rfl, Option.bind_some]
    cases keyB key
    · simp [h0]
    · rw [if_pos rfl, h1]; simp
end Go.Proofs.YtgpmkbmobdbdoaaGreatDoor.Q

-- P2
namespace Go.Proofs.YtgpmkbmobdbdoaaGreatDoor.Q
open Go.RowKit Go.Proofs.YtgpmkbmobdbdoaaGreatDoorW.PrintWords Go.Proofs.YtgpmkbmobdbdoaaGreatDoorW.PrintLast Go.Proofs.YtgpmkbmobdbdoaaGreatDoorW.PrintMore
set_option linter.unusedVariables false
set_option linter.unusedSimpArgs false

theorem fine_ge (u : Int) (key : ByteArray) (l : List S25) (hn : (l.length : Int) ≤ 9223372036854775807) (k : Nat) (hk : l.length + 2 ≤ k) : parts_upload_fine.f k u key l = some (fineB u key l) := by
  obtain ⟨d, rfl⟩ : ∃ d, k = l.length + 2 + d := ⟨k - (l.length + 2), by omega⟩
  clear hk
  induction d with
  | zero => exact fine_of u key l hn
  | succ d ih => exact parts_upload_fine.mono _ _ _ _ _ ih
def adjU (l : List S40) (j : Nat) : Bool := fineB (l.getD j z40).f0 (l.getD j z40).f1 (l.getD j z40).f2 && (decide (j = 0) || decide ((l.getD (j - 1) z40).f0 < (l.getD j z40).f0))
def checkB (l : List S40) : Bool := decide (l.length ≤ 10) && allFrom (adjU l) 0 l.length
theorem check_l0 (l : List S40) (hn : (l.length : Int) ≤ 9223372036854775807) (K : Nat) (hK : ∀ j, j < l.length → (l.getD j z40).f2.length + 2 ≤ K ∧ ((l.getD j z40).f2.length : Int) ≤ 9223372036854775807) (d : Nat) : ∀ (k i : Nat), l.length = i + d → K + d < k →
    parts_Check.l0 k l l (l.length : Int) (i : Int) = some (if allFrom (adjU l) i d = true then 0 else 1) := by
  induction d with
  | zero =>
    intro k i hi hk
    obtain ⟨k, rfl⟩ : ∃ m, k = m + 1 := ⟨k - 1, by omega⟩
    simp only [parts_Check.l0]
    rw [if_neg (by omega)]; rfl
  | succ d ih =>
    intro k i hi hk
    obtain ⟨k, rfl⟩ : ∃ m, k = m + 1 := ⟨k - 1, by omega⟩
    simp only [parts_Check.l0]
    rw [if_pos (by omega), if_pos (by omega), if_pos (by omega)]
    have e1 : rd_T40 l (i : Int) = l.getD i z40 := by unfold rd_T40; rw [Int.toNat_natCast]
    obtain ⟨g1, g2⟩ := hK i (by omega)
    rw [e1, fine_ge _ _ _ g2 k (by omega), Option.bind_some, show wrap64 ((i : Int) + 1) = ((i + 1 : Nat) : Int) by rw [wrap64_of (by omega) (by omega)]; omega, ih k (i + 1) (by omega) (by omega)]
    show _ = some (if (adjU l i && allFrom (adjU l) (i + 1) d) = true then 0 else 1)
    unfold adjU
    generalize fineB (l.getD i z40).f0 (l.getD i z40).f1 (l.getD i z40).f2 = f
    cases f
    · simp
    · rw [if_pos rfl]
      by_cases hi0 : i = 0
      · subst hi0; simp
      · rw [if_pos (show (i : Int) > 0 by omega), wrap64_of (x := (i : Int) - 1) (by omega) (by omega), if_pos (by omega), if_pos (by omega)]
        have e2 : rd_T40 l ((i : Int) - 1) = l.getD (i - 1) z40 := by unfold rd_T40; rw [show ((i : Int) - 1).toNat = i - 1 by omega]
        rw [e2]
        generalize (l.getD (i - 1) z40).f0 = a
        generalize (l.getD i z40).f0 = b
        by_cases hl : a ≥ b
        · rw [if_pos hl, decide_eq_false hi0, decide_eq_false (show ¬ a < b by omega)]; rfl
        · rw [if_neg hl, decide_eq_false hi0, decide_eq_true (show a < b by omega)]; rfl
theorem lens_bound (l : List S40) : ∃ K, ∀ u ∈ l, u.f2.length + 2 ≤ K := by
  induction l with
  | nil => exact ⟨0, fun u h => by cases h⟩
  | cons x l ih =>
    obtain ⟨K, hK⟩ := ih
    refine ⟨K + x.f2.length + 2, fun u h => ?_⟩
    rcases List.mem_cons.1 h with rfl | h
    · omega
    · have := hK u h; omega
def errOf (b : Bool) : Int := if b = true then 0 else 1
theorem check_of (l : List S40) (hn : (l.length : Int) ≤ 9223372036854775807) (hi : ∀ u ∈ l, (u.f2.length : Int) ≤ 9223372036854775807) : ∃ k, parts_Check.f k l = some (errOf (checkB l)) := by
  obtain ⟨K, hK⟩ := lens_bound l
  refine ⟨K + l.length + 1, ?_⟩
  unfold parts_Check.f checkB errOf
  by_cases h : l.length ≤ 10
  · rw [if_neg (by omega)]
    have := check_l0 l hn K (fun j hj => by
      have hm : l.getD j z40 ∈ l := by rw [List.getD_eq_getElem?_getD, List.getElem?_eq_getElem hj]; exact List.getElem_mem hj
      exact ⟨hK _ hm, hi _ hm⟩) l.length (K + l.length + 1) 0 (by omega) (by omega)
    simp only [Int.ofNat_zero, Int.natCast_zero] at this
    rw [this]; simp [h]
  · rw [if_pos (by omega)]; simp [h]
theorem rd25 (l : List S40) (k : Nat) (h : k < l.length) : rd_T40 l k = l[k] := by unfold rd_T40; simp [List.getD_eq_getElem?_getD, h]
theorem inner_bound {w : World} {A : Option Addr} {l : List S40} (hr : Kd.C k40 w A l.length l) : ∀ u ∈ l, (u.f2.length : Int) ≤ 9223372036854775807 := by
  intro u hu
  obtain ⟨k, hk, rfl⟩ := List.getElem_of_mem hu
  obtain ⟨ad, A2, c2, _, _, _, _, _, h⟩ := at_T40 hr k (by omega) (by omega)
  rw [rd25 l k hk] at h
  have := h.2.1
  omega
theorem check_calls {w : World} {A : Option Addr} {c : Nat} {l : List S40} (hr : Kd.C k40 w A l.length l) (hc : l.length ≤ c) :
    Calls Tryz.prog 14 #[.slice A l.length c] w fun e w' => e = .returned (.int .i64 (errOf (checkB l))) ∧ Below w.heap.size w w' := by
  obtain ⟨k, hk⟩ := check_of l (by have := hr.2.1; omega) (inner_bound hr)
  exact parts_Check.calls k A c l _ w hr hc hk
theorem fine_calls {w : World} {A : Option Addr} {c : Nat} {l : List S25} (u : Int) (key : ByteArray) (hr : Kd.C k25 w A l.length l) (hc : l.length ≤ c) :
    Calls Tryz.prog 34 #[.agg #[.int .u64 u, .string key, .slice A l.length c]] w fun e w' => e = .returned (.bool (fineB u key l)) ∧ Below w.heap.size w w' :=
  parts_upload_fine.calls _ u key A c l _ w hr hc (fine_of u key l (by have := hr.2.1; omega))
end Go.Proofs.YtgpmkbmobdbdoaaGreatDoor.Q

-- T10
namespace Go.Proofs.YtgpmkbmobdbdoaaGreatDoor.Q
open Go.RowKit Go.Proofs.YtgpmkbmobdbdoaaGreatDoorW.PrintWords Go.Proofs.YtgpmkbmobdbdoaaGreatDoorW.PrintLast Go.Proofs.YtgpmkbmobdbdoaaGreatDoorW.PrintMore
set_option linter.unusedVariables false
set_option linter.unusedSimpArgs false

/-- All blocks of types that are not on the list are as they were. -/
def KT (ts : List TypeId) (w w' : World) : Prop := ∀ (k : Nat) (cs : Array Value) (t : TypeId) (fr : Nat × Nat), w.heap[k]? = some (Obj.cells cs t fr) → t ∉ ts → w'.heap[k]? = some (Obj.cells cs t fr)
theorem KT.refl (ts : List TypeId) (w : World) : KT ts w w := fun _ _ _ _ h _ => h
theorem KT.trans {ts : List TypeId} {a b c : World} (h : KT ts a b) (k : KT ts b c) : KT ts a c := fun i cs t fr hi ht => k i cs t fr (h i cs t fr hi ht) ht
theorem KT.mono {ts ts' : List TypeId} {a b : World} (h : KT ts a b) (hs : ∀ t, t ∈ ts → t ∈ ts') : KT ts' a b := fun i cs t fr hi ht => h i cs t fr hi (fun m => ht (hs t m))
theorem KT.below {ts : List TypeId} {a b : World} (h : Below a.heap.size a b) : KT ts a b := fun i cs t fr hi _ => (h.block i (blk_lt hi)).trans hi
theorem KT.alloc {ts : List TypeId} {a b : World} (h : KT ts a b) (o : Obj) : KT ts a (b.alloc o) := fun i cs t fr hi ht => blk_alloc (h i cs t fr hi ht) o
theorem KT.drew {ts : List TypeId} {a b : World} (h : KT ts a b) : KT ts a b.drew := h
theorem KT.set {ts : List TypeId} {a b : World} (h : KT ts a b) {g : Nat} {cs : Array Value} {t : TypeId} (hb : b.heap[g]? = some (.cells cs t (0, 0))) (ht : t ∈ ts) (j : Nat) (v : Value) : KT ts a (b.setCell ⟨g, j, none⟩ v) :=
  fun i cs' t' fr hi ht' => by
    have hne : i ≠ g := fun e => by
      subst e
      have := (h i cs' t' fr hi ht').symm.trans hb
      injection this with this; injection this with _ e2 _
      exact ht' (e2 ▸ ht)
    exact (Below.heap_setCell _ _ _ _ hne).trans (h i cs' t' fr hi ht')
theorem KT.grown {ts : List TypeId} {a b c : World} (h : KT ts a b) {e : TypeId} {base sz n : Nat} {v : Value} {xs : List Value} (ho : b.ownsRow base e sz v n xs) (hg : b.grownBy c v.ownBlock) (ht : e ∈ ts) : KT ts a c :=
  fun i cs' t' fr hi ht' => by
    have hb := h i cs' t' fr hi ht'
    refine (hg.block i (blk_lt hb) (fun e1 => ?_)).trans hb
    obtain ⟨cells, hc⟩ := own_typed ho i e1.symm
    rw [hb] at hc
    injection hc with hc; injection hc with _ e2 _
    exact ht' (e2 ▸ ht)
theorem KT.blk {ts : List TypeId} {a b : World} (h : KT ts a b) {g : Nat} {cs : Array Value} {t : TypeId} {fr : Nat × Nat} (hb : a.heap[g]? = some (.cells cs t fr)) (ht : t ∉ ts) : b.heap[g]? = some (.cells cs t fr) := h g cs t fr hb ht
theorem KT.own {ts : List TypeId} {a b : World} (h : KT ts a b) (hs : a.heap.size ≤ b.heap.size) {e : TypeId} {base sz n : Nat} {v : Value} {xs : List Value} (ho : a.ownsRow base e sz v n xs) (ht : e ∉ ts) : b.ownsRow base e sz v n xs :=
  own_move ho (fun k hk => by
    obtain ⟨cells, hc⟩ := own_typed ho k hk
    rw [hc]; exact h k _ _ _ hc ht)
theorem KT.builder {ts : List TypeId} {a b : World} (h : KT ts a b) (hs : a.heap.size ≤ b.heap.size) {B n : Nat} {p : Value} {bs : List Value} (ho : Lib.BuilderAt 87 5 B n p bs a) (h1 : 87 ∉ ts) (h2 : 5 ∉ ts) : Lib.BuilderAt 87 5 B n p bs b := by
  obtain ⟨hB, v, hb, hown, hne⟩ := ho
  exact ⟨hB, v, h.blk hb h1, h.own hs hown h2, hne⟩
theorem KT.isBuilder {ts : List TypeId} {a b : World} (h : KT ts a b) (hs : a.heap.size ≤ b.heap.size) {B n : Nat} {bs : List Value} (ho : Lib.IsBuilder 87 5 B n bs a) (h1 : 87 ∉ ts) (h2 : 5 ∉ ts) : Lib.IsBuilder 87 5 B n bs b := by
  rcases ho with ho | ho
  · exact Or.inl (h.builder hs ho h1 h2)
  · exact Or.inr (h.builder hs ho h1 h2)

theorem bd_check2 (B b : Nat) (bs : List Value) (w : World) (h : Lib.IsBuilder 87 5 B b bs w) :
    Calls Tryz.prog 65 #[.pointer (some ⟨b, 0, none⟩)] w fun e w' => e = .returned (.tuple #[]) ∧ (Lib.BuilderAt 87 5 B b (.pointer (some ⟨b, 0, none⟩)) bs w' ∧ Below B w w' ∧ KT [87, 5] w w') := by
  rcases h with h | h
  · refine (bd_check_fresh b w h.cell0 h.shape h.frozen0).mono ?_
    rintro e w' ⟨rfl, rfl⟩
    obtain ⟨_, v, hb, _⟩ := id h
    exact ⟨rfl, h.used _, (Below.refl B w).setCell (p := ⟨b, 0, none⟩) h.1 _, (KT.refl _ w).set hb (by simp) _ _⟩
  · refine (bd_check_used b w h.cell0).mono ?_
    rintro e w' ⟨rfl, rfl⟩
    exact ⟨rfl, h, Below.refl B _, KT.refl _ _⟩
set_option maxHeartbeats 2000000 in
set_option maxRecDepth 100000 in
theorem bd_Write (B b : Nat) (bs : List Value) (s : ByteArray) (w : World) (h : Lib.IsBuilder 87 5 B b bs w) (hlen : bs.length + s.size ≤ 140737488355328) (hBw : B ≤ w.heap.size) :
    Calls Tryz.prog 53 #[.pointer (some ⟨b, 0, none⟩), .string s] w fun e w' => e = .returned (.tuple #[.int .i64 s.size, .nilIface]) ∧ (Lib.IsBuilder 87 5 B b (bs ++ Lib.strCells s) w' ∧ Below B w w' ∧ KT [87, 5] w w') := by
  obtain ⟨i0, hi, hz0, hz1, hz2⟩ := info_parts bd_info5
  go_enter Tryz.func53, Tryz.ntmps53
  go_wp2_with (go_at_call 65; refine (bd_check2 B b bs _ h).mono ?_)
  rintro e w1 ⟨rfl, h1, hb1, hk1⟩
  obtain ⟨hB, v, hbk, hown, hne⟩ := h1
  have HK1 := Lib.hid hk1; clear hk1
  have c0 : w1.cell? ⟨b, 0, none⟩ = some (.pointer (some ⟨b, 0, none⟩)) := by rw [Lib.cell_of_heap hbk]; rfl
  have c1 : w1.cell? ⟨b, 1, none⟩ = some v := by rw [Lib.cell_of_heap hbk]; rfl
  go_wp2_with (at_builtin; refine Lib.wpList_append_own_string _ rfl _ _ 85 9 rfl B 5 i0 Tryz.underlying85 Tryz.underlying9 hi hz0 hz1 hz2 _ _ _ rfl hown s rfl ?c3 ?c4 ?c5 ?_)
  case c3 => unfold maxLen; omega
  case c4 => omega
  case c5 => have := hb1.size; omega
  intro v' w2 hown' hgrow _
  have hlt : b < w1.heap.size := blk_lt hbk
  have hb2 : w2.heap[b]? = some (.cells #[.pointer (some ⟨b, 0, none⟩), v] 87 (0, 0)) := by
    rw [hgrow.block b hlt (fun e => hne e.symm)]
    exact hbk
  have HK2 := Lib.hid (((HK1.out.grown hown hgrow (by simp)).set hb2 (by simp) 1 v'))
  have d0 : w2.cell? ⟨b, 0, none⟩ = some (.pointer (some ⟨b, 0, none⟩)) := by rw [Lib.cell_of_heap hb2]; rfl
  have d1 : w2.cell? ⟨b, 1, none⟩ = some v := by rw [Lib.cell_of_heap hb2]; rfl
  have f1 : w2.frozen? ⟨b, 1, none⟩ = false := Lib.frozen_of_heap hb2 1
  obtain ⟨ao, n', cap, rfl⟩ : ∃ ao n' cap, v' = .slice ao n' cap := by
    rcases hown'.2 with ⟨hv, _⟩ | ⟨g, cap, cur, hv, _⟩
    · exact ⟨_, _, _, hv⟩
    · exact ⟨_, _, _, hv⟩
  go_wp2
  go_ret2
  refine ⟨rfl, ?_, ?_, HK2.out⟩
  · exact Or.inr (Lib.BuilderAt.put (T := 87) (e := 5) hB hb2 (bs' := bs ++ Lib.strCells s) (by simpa [Lib.strCells_length] using hown') (by decide))
  · exact (hb1.grown hgrow (by have := hb1.size; omega) (fun k hk => (hown.lt k hk).1)).setCell (p := ⟨b, 1, none⟩) hB _

def dataOf (l : List S25) (n : Int) : ByteArray := l.foldl (fun s p => if p.f0 = n then p.f1 else s) ⟨#[]⟩
theorem data_l0 (n : Int) (l : List S25) (hn : (l.length : Int) ≤ 9223372036854775807) (d : Nat) : ∀ (k i : Nat) (s : ByteArray), l.length = i + d → d < k →
    parts_upload_data.l0 k n s l (l.length : Int) (i : Int) = some ((l.drop i).foldl (fun s p => if p.f0 = n then p.f1 else s) s) := by
  induction d with
  | zero =>
    intro k i s hi hk
    obtain ⟨k, rfl⟩ : ∃ m, k = m + 1 := ⟨k - 1, by omega⟩
    simp only [parts_upload_data.l0]
    rw [if_neg (by omega), List.drop_eq_nil_of_le (by omega)]; rfl
  | succ d ih =>
    intro k i s hi hk
    obtain ⟨k, rfl⟩ : ∃ m, k = m + 1 := ⟨k - 1, by omega⟩
    simp only [parts_upload_data.l0]
    rw [if_pos (by omega), if_pos (by omega), if_pos (by omega), rd40 l i (by omega), show wrap64 ((i : Int) + 1) = ((i + 1 : Nat) : Int) by rw [wrap64_of (by omega) (by omega)]; omega]
    rw [List.drop_eq_getElem_cons (show i < l.length by omega), List.foldl_cons]
    by_cases h : (l[i]'(by omega)).f0 = n
    · rw [if_pos h, if_pos h]; exact ih k (i + 1) _ (by omega) (by omega)
    · rw [if_neg h, if_neg h]; exact ih k (i + 1) _ (by omega) (by omega)
theorem data_calls {w : World} {A : Option Addr} {c : Nat} {l : List S25} (u : Int) (key : ByteArray) (n : Int) (hr : Kd.C k25 w A l.length l) (hc : l.length ≤ c) :
    Calls Tryz.prog 52 #[.agg #[.int .u64 u, .string key, .slice A l.length c], .int .i64 n] w fun e w' => e = .returned (.string (dataOf l n)) ∧ Below w.heap.size w w' :=
  parts_upload_data.calls (l.length + 1) u key A c l n _ w hr hc (by
    unfold parts_upload_data.f
    have := data_l0 n l (by have := hr.2.1; omega) l.length (l.length + 1) 0 ⟨#[]⟩ (by omega) (by omega)
    simpa [dataOf] using this)
theorem dataOf_size (l : List S25) (n : Int) (M : Nat) (h : ∀ p ∈ l, p.f1.size ≤ M) : (dataOf l n).size ≤ M := by
  unfold dataOf
  have : ∀ (l : List S25) (s : ByteArray), (∀ p ∈ l, p.f1.size ≤ M) → s.size ≤ M → (l.foldl (fun s p => if p.f0 = n then p.f1 else s) s).size ≤ M := by
    intro l
    induction l with
    | nil => intro s _ hs; exact hs
    | cons p l ih =>
      intro s h hs
      rw [List.foldl_cons]
      refine ih _ (fun q hq => h q (List.mem_cons_of_mem _ hq)) ?_
      split
      · exact h p List.mem_cons_self
      · exact hs
  exact this l _ h (Nat.zero_le _)
theorem allFrom_at {P : Nat → Bool} {d i : Nat} (h : allFrom P i d = true) : ∀ j, i ≤ j → j < i + d → P j = true := by
  induction d generalizing i with
  | zero => intro j h1 h2; omega
  | succ d ih =>
    intro j h1 h2
    have h' : (P i && allFrom P (i + 1) d) = true := h
    rw [Bool.and_eq_true] at h'
    rcases Nat.eq_or_lt_of_le h1 with rfl | h3
    · exact h'.1
    · exact ih h'.2 j (by omega) (by omega)
theorem fine_sizes {u : Int} {key : ByteArray} {l : List S25} (h : fineB u key l = true) : ∀ p ∈ l, p.f1.size ≤ 2000 := by
  unfold fineB at h
  simp only [Bool.and_eq_true] at h
  intro p hp
  obtain ⟨k, hk, rfl⟩ := List.getElem_of_mem hp
  have := allFrom_at h.2.2.2 k (by omega) (by omega)
  unfold adjB mayB at this
  simp only [Bool.and_eq_true, decide_eq_true_eq] at this
  have := this.1.2.2
  rwa [List.getD_eq_getElem?_getD, List.getElem?_eq_getElem hk] at this
end Go.Proofs.YtgpmkbmobdbdoaaGreatDoor.Q

-- T11
namespace Go.Proofs.YtgpmkbmobdbdoaaGreatDoor.Q
open Go.RowKit Go.Proofs.YtgpmkbmobdbdoaaGreatDoorW.PrintWords Go.Proofs.YtgpmkbmobdbdoaaGreatDoorW.PrintLast Go.Proofs.YtgpmkbmobdbdoaaGreatDoorW.PrintMore
set_option linter.unusedVariables false
set_option linter.unusedSimpArgs false

theorem rd48 (l : List S70) (k : Nat) (h : k < l.length) : rd_T70 l k = l[k] := by unfold rd_T70; simp [List.getD_eq_getElem?_getD, h]
theorem at48 {w w1 : World} {A : Option Addr} {l : List S70} (hr : Kd.C k70 w A l.length l) (hb : Below w.heap.size w w1) (k : Nat) (h : k < l.length) :
    ∃ ad, A = some ad ∧ w1.cell? (ad.add (k * 2)) = some (.int .i64 l[k].f0) ∧ w1.cell? ⟨(ad.add (k * 2)).block, (ad.add (k * 2)).off + 1, none⟩ = some (.int .u32 l[k].f1) := by
  obtain ⟨ad, e, h0, h1⟩ := at_T70 hr k (by omega) (by omega)
  rw [Int.toNat_natCast, rd48 l k h] at h0 h1
  exact ⟨ad, e, keepc hb h0, keepc hb h1⟩
def lackB (ps : List S25) (x : S70) : Bool := !hasPiece x ps
set_option maxHeartbeats 2000000 in
set_option maxRecDepth 100000 in
theorem idx44.walk (A : Option Addr) (c : Nat) (l : List S70) (i : Int) (key : ByteArray) (A2 : Option Addr) (c2 : Nat) (ps : List S25) (w : World) (hr : Kd.C k70 w A l.length l) (hr2 : Kd.C k25 w A2 ps.length ps) (hf : FitsP ps) :
    Calls Tryz.prog 62 #[.slice A l.length c, .func (.func 51) #[.agg #[.int .u64 i, .string key, .slice A2 ps.length c2]] #[]] w fun e w' => (∃ r, e = .returned (.int .i64 r) ∧ ((0 ≤ r) ↔ l.any (lackB ps) = true)) ∧ Below w.heap.size w w' := by
  have HR := Lib.hid hr
  have HR2 := Lib.hid hr2
  have hlen : (l.length : Int) ≤ 9223372036854775807 := by have := hr.2.1; omega
  clear hr hr2
  have HB0 : Hid (Below w.heap.size w w) := Below.refl _ _
  have HF := Lib.hid hf; clear hf
  go_enter Tryz.func62, Tryz.ntmps62
  go_wp2
  go_loopw [5, 8] (fun _ i wr => ∃ (k : Nat), i = .int .i64 k ∧ k ≤ l.length ∧ Hid ((l.take k).any (lackB ps) = false) ∧ Hid (Below w.heap.size w wr)) (fun _ i _ => l.length - (intOf i).toNat)
  case atStart => exact ⟨0, rfl, Nat.zero_le _, by simp [Hid], HB0⟩
  case round =>
    obtain ⟨k, rfl, hk, hall, hb⟩ := hrel
    by_cases hlt : k < l.length
    · obtain ⟨ad, e', hc0, hc1⟩ := at48 HR.out hb.out k hlt
      subst e'
      have HC := Lib.hid (lacks.walk i key A2 c2 ps l[k] wr (Kd.C_below HR2.out hb.out) HF.out)
      have hal := hall.out
      cases hp : hasPiece l[k] ps
      · have hn : Hid (l.any (lackB ps) = true) := by
          unfold Hid; rw [List.any_eq_true]; exact ⟨l[k], List.getElem_mem hlt, by simp [lackB, hp]⟩
        rw [hp] at HC
        clear hp hal
        go_wp2_with (go_at_call 51; refine HC.out.mono ?_; rintro e w1 ⟨rfl, hb1⟩; have HB1 := Lib.hid hb1; clear hb1)
        go_ret
        exact ⟨⟨k, rfl, by simp [hn.out]⟩, keepB hb HB1.out⟩
      · have hn : Hid ((l.take (k + 1)).any (lackB ps) = false) := by
          unfold Hid; rw [List.take_succ_eq_append_getElem hlt, List.any_append, hal]; simp [lackB, hp]
        rw [hp] at HC
        clear hp hal
        go_wp2_with (go_at_call 51; refine HC.out.mono ?_; rintro e w1 ⟨rfl, hb1⟩; have HB1 := Lib.hid hb1; clear hb1)
        go_roundw
        case rel => exact ⟨k + 1, by go_num, by omega, hn, keepB hb HB1.out⟩
        case measure => simp [intOf]; omega
    · have hn : Hid (l.any (lackB ps) = false) := by
        have := hall.out; rw [List.take_of_length_le (by omega)] at this; exact this
      go_wp2
      go_ret
      exact ⟨⟨-1, rfl, by simp [hn.out]⟩, hb.out⟩
theorem cont23.walk (A : Option Addr) (c : Nat) (l : List S70) (i : Int) (key : ByteArray) (A2 : Option Addr) (c2 : Nat) (ps : List S25) (w : World) (hr : Kd.C k70 w A l.length l) (hr2 : Kd.C k25 w A2 ps.length ps) (hf : FitsP ps) :
    Calls Tryz.prog 50 #[.slice A l.length c, .func (.func 51) #[.agg #[.int .u64 i, .string key, .slice A2 ps.length c2]] #[]] w fun e w' => e = .returned (.bool (l.any (lackB ps))) ∧ Below w.heap.size w w' := by
  have H := Lib.hid (idx44.walk A c l i key A2 c2 ps w hr hr2 hf)
  clear hr hr2 hf
  go_enter Tryz.func50, Tryz.ntmps50
  go_wp2_with (go_at_call 62; refine H.out.mono ?_; rintro e w1 ⟨⟨r, rfl, hr⟩, hb⟩; have HB := Lib.hid hb; have HR := Lib.hid hr; clear hb hr)
  go_ret
  refine ⟨?_, HB.out⟩
  show Ending.returned (.bool (decide (0 ≤ r))) = _
  congr 2
  have := HR.out
  cases h : l.any (lackB ps) <;> simp_all
end Go.Proofs.YtgpmkbmobdbdoaaGreatDoor.Q

-- T12
namespace Go.Proofs.YtgpmkbmobdbdoaaGreatDoor.Q
open Go.RowKit Go.Proofs.YtgpmkbmobdbdoaaGreatDoorW.PrintWords Go.Proofs.YtgpmkbmobdbdoaaGreatDoorW.PrintLast Go.Proofs.YtgpmkbmobdbdoaaGreatDoorW.PrintMore
set_option linter.unusedVariables false
set_option linter.unusedSimpArgs false

def ordAt (l : List S70) (i : Nat) : Bool := decide ((l.getD (i - 1) z70).f0 < (l.getD i z70).f0)
def ordB (l : List S70) : Bool := allFrom (ordAt l) 1 (l.length - 1)
def longAt (ps : List S25) (l : List S70) (i : Nat) : Bool := !(decide (i + 1 < l.length) && decide ((dataOf ps (l.getD i z70).f0).size < 5))
def longB (ps : List S25) (l : List S70) : Bool := allFrom (longAt ps l) 0 l.length
def bytesFor (ps : List S25) (l : List S70) : List UInt8 := l.flatMap fun x => (dataOf ps x.f0).data.toList
def tagsFor (l : List S70) : List Int := l.map fun x => x.f1
def noStr : ByteArray := ⟨#[]⟩
def wholeR (u : S40) (l : List S70) : ByteArray × ByteArray × Int :=
  if fineB u.f0 u.f1 u.f2 = false ∨ l.length = 0 then (noStr, noStr, 1)
  else if ordB l = false then (noStr, noStr, 9)
  else if l.any (lackB u.f2) = true then (noStr, noStr, 4)
  else if longB u.f2 l = false then (noStr, noStr, 3)
  else if 2000 < (bytesFor u.f2 l).length then (noStr, noStr, 6)
  else (⟨(bytesFor u.f2 l).toArray⟩, manyText (tagsFor l), 0)
def wholeV (r : ByteArray × ByteArray × Int) : Value := .tuple #[.string r.1, .string r.2.1, .int .i64 r.2.2]

theorem allFrom_snoc (P : Nat → Bool) (d : Nat) : ∀ i, allFrom P i (d + 1) = (allFrom P i d && P (i + d)) := by
  induction d with
  | zero => intro i; simp [allFrom]
  | succ d ih =>
    intro i
    rw [show allFrom P i (d + 1 + 1) = (P i && allFrom P (i + 1) (d + 1)) from rfl, ih (i + 1), show allFrom P i (d + 1) = (P i && allFrom P (i + 1) d) from rfl, Bool.and_assoc, show i + 1 + d = i + (d + 1) by omega]
theorem ordAt_eq (l : List S70) (m : Nat) (h : m + 1 < l.length) : ordAt l (m + 1) = decide (l[m].f0 < l[m + 1].f0) := by
  unfold ordAt
  rw [Nat.add_sub_cancel, List.getD_eq_getElem?_getD, List.getD_eq_getElem?_getD, List.getElem?_eq_getElem (by omega), List.getElem?_eq_getElem h]; rfl
theorem keepN {B : Nat} {w w1 : World} (h : Hid (Below B w w1)) (n : Nat) : Hid (Below B w (w1.drewN n)) := h.out.trans (below_drewN _ _ _)
theorem notOr {b : Bool} {n : Nat} (h : b = true) (hz : ¬ n = 0) : ¬ (b = false ∨ n = 0) := by
  intro h'
  rcases h' with h' | h'
  · rw [h] at h'; cases h'
  · exact hz h'
theorem bytesFor_snoc (ps : List S25) (l : List S70) (k : Nat) (h : k < l.length) : Lib.byteCells (bytesFor ps (l.take (k + 1))) = Lib.byteCells (bytesFor ps (l.take k)) ++ Lib.strCells (dataOf ps l[k].f0) := by
  rw [Lib.strCells_eq, ← Lib.byteCells_append, List.take_succ_eq_append_getElem h]
  unfold bytesFor
  rw [List.flatMap_append]; simp
theorem tagsFor_snoc (l : List S70) (k : Nat) (h : k < l.length) : (tagsFor (l.take (k + 1))).map (Value.int .u32) = (tagsFor (l.take k)).map (Value.int .u32) ++ [.int .u32 l[k].f1] := by
  rw [List.take_succ_eq_append_getElem h]
  unfold tagsFor
  rw [List.map_append, List.map_append]; rfl
theorem bytesFor_len (ps : List S25) (l : List S70) (k : Nat) (h : ∀ p ∈ ps, p.f1.size ≤ 2000) (hk : k ≤ l.length) : (bytesFor ps (l.take k)).length ≤ 2000 * k := by
  induction k with
  | zero => simp [bytesFor]
  | succ k ih =>
    rw [List.take_succ_eq_append_getElem (by omega)]
    have h1 := ih (by omega)
    have h2 := dataOf_size ps (l[k]'(by omega)).f0 2000 h
    unfold bytesFor at h1 ⊢
    rw [List.flatMap_append, List.length_append]
    simp only [List.flatMap_cons, List.flatMap_nil, List.append_nil]
    have : (dataOf ps (l[k]'(by omega)).f0).data.toList.length = (dataOf ps (l[k]'(by omega)).f0).size := by rw [Array.length_toList]; rfl
    omega
theorem longAt_eq (ps : List S25) (l : List S70) (k : Nat) (h : k < l.length) : longAt ps l k = !(decide (k + 1 < l.length) && decide ((dataOf ps l[k].f0).size < 5)) := by
  unfold longAt
  rw [List.getD_eq_getElem?_getD, List.getElem?_eq_getElem h]; rfl
theorem reps_int (k : IntKind) (w : World) (xs : List Int) : Reps ((Kd.int k).K w) 1 xs (xs.map (Value.int k)) := by
  refine ⟨by simp, fun j p h => ?_⟩
  rw [Nat.mul_one]
  obtain ⟨hj, rfl⟩ := List.getElem?_eq_some_iff.1 h
  show _ = [Value.int k xs[j]]
  rw [List.drop_eq_getElem_cons (by simpa using hj)]
  simp
set_option maxHeartbeats 8000000 in
set_option maxRecDepth 100000 in
theorem whole.walk (u : S40) (A2 : Option Addr) (c2 : Nat) (A : Option Addr) (c : Nat) (l : List S70) (w : World) (hl : l.length < 100)
    (hr2 : Kd.C k25 w A2 u.f2.length u.f2) (hc2 : u.f2.length ≤ c2) (hr : Kd.C k70 w A l.length l) :
    Calls Tryz.prog 36 #[.agg #[.int .u64 u.f0, .string u.f1, .slice A2 u.f2.length c2], .slice A l.length c] w fun e w' => e = .returned (wholeV (wholeR u l)) ∧ Below w.heap.size w w' := by
  have HB0 : Hid (Below w.heap.size w w) := Below.refl _ _
  have HFN := Lib.hid (fun (W : World) (hb : Below w.heap.size w W) => fine_calls (w := W) (A := A2) (c := c2) u.f0 u.f1 (Kd.C_below hr2 hb) hc2)
  have HR := Lib.hid hr
  have HR2 := Lib.hid hr2
  clear hr hr2
  cases hfn : fineB u.f0 u.f1 u.f2
  · have HE : Hid (wholeR u l = (noStr, noStr, 1)) := by unfold Hid wholeR; rw [if_pos (Or.inl hfn)]
    rw [hfn] at HFN
    clear hfn
    go_enter Tryz.func36, Tryz.ntmps36
    go_wp2_with (go_at_call 34; refine (HFN.out _ ((HB0.out.alloc (Nat.le_refl _) _).alloc (by simp) _)).mono ?_; rintro e w1 ⟨rfl, hb1⟩; have HB1 := Lib.hid hb1; clear hb1)
    go_ret3
    exact ⟨by rw [HE.out]; rfl, keepB ((HB0.out.alloc (Nat.le_refl _) _).alloc (by simp) _) HB1.out⟩
  rw [hfn] at HFN
  by_cases hz : l.length = 0
  · have HE : Hid (wholeR u l = (noStr, noStr, 1)) := by unfold Hid wholeR; rw [if_pos (Or.inr hz)]
    have hz' : ((l.length : Int) == 0) = true := beq_iff_eq.2 (by omega)
    clear hfn hz
    go_enter Tryz.func36, Tryz.ntmps36
    go_wp2_with (go_at_call 34; refine (HFN.out _ ((HB0.out.alloc (Nat.le_refl _) _).alloc (by simp) _)).mono ?_; rintro e w1 ⟨rfl, hb1⟩; have HB1 := Lib.hid hb1; clear hb1)
    go_ret3
    exact ⟨by rw [HE.out]; rfl, keepB ((HB0.out.alloc (Nat.le_refl _) _).alloc (by simp) _) HB1.out⟩
  have hz' : ((l.length : Int) == 0) = false := beq_eq_false_iff_ne.2 (by omega)
  have HF2 := Lib.hid hfn
  clear hfn
  go_enter Tryz.func36, Tryz.ntmps36
  go_wp2_with (go_at_call 34; refine (HFN.out _ ((HB0.out.alloc (Nat.le_refl _) _).alloc (by simp) _)).mono ?_; rintro e w1 ⟨rfl, hb1⟩; have HBK := Lib.hid (blk_below (blk_new (w.alloc _) _) hb1); have HB1 := keepB ((HB0.out.alloc (Nat.le_refl _) _).alloc (by simp) _) hb1; clear hb1)
  go_loopw [8] (fun i wr => ∃ m : Nat, i = .int .i64 ((m : Int) + 1) ∧ m + 1 ≤ l.length ∧ Hid (allFrom (ordAt l) 1 m = true) ∧ Hid (Below w.heap.size w wr) ∧ Hid (wr.heap[w.heap.size + 1]? = some (.cells #[.int .u64 u.f0, .string u.f1, .slice A2 u.f2.length c2] 65 (0, 0)))) (fun i _ => l.length - (intOf i).toNat)
  case atStart => exact ⟨0, rfl, by omega, rfl, HB1, by simpa using HBK⟩
  case round =>
    obtain ⟨m, rfl, hm, ho, hb, hbk⟩ := hrel
    by_cases hlt : m + 1 < l.length
    · obtain ⟨ad, e', hc0, _⟩ := at48 HR.out hb.out m (by omega)
      obtain ⟨ad', e2, hc1, _⟩ := at48 HR.out hb.out (m + 1) hlt
      obtain rfl : ad = ad' := by rw [e'] at e2; injection e2
      subst e'
      clear e2
      by_cases ho2 : l[m].f0 < l[m + 1].f0
      · have h1 : ordAt l (m + 1) = true := by rw [ordAt_eq l m hlt]; exact decide_eq_true ho2
        have HN : Hid (allFrom (ordAt l) 1 (m + 1) = true) := by
          unfold Hid
          rw [allFrom_snoc, ho.out, Nat.add_comm, h1]; rfl
        have d1 : decide (l[m].f0 ≥ l[m + 1].f0) = false := by simp; omega
        go_wp2
        go_quiet (fail)
        go_wp2
        go_roundw
        case rel => exact ⟨m + 1, by go_num, by omega, HN, keepN hb _, hbk⟩
        case measure => simp [intOf]; omega
      · have h1 : ordAt l (m + 1) = false := by rw [ordAt_eq l m hlt]; exact decide_eq_false ho2
        have HE : Hid (wholeR u l = (noStr, noStr, 9)) := by
          unfold Hid wholeR
          have : ordB l = false := by
            cases h : ordB l
            · rfl
            · unfold ordB at h
              have := allFrom_at h (m + 1) (by omega) (by omega)
              rw [h1] at this; exact this.symm
          rw [if_neg (notOr HF2.out hz), if_pos this]
        have d1 : decide (l[m].f0 ≥ l[m + 1].f0) = true := by simp; omega
        go_wp2
        go_quiet (fail)
        go_wp2
        go_ret3
        exact ⟨by rw [HE.out]; rfl, keepN hb _⟩
    · have HO : Hid (ordB l = true) := by
        have := ho.out
        unfold Hid ordB
        rw [show l.length - 1 = m by omega]; exact this
      obtain rfl : m = l.length - 1 := by omega
      have hcells : ∀ j v, (#[.int .u64 u.f0, .string u.f1, .slice A2 u.f2.length c2] : Array Value)[j]? = some v → wr.cell? ⟨w.heap.size + 1, j, none⟩ = some v := fun j v h => (blk_cell hbk.out j).trans h
      have k0 := hcells 0 _ rfl
      have k1 := hcells 1 _ rfl
      have k2 := hcells 2 _ rfl
      clear hcells
      have hl1 : ((l.length - 1 : Nat) : Int) + 1 = l.length := by omega
      have HC := Lib.hid (cont23.walk A c l u.f0 u.f1 A2 c2 u.f2 wr (Kd.C_below HR.out hb.out) (Kd.C_below HR2.out hb.out) (fun p hp => by have := fine_sizes HF2.out p hp; omega))
      have hbs := Lib.hid hb.out.size
      cases hla : l.any (lackB u.f2)
      · rw [hla] at HC
        have HLA := Lib.hid hla
        clear hla
        go_wp2_with (go_at_call 50; refine HC.out.mono ?_; rintro e w1 ⟨rfl, hb1⟩; have HB2 := keepB hb hb1; have HBK2 := Lib.hid (blk_below hbk.out hb1); clear hb1)
        go_loopw [10, 11, 12, 13, 49] (fun v10 _ _ _ i wr => ∃ k : Nat, i = .int .i64 k ∧ k ≤ l.length ∧ Hid (allFrom (longAt u.f2 l) 0 k = true) ∧ Hid (Below w.heap.size w wr) ∧ Hid (wr.heap[w.heap.size + 1]? = some (.cells #[.int .u64 u.f0, .string u.f1, .slice A2 u.f2.length c2] 65 (0, 0))) ∧
          Hid (Lib.IsBuilder 87 5 w.heap.size w1.heap.size (Lib.byteCells (bytesFor u.f2 (l.take k))) wr) ∧ Hid (wr.ownsRow w.heap.size 28 1 v10 k ((tagsFor (l.take k)).map (Value.int .u32)))) (fun _ _ _ _ i _ => l.length - (intOf i).toNat)
        case atStart =>
          refine ⟨0, rfl, Nat.zero_le _, rfl, HB2.out.alloc HB2.out.size _, blk_alloc HBK2.out _, ?_, ?_⟩
          · have := Lib.fresh_isBuilder 87 5 w1
            rcases this with h | h
            · obtain ⟨h1, h2⟩ := h; exact Or.inl ⟨HB2.out.size, by obtain ⟨v, h3, h4, h5⟩ := h2; exact ⟨v, h3, own_weaken h4 HB2.out.size, h5⟩⟩
            · obtain ⟨h1, h2⟩ := h; exact Or.inr ⟨HB2.out.size, by obtain ⟨v, h3, h4, h5⟩ := h2; exact ⟨v, h3, own_weaken h4 HB2.out.size, h5⟩⟩
          · exact own_nil _ _ _ _
        case round =>
          obtain ⟨k, rfl, hk, hlo, hb3, hbk3, hbd, hown⟩ := hrel
          have HS := Lib.hid (bytesFor_len u.f2 l k (fine_sizes HF2.out) hk)
          by_cases hlt : k < l.length
          · obtain ⟨ad, e', hc0, hc1⟩ := at48 HR.out hb3.out k hlt
            subst e'
            have hcells : ∀ j v, (#[.int .u64 u.f0, .string u.f1, .slice A2 u.f2.length c2] : Array Value)[j]? = some v → (wr.alloc (.cells #[.int .i64 l[k].f0, .int .u32 l[k].f1] 70)).cell? ⟨w.heap.size + 1, j, none⟩ = some v := fun j v h => (blk_cell (blk_alloc hbk3.out _) j).trans h
            have k0 := hcells 0 _ rfl
            have k1 := hcells 1 _ rfl
            have k2 := hcells 2 _ rfl
            clear hcells
            have HSZ := Lib.hid (dataOf_size u.f2 l[k].f0 2000 (fine_sizes HF2.out))
            have HLA2 := Lib.hid (longAt_eq u.f2 l k hlt)
            have HBS := Lib.hid (bytesFor_snoc u.f2 l k hlt)
            have HTS := Lib.hid (tagsFor_snoc l k hlt)
            have HD := Lib.hid (data_calls (w := wr.alloc (.cells #[.int .i64 l[k].f0, .int .u32 l[k].f1] 70)) (A := A2) (c := c2) u.f0 u.f1 l[k].f0 (Kd.C_below HR2.out (hb3.out.alloc hb3.out.size _)) hc2)
            have HBW := Lib.hid (hb3.out.alloc hb3.out.size (.cells #[.int .i64 l[k].f0, .int .u32 l[k].f1] 70))
            have HK := Lib.hid ((KT.refl [28] wr).alloc (.cells #[.int .i64 l[k].f0, .int .u32 l[k].f1] 70))
            have HNEW := Lib.hid (blk_new wr (.cells #[.int .i64 l[k].f0, .int .u32 l[k].f1] 70))
            have HBDa := Lib.hid (((KT.refl [] wr).alloc (.cells #[.int .i64 l[k].f0, .int .u32 l[k].f1] 70)).isBuilder (by simp) hbd.out (by simp) (by simp))
            have HOWNa := Lib.hid (hown.out.alloc (.cells #[.int .i64 l[k].f0, .int .u32 l[k].f1] 70))
            obtain ⟨i0, hi, hy0, hy1, hy2⟩ := info_parts info28
            generalize hs : dataOf u.f2 l[k].f0 = s at *
            have HSS := Lib.hid hs; clear hs
            by_cases g1 : k + 1 < l.length
            · have d1 : decide ((k : Int) < (l.length : Int) - 1) = true := by simp; omega
              by_cases g2 : s.size < 5
              · have d2 : decide ((s.size : Int) < 5) = true := by simp; omega
                have HE : Hid (wholeR u l = (noStr, noStr, 3)) := by
                  have : longB u.f2 l = false := by
                    cases h : longB u.f2 l
                    · rfl
                    · unfold longB at h
                      have := allFrom_at h k (by omega) (by omega)
                      rw [HLA2.out] at this
                      simp [g1, g2] at this
                  unfold Hid wholeR
                  rw [if_neg (notOr HF2.out hz), if_neg (by rw [HO.out]; simp), if_neg (by rw [HLA.out]; simp), if_pos this]
                clear g1 g2
                go_wp2_with (go_at_call 52; refine HD.out.mono ?_; rintro e w2 ⟨rfl, hb4⟩; have HB4 := keepB HBW hb4; clear hb4)
                go_ret3
                exact ⟨by rw [HE.out]; rfl, HB4.out⟩
              · skip
                have d2 : decide ((s.size : Int) < 5) = false := by simp; omega
                have HLN : Hid (allFrom (longAt u.f2 l) 0 (k + 1) = true) := by
                  unfold Hid; rw [allFrom_snoc, hlo.out, Nat.zero_add, HLA2.out]; simp [g1, g2]
                clear g1 g2
                go_wp2_with (first
                  | (go_at_call 52; refine HD.out.mono ?_; rintro e w2 ⟨rfl, hb4⟩; have HB4 := keepB HBW hb4; have HBD4 := Lib.hid ((KT.below (ts := []) hb4).isBuilder hb4.size HBDa.out (by simp) (by simp)); have HOWN4 := Lib.hid ((KT.below (ts := []) hb4).own hb4.size HOWNa.out (by simp)); have HNEW4 := Lib.hid (blk_below HNEW.out hb4); have HBK4 := Lib.hid (blk_below (blk_alloc hbk3.out _) hb4); have HWR := Lib.hid (bd_Write w.heap.size w1.heap.size _ s w2 HBD4.out (by rw [Lib.byteCells_length]; have := HS.out; have := HSZ.out; omega) HB4.out.size); clear hb4)
                  | (go_at_call 53; refine HWR.out.mono ?_; rintro e w3 ⟨rfl, hbd4, hb5, hk5⟩; have HB5 := Lib.hid (HB4.out.trans hb5); have HBD5 := Lib.hid hbd4; have HOWN5 := Lib.hid (hk5.own hb5.size HOWN4.out (by simp)); have HBK5 := Lib.hid (hk5.blk HBK4.out (by simp)); have hn5 : w3.cell? ⟨wr.heap.size, 1, none⟩ = some (.int .u32 l[k].f1) := (blk_cell (hk5.blk HNEW4.out (by simp)) 1).trans rfl; clear hbd4 hb5 hk5)
                  | (at_builtin; refine wpList_append_own _ rfl _ _ 88 rfl w.heap.size 28 i0 (.int .u32 0) 1 4 Tryz.underlying88 hi hy0 hy1 hy2 rfl (by decide) _ _ _ rfl (HOWN5.out.alloc _) ⟨w3.heap.size, 0, none⟩ 1 1 [.int .u32 l[k].f1] rfl rfl ?c1 ?c2 ?c3 ?c4 ?c5 ?_))
                case c1 => exact World.news_of_block (cs := #[.int .u32 l[k].f1]) (t := 28) (fr := (0, 0)) (heap_alloc_new w3 _)
                case c2 => simp [Value.oneCell']
                case c3 => unfold maxLen; omega
                case c4 => omega
                case c5 => have := HB5.out.size; simp; omega
                intro v' w4 hown' hgrow _
                have HG := Lib.hid hgrow
                have HOW := Lib.hid hown'
                have HKT := Lib.hid (((KT.refl [28] w3).alloc (.cells #[.int .u32 l[k].f1] 28)).grown (HOWN5.out.alloc _) hgrow (by simp))
                have HB6 := Lib.hid ((HB5.out.alloc HB5.out.size _).grown hgrow (by have := HB5.out.size; simp; omega) (own_base HOWN5.out))
                clear hown' hgrow
                go_wp2
                go_roundw
                case rel =>
                  refine ⟨k + 1, by go_num, by omega, HLN, HB6, HKT.out.blk HBK5.out (by simp), ?_, ?_⟩
                  · have := HKT.out.isBuilder (by have := HG.out.size; simp at this; omega) HBD5.out (by simp) (by simp)
                    unfold Hid; rw [HBS.out]; exact this
                  · unfold Hid; rw [HTS.out]; exact HOW.out
                case measure => simp [intOf]; omega
            · skip
              have HLN : Hid (allFrom (longAt u.f2 l) 0 (k + 1) = true) := by
                unfold Hid; rw [allFrom_snoc, hlo.out, Nat.zero_add, HLA2.out]; simp [g1]
              have d1 : decide ((k : Int) < (l.length : Int) - 1) = false := by simp; omega
              clear g1
              go_wp2_with (first
                | (go_at_call 52; refine HD.out.mono ?_; rintro e w2 ⟨rfl, hb4⟩; have HB4 := keepB HBW hb4; have HBD4 := Lib.hid ((KT.below (ts := []) hb4).isBuilder hb4.size HBDa.out (by simp) (by simp)); have HOWN4 := Lib.hid ((KT.below (ts := []) hb4).own hb4.size HOWNa.out (by simp)); have HNEW4 := Lib.hid (blk_below HNEW.out hb4); have HBK4 := Lib.hid (blk_below (blk_alloc hbk3.out _) hb4); have HWR := Lib.hid (bd_Write w.heap.size w1.heap.size _ s w2 HBD4.out (by rw [Lib.byteCells_length]; have := HS.out; have := HSZ.out; omega) HB4.out.size); clear hb4)
                | (go_at_call 53; refine HWR.out.mono ?_; rintro e w3 ⟨rfl, hbd4, hb5, hk5⟩; have HB5 := Lib.hid (HB4.out.trans hb5); have HBD5 := Lib.hid hbd4; have HOWN5 := Lib.hid (hk5.own hb5.size HOWN4.out (by simp)); have HBK5 := Lib.hid (hk5.blk HBK4.out (by simp)); have hn5 : w3.cell? ⟨wr.heap.size, 1, none⟩ = some (.int .u32 l[k].f1) := (blk_cell (hk5.blk HNEW4.out (by simp)) 1).trans rfl; clear hbd4 hb5 hk5)
                | (at_builtin; refine wpList_append_own _ rfl _ _ 88 rfl w.heap.size 28 i0 (.int .u32 0) 1 4 Tryz.underlying88 hi hy0 hy1 hy2 rfl (by decide) _ _ _ rfl (HOWN5.out.alloc _) ⟨w3.heap.size, 0, none⟩ 1 1 [.int .u32 l[k].f1] rfl rfl ?c1 ?c2 ?c3 ?c4 ?c5 ?_))
              case c1 => exact World.news_of_block (cs := #[.int .u32 l[k].f1]) (t := 28) (fr := (0, 0)) (heap_alloc_new w3 _)
              case c2 => simp [Value.oneCell']
              case c3 => unfold maxLen; omega
              case c4 => omega
              case c5 => have := HB5.out.size; simp; omega
              intro v' w4 hown' hgrow _
              have HG := Lib.hid hgrow
              have HOW := Lib.hid hown'
              have HKT := Lib.hid (((KT.refl [28] w3).alloc (.cells #[.int .u32 l[k].f1] 28)).grown (HOWN5.out.alloc _) hgrow (by simp))
              have HB6 := Lib.hid ((HB5.out.alloc HB5.out.size _).grown hgrow (by have := HB5.out.size; simp; omega) (own_base HOWN5.out))
              clear hown' hgrow
              go_wp2
              go_roundw
              case rel =>
                refine ⟨k + 1, by go_num, by omega, HLN, HB6, HKT.out.blk HBK5.out (by simp), ?_, ?_⟩
                · have := HKT.out.isBuilder (by have := HG.out.size; simp at this; omega) HBD5.out (by simp) (by simp)
                  unfold Hid; rw [HBS.out]; exact this
                · unfold Hid; rw [HTS.out]; exact HOW.out
              case measure => simp [intOf]; omega
          · obtain rfl : k = l.length := by omega
            rw [List.take_of_length_le (Nat.le_refl _)] at hown hbd HS
            have hlen2 : (tagsFor l).length = l.length := by simp [tagsFor]
            obtain ⟨A3, c3, rfl, hrd⟩ := own_reads_row (R := (Kd.int .u32).K wr) (ps := tagsFor l) hown.out (reps_int _ _ _) hlen2
            have HRD : Hid (Kd.C (Kd.int .u32) wr A3 (tagsFor l).length (tagsFor l)) := by rw [hlen2]; exact hrd
            have HLEN2 := Lib.hid hlen2
            have HLE := Lib.hid (Tryz.Builder_Len w.heap.size w1.heap.size _ wr hbd.out)
            have hbl : (bytesFor u.f2 l).length ≤ 200000 := by have := HS.out; omega
            clear hrd hlen2 HS
            have HT := Lib.hid (tag_Many.walk (tagsFor l) c3 wr A3 (by rw [HLEN2.out]; omega) (by rw [HLEN2.out]; exact hl) HRD.out)
            rw [HLEN2.out] at HT
            rw [Lib.byteCells_length] at HLE
            by_cases g : 2000 < (bytesFor u.f2 l).length
            · have HE : Hid (wholeR u l = (noStr, noStr, 6)) := by
                unfold Hid wholeR
                rw [if_neg (notOr HF2.out hz), if_neg (by rw [HO.out]; simp), if_neg (by rw [HLA.out]; simp), if_neg (by have := hlo.out; unfold longB; rw [this]; simp), if_pos g]
              have d : decide ((2000 : Int) < (bytesFor u.f2 l).length) = true := by simp; omega
              clear g
              generalize hq : (bytesFor u.f2 l).length = q at *
              clear hq
              go_wp2_with (go_at_call 54; refine HLE.out.mono ?_; rintro e w2 ⟨rfl, rfl⟩)
              go_ret3
              exact ⟨by rw [HE.out]; rfl, hb3.out⟩
            · have HE : Hid (wholeR u l = (⟨(bytesFor u.f2 l).toArray⟩, manyText (tagsFor l), 0)) := by
                unfold Hid wholeR
                rw [if_neg (notOr HF2.out hz), if_neg (by rw [HO.out]; simp), if_neg (by rw [HLA.out]; simp), if_neg (by have := hlo.out; unfold longB; rw [this]; simp), if_neg g]
              have d : decide ((2000 : Int) < (bytesFor u.f2 l).length) = false := by simp; omega
              clear g
              have HST := Lib.hid (fun (W : World) (h : Below wr.heap.size wr W) => Tryz.Builder_String_any w.heap.size w1.heap.size (bytesFor u.f2 l) W ((KT.below (ts := []) h).isBuilder h.size hbd.out (by simp) (by simp)) (Nat.le_trans hb3.out.size h.size))
              generalize hq : (bytesFor u.f2 l).length = q at *
              clear hq
              go_wp2_with (first
                | (go_at_call 54; refine HLE.out.mono ?_; rintro e w2 ⟨rfl, rfl⟩)
                | (go_at_call 55; refine HT.out.mono ?_; rintro e w2 ⟨rfl, hb4⟩; have HB4 := Lib.hid hb4; clear hb4)
                | (go_at_call 56; refine (HST.out _ HB4.out).mono ?_; rintro e w3 ⟨rfl, hb5⟩; have HB5 := Lib.hid hb5; clear hb5))
              go_ret3
              exact ⟨by rw [HE.out]; rfl, (hb3.out.trans (HB4.out.mono hb3.out.size)).trans HB5.out⟩
      · have HE : Hid (wholeR u l = (noStr, noStr, 4)) := by
          unfold Hid wholeR
          rw [if_neg (notOr HF2.out hz), if_neg (by rw [HO.out]; simp), if_pos hla]
        rw [hla] at HC
        clear hla
        go_wp2_with (go_at_call 50; refine HC.out.mono ?_; rintro e w1 ⟨rfl, hb1⟩; have HB2 := keepB hb hb1; clear hb1)
        go_ret3
        exact ⟨by rw [HE.out]; rfl, HB2.out⟩
end Go.Proofs.YtgpmkbmobdbdoaaGreatDoor.Q

-- U1
namespace Go.Proofs.YtgpmkbmobdbdoaaGreatDoor.Q
open Go.RowKit Go.Proofs.YtgpmkbmobdbdoaaGreatDoorW.PrintWords Go.Proofs.YtgpmkbmobdbdoaaGreatDoorW.PrintLast Go.Proofs.YtgpmkbmobdbdoaaGreatDoorW.PrintMore
set_option linter.unusedVariables false
set_option linter.unusedSimpArgs false

/-! Rows of cells: a slice of structs as its elements' cells. -/
def RawAt (w : World) (ad : Addr) (cs : List Value) : Prop := ∀ (j : Nat) (u : Value), cs[j]? = some u → w.cell? (ad.add j) = some u
structure RowsOf {α : Type} (d : Kd α) (w : World) (l : List α) (rows : List (List Value)) : Prop where
  len : rows.length = l.length
  at_ : ∀ (j : Nat) (x : α) (c : List Value), l[j]? = some x → rows[j]? = some c → d.K w x c
theorem flat_len {rows : List (List Value)} {sz : Nat} (h : ∀ c ∈ rows, c.length = sz) : rows.flatten.length = rows.length * sz := by
  induction rows with
  | nil => simp
  | cons c rows ih =>
    rw [List.flatten_cons, List.length_append, ih (fun d hd => h d (List.mem_cons_of_mem _ hd)), h c List.mem_cons_self, List.length_cons, Nat.add_mul]
    omega
theorem flat_at {rows : List (List Value)} {sz : Nat} (h : ∀ c ∈ rows, c.length = sz) (j i : Nat) (hi : i < sz) : rows.flatten[j * sz + i]? = (rows[j]?).bind (fun c => c[i]?) := by
  induction rows generalizing j with
  | nil => simp
  | cons c rows ih =>
    have hc := h c List.mem_cons_self
    rw [List.flatten_cons]
    rcases j with _ | j
    · rw [List.getElem?_append_left (by omega)]; simp
    · rw [List.getElem?_append_right (by rw [hc, Nat.add_mul]; omega), hc, show (j + 1) * sz + i - sz = j * sz + i by rw [Nat.add_mul]; omega, ih (fun d hd => h d (List.mem_cons_of_mem _ hd))]
      simp
section
variable {α : Type} {d : Kd α} {w w1 : World} {l : List α} {rows : List (List Value)} {ad : Addr}
theorem RowsOf.lens (h : RowsOf d w l rows) : ∀ c ∈ rows, c.length = d.sz := by
  intro c hc
  obtain ⟨j, hj, rfl⟩ := List.getElem_of_mem hc
  exact d.K_len (h.at_ j _ _ (List.getElem?_eq_getElem (by have := h.len; omega)) (List.getElem?_eq_getElem hj))
theorem RowsOf.one (h : RowsOf d w l rows) : ∀ u ∈ rows.flatten, u.oneCell' = true := by
  intro u hu
  obtain ⟨c, hc, hu⟩ := List.mem_flatten.1 hu
  obtain ⟨j, hj, rfl⟩ := List.getElem_of_mem hc
  exact d.K_one (h.at_ j _ _ (List.getElem?_eq_getElem (by have := h.len; omega)) (List.getElem?_eq_getElem hj)) u hu
theorem RowsOf.below (h : RowsOf d w l rows) (hb : Below w.heap.size w w1) : RowsOf d w1 l rows := ⟨h.len, fun j x c h1 h2 => d.K_below hb (h.at_ j x c h1 h2)⟩
theorem RowsOf.set (h : RowsOf d w l rows) (i : Nat) (x : α) (c : List Value) (hx : d.K w x c) : RowsOf d w (l.set i x) (rows.set i c) := by
  refine ⟨by simpa using h.len, fun j y c' h1 h2 => ?_⟩
  rw [List.getElem?_set] at h1 h2
  by_cases e : i = j
  · subst e
    rw [if_pos rfl] at h1 h2
    by_cases hl : i < l.length
    · rw [if_pos hl] at h1; rw [if_pos (by have := h.len; omega)] at h2
      injection h1 with h1; injection h2 with h2; subst h1; subst h2; exact hx
    · rw [if_neg hl] at h1; cases h1
  · rw [if_neg e] at h1 h2; exact h.at_ j y c' h1 h2
theorem RowsOf.append {l2 : List α} {rows2 : List (List Value)} (h : RowsOf d w l rows) (h2 : RowsOf d w l2 rows2) : RowsOf d w (l ++ l2) (rows ++ rows2) := by
  refine ⟨by simp [h.len, h2.len], fun j x c hx hc => ?_⟩
  rcases Nat.lt_or_ge j l.length with hj | hj
  · rw [List.getElem?_append_left hj] at hx
    rw [List.getElem?_append_left (by have := h.len; omega)] at hc
    exact h.at_ j x c hx hc
  · rw [List.getElem?_append_right hj] at hx
    rw [List.getElem?_append_right (by have := h.len; omega), h.len] at hc
    exact h2.at_ _ x c hx hc
theorem RowsOf.take (h : RowsOf d w l rows) (n : Nat) : RowsOf d w (l.take n) (rows.take n) := by
  refine ⟨by simp [h.len], fun j x c hx hc => ?_⟩
  rw [List.getElem?_take] at hx hc
  split at hx
  · rename_i hj; rw [if_pos hj] at hc; exact h.at_ j x c hx hc
  · cases hx
theorem RowsOf.drop (h : RowsOf d w l rows) (n : Nat) : RowsOf d w (l.drop n) (rows.drop n) := by
  refine ⟨by simp [h.len], fun j x c hx hc => ?_⟩
  rw [List.getElem?_drop] at hx hc
  exact h.at_ _ x c hx hc
theorem RowsOf.one_ (x : α) (c : List Value) (h : d.K w x c) : RowsOf d w [x] [c] := by
  refine ⟨rfl, fun j y e hy he => ?_⟩
  rcases j with _ | j
  · simp at hy he; subst hy; subst he; exact h
  · simp at hy
theorem RowsOf.nil_ : RowsOf d w ([] : List α) [] := ⟨rfl, fun j y e hy he => by simp at hy⟩
/-- What a slice that is read holds, cell by cell. -/
theorem C_rows (h : Kd.C d w (some ad) l.length l) : ∃ rows, RowsOf d w l rows ∧ RawAt w ad rows.flatten := by
  obtain ⟨h1, h2, h3⟩ := h
  rcases Nat.eq_zero_or_pos l.length with h0 | h0
  · have : l = [] := List.length_eq_zero_iff.1 h0
    subst this
    exact ⟨[], RowsOf.nil_, fun j u hu => by simp at hu⟩
  · obtain ⟨ad', e, hc⟩ := h3 h0
    obtain rfl : ad = ad' := by injection e
    have : ∀ j : Nat, ∃ c : List Value, ∀ x, l[j]? = some x → c.length = d.sz ∧ d.K w x c ∧ ∀ i u, c[i]? = some u → w.cell? (ad.add (j * d.sz + i)) = some u := fun j => by
      cases hx : l[j]? with
      | none => exact ⟨[], fun x hx' => by cases hx'⟩
      | some x => obtain ⟨c, hc'⟩ := hc j x hx; exact ⟨c, fun y hy => by injection hy with hy; subst hy; exact hc'⟩
    obtain ⟨f, hf⟩ := Classical.skolem.1 this
    have hr : RowsOf d w l ((List.range l.length).map f) := by
      refine ⟨by simp, fun j x c hx hcj => ?_⟩
      rw [List.getElem?_map] at hcj
      have hj := (List.getElem?_eq_some_iff.1 hx).1
      rw [List.getElem?_range hj] at hcj
      injection hcj with hcj
      subst hcj
      exact (hf j x hx).2.1
    refine ⟨_, hr, fun k u hu => ?_⟩
    have hlen := flat_len hr.lens
    have hk := (List.getElem?_eq_some_iff.1 hu).1
    have hsz : 0 < d.sz := by
      rcases Nat.eq_zero_or_pos d.sz with hz | hz
      · rw [hlen, hz] at hk; omega
      · exact hz
    have e1 : k = k / d.sz * d.sz + k % d.sz := by rw [Nat.mul_comm]; exact (Nat.div_add_mod k d.sz).symm
    rw [e1, flat_at hr.lens _ _ (Nat.mod_lt _ hsz)] at hu
    rw [List.getElem?_map] at hu
    have hj : k / d.sz < l.length := by
      rw [hlen] at hk
      simp only [List.length_map, List.length_range] at hk
      exact Nat.div_lt_of_lt_mul (by rw [Nat.mul_comm]; exact hk)
    rw [List.getElem?_range hj] at hu
    rw [e1]
    exact (hf _ _ (List.getElem?_eq_getElem hj)).2.2 _ _ hu
/-- And back. -/
theorem rows_C (h : RowsOf d w l rows) (hr : RawAt w ad rows.flatten) (hn : l.length ≤ 9223372036854775807) : Kd.C d w (some ad) l.length l := by
  refine ⟨rfl, hn, fun _ => ⟨ad, rfl, fun j x hx => ?_⟩⟩
  have hj := (List.getElem?_eq_some_iff.1 hx).1
  have hj' : j < rows.length := by have := h.len; omega
  refine ⟨rows[j], h.lens _ (List.getElem_mem hj'), h.at_ j x _ hx (List.getElem?_eq_getElem hj'), fun i u hu => hr _ _ ?_⟩
  have hi : i < d.sz := by have := (List.getElem?_eq_some_iff.1 hu).1; rw [h.lens _ (List.getElem_mem hj')] at this; exact this
  rw [flat_at h.lens j i hi, List.getElem?_eq_getElem hj', Option.bind_some]
  exact hu
end
theorem own_raw {w : World} {base n g cap sz : Nat} {e : TypeId} {cs : List Value} (h : w.ownsRow base e sz (.slice (some ⟨g, 0, none⟩) n cap) n cs) : RawAt w ⟨g, 0, none⟩ cs := by
  intro j u hu
  rcases h.2 with ⟨h1, _⟩ | ⟨g', cap', cur, hv, hg, hh, hn, hm, hsz, hcur⟩
  · cases h1
  · injection hv with e1 e2 e3
    injection e1 with e1; injection e1 with e1
    subst e1
    have : (Addr.add ⟨g, 0, none⟩ j) = ⟨g, j, none⟩ := by unfold Addr.add; split <;> simp_all
    rw [this, blk_cell hh]
    have hj := (List.getElem?_eq_some_iff.1 hu).1
    rw [← hcur, List.getElem?_take] at hu
    split at hu
    · simpa using hu
    · cases hu
end Go.Proofs.YtgpmkbmobdbdoaaGreatDoor.Q

-- U2
namespace Go.Proofs.YtgpmkbmobdbdoaaGreatDoor.Q
open Go.RowKit Go.Proofs.YtgpmkbmobdbdoaaGreatDoorW.PrintWords Go.Proofs.YtgpmkbmobdbdoaaGreatDoorW.PrintLast Go.Proofs.YtgpmkbmobdbdoaaGreatDoorW.PrintMore
set_option linter.unusedVariables false
set_option linter.unusedSimpArgs false

theorem Only.setRow {g : Nat} {w w' : World} (h : Only g w w') (cs : Array Value) : Only g w (w'.setRow g cs) :=
  ⟨h.os, h.tape, h.output, by simpa [World.setRow] using h.size, fun k hk hg => (setRow_other _ _ _ _ hg).trans (h.block k hk hg)⟩
theorem Only.blk {g k : Nat} {w w' : World} {o : Obj} (h : Only g w w') (hk : w.heap[k]? = some o) (hg : k ≠ g) : w'.heap[k]? = some o := (h.block k (blk_lt hk) hg).trans hk
/-- copy, elements of any number of cells. -/
theorem run_copy_cells {P : Program} (w : World) (dT sT ty elem : TypeId) (g o dLen dCap : Nat) (a : Addr) (sLen sCap sz : Nat) (cur : Array Value) (t : TypeId) (cs : List Value)
    (hu : P.underlying dT = some (.slice elem)) (hs : (P.info? elem).map (·.size) = some sz)
    (hg : w.heap[g]? = some (.cells cur t (0, 0))) (hn : cs.length = Nat.min sLen dLen * sz)
    (hsrc : ∀ j v, cs[j]? = some v → w.cell? (a.add j) = some v) (hfit : o + cs.length ≤ cur.size) (h1 : ∀ v ∈ cs, v.oneCell' = true) :
    (Builtin.copy_ #[dT, sT] ty #[.slice (some ⟨g, o, none⟩) dLen dCap, .slice (some a) sLen sCap]).run P w =
      .ok (goInt (Nat.min sLen dLen)) (w.setRow g (splice cur.toList o cs).toArray) := by
  have hl := run_loadCells_list (P := P) w a cs hsrc
  have hst := run_storeCells_at P g o t cs 0 cur w hg (by simpa using hfit) h1
  cases hq : P.info? elem with
  | none => simp [hq] at hs
  | some i =>
    have hi : i.size = sz := by simpa [hq] using hs
    rw [hn] at hl
    have hm : Nat.min sLen dLen = min sLen dLen := rfl
    rw [hm] at hl ⊢
    simp [Builtin.copy_, run_underlying hu, Builtin.lenOf, Builtin.firstCells, sizeOf, typeInfo, hq, hi, hl, hst, hm, splice]
theorem wpList_copy_cells {P : Program} {w : World} {ops : Array Oper} {rest : List Oper} {o : Oper} {a : Act} {Q : Exit → Act → World → Prop} (hgd : o.guard = none) (d s : Operand) (dT sT : TypeId)
    (ho : o.op = .call { callee := .builtin .copy, args := #[d, s], argTypes := #[dT, sT] }) (elem : TypeId) (sz : Nat) (hu : P.underlying dT = some (.slice elem)) (hsz : (P.info? elem).map (·.size) = some sz)
    (g off dLen dCap : Nat) (ad : Addr) (sLen sCap : Nat) (hd : a.eval d = .slice (some ⟨g, off, none⟩) dLen dCap) (hs : a.eval s = .slice (some ad) sLen sCap)
    (cur : Array Value) (t : TypeId) (hg : w.heap[g]? = some (.cells cur t (0, 0))) (cs : List Value) (hn : cs.length = Nat.min sLen dLen * sz)
    (hsrc : ∀ j v, cs[j]? = some v → w.cell? (ad.add j) = some v) (hfit : off + cs.length ≤ cur.size) (h1 : ∀ v ∈ cs, v.oneCell' = true)
    (h : ∀ w', Hid (w' = w.setRow g (splice cur.toList off cs).toArray) → wpList P ops Q rest (a.put o.dst (goInt (Nat.min sLen dLen))) w') : wpList P ops Q (o :: rest) a w := by
  refine wpList_plain hgd fun K hK => ?_
  have hrun := run_copy_cells (P := P) w dT sT o.type elem g off dLen dCap ad sLen sCap sz cur t cs hu hsz hg hn hsrc hfit h1
  unfold Oper.wp
  simp [execOp, ho, resolve, invoke, builtin, hd, hs, hrun, Result.andThen]
  exact hK _ _ (h _ rfl)
/-- append(s, make([]T, m)...) where s has no room: the new row, written out. -/
theorem run_zeros_grow {P : Program} (w : World) (t ti ty e : TypeId) (i : TypeInfo) (z : Value) (ht : P.underlying t = some (.slice e)) {k : IntKind} (hti : P.underlying ti = some (.int k)) (hi : P.info? e = some i) (hz : i.zero = some z)
    (hzs : z.cells.size = i.size) (hsz : 0 < i.size) (A : Addr) (n cap : Nat) (xs : List Value) (hx : xs.length = n * i.size) (hxs : ∀ j u, xs[j]? = some u → w.cell? (A.add j) = some u) (kx : IntKind) (m : Nat) (hm : 0 < m)
    (hcap : cap < n + m) (hle : n + m ≤ 1000000) (hby : i.bytes ≤ 1000) :
    (Builtin.append_ #[t, ti] ty #[.slice (some A) n cap, .int kx m]).run P w =
      .ok (.slice (some ⟨w.heap.size, 0, none⟩) (n + m) (grownCap w (n + m) cap e)) (w.drew.alloc (.cells (xs ++ ((Builtin.zeroCells z.cells m).toList ++ (Builtin.zeroCells z.cells (grownCap w (n + m) cap e - (n + m))).toList)).toArray e)) := by
  have hw : IntKind.i64.wrap (m : Int) = m := by rw [IntKind.wrap_i64]; omega
  have hneg : ¬ ((m : Int) < 0) := by omega
  have hb1 : m * i.bytes ≤ 1000000 * 1000 := Nat.mul_le_mul (by omega) hby
  have hbig : ¬ (281474976710656 < (m : Int) * (i.bytes : Int)) := by rw [← Int.natCast_mul]; omega
  have hn : ¬ (n + m ≤ cap) := by omega
  have h63' : ¬ (9223372036854775807 < ((n : Int) + (m : Int))) := by omega
  have hb2 : (n + m) * i.bytes ≤ 1000000 * 1000 := Nat.mul_le_mul hle hby
  have hfit := growslice_fits (bytes := i.bytes) hcap (by omega)
  have h48' : ¬ (281474976710656 < Builtin.nextslicecap (n + m) cap * i.bytes) := by omega
  have hmz : ¬ (m * i.size = 0) := Nat.mul_ne_zero (by omega) (by omega)
  have hfo := run_firstCells_some (P := P) w.drew i.size n A n cap xs hx (by simpa using hxs)
  simp [Builtin.append_, run_underlying ht, run_underlying hti, sizeOf, typeInfo, zeroValue, hi, hz, asInt, asIntOf, hw, hneg, hbig, hn, h63', h48', Question.forced, hfo, newRow, grownCap, hmz]
  congr 2
  apply Array.ext'
  simp [List.append_assoc]
theorem wpList_zeros_grow {P : Program} {w : World} {ops : Array Oper} {rest : List Oper} {o : Oper} {a : Act} {Q : Exit → Act → World → Prop} (hgd : o.guard = none) (s x : Operand) (t ti : TypeId)
    (ho : o.op = .call { callee := .builtin .append, args := #[s, x], argTypes := #[t, ti] }) (e : TypeId) (i : TypeInfo) (z : Value) (ht : P.underlying t = some (.slice e)) (k : IntKind) (hti : P.underlying ti = some (.int k)) (hi : P.info? e = some i) (hz : i.zero = some z)
    (hzs : z.cells.size = i.size) (hsz : 0 < i.size) (A : Addr) (n cap : Nat) (xs : List Value) (hs : a.eval s = .slice (some A) n cap) (hx : xs.length = n * i.size) (hxs : ∀ j u, xs[j]? = some u → w.cell? (A.add j) = some u) (kx : IntKind) (m : Nat) (hxm : a.eval x = .int kx m) (hm : 0 < m)
    (hcap : cap < n + m) (hle : n + m ≤ 1000000) (hby : i.bytes ≤ 1000) (Zf : Nat → List Value) (hZ : ∀ m, (Builtin.zeroCells z.cells m).toList = Zf m)
    (h : ∀ nc w', n + m ≤ nc → nc ≤ maxLen → Hid (w' = w.drew.alloc (.cells (xs ++ (Zf m ++ Zf (nc - (n + m)))).toArray e)) → wpList P ops Q rest (a.put o.dst (.slice (some ⟨w.heap.size, 0, none⟩) (n + m) nc)) w') : wpList P ops Q (o :: rest) a w := by
  refine wpList_plain hgd fun K hK => ?_
  have hrun := run_zeros_grow (P := P) w t ti o.type e i z ht hti hi hz hzs hsz A n cap xs hx hxs kx m hm hcap hle hby
  unfold Oper.wp
  simp only [execOp, ho, resolve, invoke, builtin, Sem.run_bind, Sem.run_pure, Result.andThen_ok, List.map_toArray, List.map_cons, List.map_nil, hs, hxm, hrun]
  exact hK _ _ (h _ _ (grownCap_ge _ _ _ _) (grownCap_le_maxLen _ _ _ _ (by unfold maxLen; omega)) (by unfold Hid; rw [hZ, hZ]))
/-- clear(s) of a row. -/
theorem run_clear_cells {P : Program} (w : World) (t ty e : TypeId) (i : TypeInfo) (z : Value) (ht : P.underlying t = some (.slice e)) (hi : P.info? e = some i) (hz : i.zero = some z)
    (g o n cap : Nat) (cur : Array Value) (te : TypeId) (hg : w.heap[g]? = some (.cells cur te (0, 0))) (hn : 0 < n) (hfit : o + n * z.cells.size ≤ cur.size) (h1 : ∀ v ∈ (Builtin.zeroCells z.cells n).toList, v.oneCell' = true) :
    (Builtin.clear_ #[t] ty #[.slice (some ⟨g, o, none⟩) n cap]).run P w = .ok (.tuple #[]) (w.setRow g (splice cur.toList o (Builtin.zeroCells z.cells n).toList).toArray) := by
  have hst := run_storeCells_at P g o te (Builtin.zeroCells z.cells n).toList 0 cur w hg (by simpa [size_zeroCells] using hfit) h1
  obtain ⟨n, rfl⟩ : ∃ m, n = m + 1 := ⟨n - 1, by omega⟩
  simp [Builtin.clear_, run_underlying ht, typeInfo, zeroValue, hi, hz, hst, splice]
theorem zero_one {z : Value} (h : ∀ v ∈ z.cells.toList, v.oneCell' = true) (hz : 0 < z.cells.size) (n : Nat) : ∀ v ∈ (Builtin.zeroCells z.cells n).toList, v.oneCell' = true := by
  intro v hv
  simp only [Builtin.zeroCells, Array.toList_map, List.mem_map] at hv
  obtain ⟨i, _, rfl⟩ := hv
  have hi : i % z.cells.size < z.cells.size := Nat.mod_lt _ hz
  rw [getElem!_pos z.cells _ hi]
  exact h _ (by simp)
end Go.Proofs.YtgpmkbmobdbdoaaGreatDoor.Q
