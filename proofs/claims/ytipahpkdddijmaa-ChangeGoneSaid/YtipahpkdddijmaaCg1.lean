/- The law ChangeGone returns true for every input that its row lets in, under the row's own conditions and no others. -/
import Derived.Test.YtipahpkdddijmaaCd2
import Derived.Test.YtipahpkdddijmaaCg0
import Derived.Test.YtipahpkdddijmaaProg
import Derived.Below
import Derived.Deep.Draws
import Derived.Deep.AppendLies
import Derived.Maps.AppendAt
import Derived.OwnWalk
import Derived.Laws.BytesArg
import Derived.Laws.MakeOwn
import Derived.Laws.OwnMore
import Derived.Deep.OwnRows
import Derived.Tactics
import Derived.Lib.ConvBytes
import Derived.Laws.Slices
import Derived.WalkKit
import Derived.KernelRfl
import Derived.RowKit3
import Derived.Deep.LoopGhost
import Derived.Deep.QuietTactic
import Derived.BigQuiet
import Derived.WideLaws
import Derived.Deep.DeepCutAuto
import Derived.Deep.CutBlock
import Derived.Deep.RegionHeld3
import Derived.Laws.Rows
import Derived.Lib.AppendStr
import Derived.ArgAppend
import Derived.Laws.IdiomCopy
import Derived.OrdersHeld
import Derived.Laws.BitsLemmas
import Derived.RowKit
import Derived.Laws.StructEq
import Derived.Maps.OwnSet
import Derived.Maps.RangeWalk
import Derived.Lib.BufferMore
import Derived.Lib.Bytealg
import Derived.Shelf.SlSortCmp.WholeK
import Derived.Shelf.Strings.Builder1
import Derived.Shelf.Small.Bits
import Derived.Shelf.Small.Strs
import Derived.Shelf.Strings.BuilderF
import Derived.Shelf.Strconv.Itoa0
import Derived.Shelf.SlSortCmp.QuietGrown
import Derived.Laws.CopyOwn
import Derived.Lib.Overlaps
import Derived.Deep.RegionLaw
import Derived.Lib.Builder
import Derived.Deep.DeepMust
import Derived.ProofKit
import Derived.Deep.Strs
import Derived.Test.YtipahpkdddijmaaRows
import Derived.OpenShut
import Derived.ShutString
import Derived.ChangeOld
import Derived.SizedLaws
-- L3
namespace Go.Proofs.Ytipahpkdddijmaa.Q
open Go.RowKit Go.Proofs.YtipahpkdddijmaaW.PrintWords Go.Proofs.YtipahpkdddijmaaW.PrintLast Go.Proofs.YtipahpkdddijmaaW.PrintMore
attribute [local go_sem] max2_int min2_int max_two min_two max_three min_three max_four min_four   -- for this text's walks alone
set_option linter.unusedVariables false
set_option linter.unusedSimpArgs false
attribute [local go_sem high] eqA52

mutual
def cellarerlaw12_ChangeGone.j0 : Nat → List (S39) → ByteArray → Option (Bool)
  | 0, _, _ => none
  | k + 1, x0, x1 => (change_Last.f x0).bind fun t260 => (if t260 = 18446744073709551615 then ((cellarerlaw12_awake.f).bind fun t261 => (some t261)) else (cellarerlaw12_ChangeGone.l0 k x0 x1 t260 ([] : List (S39)) 0))
def cellarerlaw12_ChangeGone.l0 : Nat → List (S39) → ByteArray → Int → List (S39) → Int → Option (Bool)
  | 0, _, _, _, _, _ => none
  | k + 1, x0, x1, x5, x6, x7 => if x7 < (x0.length : Int) then (if 0 ≤ x7 then (if x6.length < 2932031007402 then (cellarerlaw12_ChangeGone.l0 k x0 x1 x5 (x6 ++ [(⟨(rd_T39 x0 x7).f0, (⟨(rd_T39 x0 x7).f1.f0, (⟨#[]⟩ : ByteArray), true⟩ : S37)⟩ : S39)]) (wrap64 (x7 + 1))) else (none)) else (none)) else ((some (([] : List (S39)) : List (S39))).bind fun y267 => (if y267.length + x0.length < 2932031007402 then ((some (y267 ++ x0 : List (S39))).bind fun y270 => (if y270.length < 2932031007402 then ((change_Items.f (y270 ++ [(⟨IntKind.u64.wrap (x5 + 1), (⟨x1, (⟨#[]⟩ : ByteArray), true⟩ : S37)⟩ : S39)])).bind fun t276 => ((change_Items.f x0).bind fun t279 => (cellarerlaw12_ChangeGone.l1 k x1 x6 t276 t279 0 0))) else (none))) else (none)))
def cellarerlaw12_ChangeGone.l1 : Nat → ByteArray → List (S39) → List (S52) → List (S52) → Int → Int → Option (Bool)
  | 0, _, _, _, _, _, _ => none
  | k + 1, x1, x6, x8, x9, x10, x11 => if x11 < (x9.length : Int) then (if 0 ≤ x11 then (if ((rd_T52 x9 x11).f0).toList = x1.toList then (cellarerlaw12_ChangeGone.l1 k x1 x6 x8 x9 x10 (wrap64 (x11 + 1))) else (if x10 ≥ (x8.length : Int) then (some false) else (if 0 ≤ x10 then (if x10 < (x8.length : Int) then (if (!((((rd_T52 x8 x10).f0).toList) == (((rd_T52 x9 x11).f0).toList)) || (!((((rd_T52 x8 x10).f1).toList) == (((rd_T52 x9 x11).f1).toList)))) = true then (some false) else (cellarerlaw12_ChangeGone.l1 k x1 x6 x8 x9 (wrap64 (x10 + 1)) (wrap64 (x11 + 1)))) else (none)) else (none)))) else (none)) else (if x10 = (x8.length : Int) then ((change_Items.f x6).bind fun t282 => (if (t282.length : Int) = 0 then ((cellarerlaw12_awake.f).bind fun t285 => (some t285)) else (some false))) else (some false))
end
def cellarerlaw12_ChangeGone.f (k : Nat) (l0 : List (S39)) (a1 : ByteArray) : Option (Bool) := (cellarerlaw12_Few.f l0).bind fun t257 => (if (a1.size : Int) > 200 then (if 0 ≤ 200 then (if 200 ≤ (a1.size : Int) then (cellarerlaw12_ChangeGone.j0 k t257 (a1.extract 0 200)) else (none)) else (none)) else (cellarerlaw12_ChangeGone.j0 k t257 a1))
theorem cellarerlaw12_ChangeGone.mono_l : ∀ k, (∀ y0 y1, LeO (cellarerlaw12_ChangeGone.j0 k y0 y1) (cellarerlaw12_ChangeGone.j0 (k + 1) y0 y1)) ∧ (∀ y0 y1 y2 y3 y4, LeO (cellarerlaw12_ChangeGone.l0 k y0 y1 y2 y3 y4) (cellarerlaw12_ChangeGone.l0 (k + 1) y0 y1 y2 y3 y4)) ∧ (∀ y0 y1 y2 y3 y4 y5, LeO (cellarerlaw12_ChangeGone.l1 k y0 y1 y2 y3 y4 y5) (cellarerlaw12_ChangeGone.l1 (k + 1) y0 y1 y2 y3 y4 y5))
  | 0 => ⟨fun _ _ r h => by simp [cellarerlaw12_ChangeGone.j0] at h, fun _ _ _ _ _ r h => by simp [cellarerlaw12_ChangeGone.l0] at h, fun _ _ _ _ _ _ r h => by simp [cellarerlaw12_ChangeGone.l1] at h⟩
  | k + 1 => by
    obtain ⟨ih0, ih1, ih2⟩ := cellarerlaw12_ChangeGone.mono_l k
    refine ⟨?_, ?_, ?_⟩
    · intro y0 y1
      unfold cellarerlaw12_ChangeGone.j0
      repeat' first
      | (with_reducible exact ih0 _ _)
      | (with_reducible exact ih1 _ _ _ _ _)
      | (with_reducible exact ih2 _ _ _ _ _ _)
      | (with_reducible exact LeO.refl _)
      | (with_reducible exact LeO.none _)
      | (with_reducible refine LeO.ite ?_ ?_)
      | (with_reducible refine LeO.bind ?_ (fun _ => ?_))
      | exact ih0 _ _
      | exact ih1 _ _ _ _ _
      | exact ih2 _ _ _ _ _ _
      | exact LeO.none _
      | refine LeO.ite ?_ ?_
      | refine LeO.bind ?_ (fun _ => ?_)
    · intro y0 y1 y2 y3 y4
      unfold cellarerlaw12_ChangeGone.l0
      repeat' first
      | (with_reducible exact ih0 _ _)
      | (with_reducible exact ih1 _ _ _ _ _)
      | (with_reducible exact ih2 _ _ _ _ _ _)
      | (with_reducible exact LeO.refl _)
      | (with_reducible exact LeO.none _)
      | (with_reducible refine LeO.ite ?_ ?_)
      | (with_reducible refine LeO.bind ?_ (fun _ => ?_))
      | exact ih0 _ _
      | exact ih1 _ _ _ _ _
      | exact ih2 _ _ _ _ _ _
      | exact LeO.none _
      | refine LeO.ite ?_ ?_
      | refine LeO.bind ?_ (fun _ => ?_)
    · intro y0 y1 y2 y3 y4 y5
      unfold cellarerlaw12_ChangeGone.l1
      repeat' first
      | (with_reducible exact ih0 _ _)
      | (with_reducible exact ih1 _ _ _ _ _)
      | (with_reducible exact ih2 _ _ _ _ _ _)
      | (with_reducible exact LeO.refl _)
      | (with_reducible exact LeO.none _)
      | (with_reducible refine LeO.ite ?_ ?_)
      | (with_reducible refine LeO.bind ?_ (fun _ => ?_))
      | exact ih0 _ _
      | exact ih1 _ _ _ _ _
      | exact ih2 _ _ _ _ _ _
      | exact LeO.none _
      | refine LeO.ite ?_ ?_
      | refine LeO.bind ?_ (fun _ => ?_)
theorem cellarerlaw12_ChangeGone.mono : ∀ a0 a1 k, LeO (cellarerlaw12_ChangeGone.f k a0 a1) (cellarerlaw12_ChangeGone.f (k + 1) a0 a1) := by
  intro a0 a1 k
  obtain ⟨ih0, ih1, ih2⟩ := cellarerlaw12_ChangeGone.mono_l k
  unfold cellarerlaw12_ChangeGone.f
  repeat' first
      | (with_reducible exact ih0 _ _)
      | (with_reducible exact ih1 _ _ _ _ _)
      | (with_reducible exact ih2 _ _ _ _ _ _)
      | (with_reducible exact LeO.refl _)
      | (with_reducible exact LeO.none _)
      | (with_reducible refine LeO.ite ?_ ?_)
      | (with_reducible refine LeO.bind ?_ (fun _ => ?_))
      | exact ih0 _ _
      | exact ih1 _ _ _ _ _
      | exact ih2 _ _ _ _ _ _
      | exact LeO.none _
      | refine LeO.ite ?_ ?_
      | refine LeO.bind ?_ (fun _ => ?_)
def cellarerlaw12_ChangeGone.T11 : Bool × List (List Nat × List Nat) := (true, [([], []), ([], []), ([], []), ([1, 2], [1, 2]), ([3], [3]), ([4], [4]), ([], []), ([], []), ([6, 7], [6, 7]), ([8], [8]), ([9], [9]), ([10], [10]), ([11], [11]), ([5, 12], [5, 12]), ([13], [13]), ([0, 14], [0, 14]), ([15, 15, 0, 1, 2, 3, 4, 5, 6, 7, 8, 9, 10, 11, 12, 13, 14, 15], [0, 15])])
def cellarerlaw12_ChangeGone.B11 : List Nat := [0, 0, 0, 6, 14, 30, 0, 0, 192, 448, 960, 1984, 4032, 8190, 16382, 32767, 65535]
theorem cellarerlaw12_ChangeGone.tab11 : rtab .any (opsOf Try.f8 11) = cellarerlaw12_ChangeGone.T11 := by kernel_rfl
theorem cellarerlaw12_ChangeGone.bits11 : waitsOk cellarerlaw12_ChangeGone.T11.2 cellarerlaw12_ChangeGone.B11 = true := by kernel_rfl
def cellarerlaw12_ChangeGone.T19 : Bool × List (List Nat × List Nat) := (true, [([], []), ([], []), ([1], [1]), ([0, 2], [0, 2]), ([3], [3]), ([4], [4]), ([4], [4]), ([5, 6, 4], [4, 5, 6]), ([7, 4], [4, 7]), ([4], [4]), ([4], [4]), ([9, 10, 4], [4, 9, 10]), ([11, 4], [4, 11]), ([8, 12, 4], [4, 8, 12]), ([4, 13], [4, 13])])
def cellarerlaw12_ChangeGone.B19 : List Nat := [0, 0, 2, 7, 15, 31, 31, 127, 255, 31, 31, 1567, 3615, 8191, 16383]
theorem cellarerlaw12_ChangeGone.tab19 : rtab .any (opsOf Try.f8 19) = cellarerlaw12_ChangeGone.T19 := by kernel_rfl
theorem cellarerlaw12_ChangeGone.bits19 : waitsOk cellarerlaw12_ChangeGone.T19.2 cellarerlaw12_ChangeGone.B19 = true := by kernel_rfl
set_option maxHeartbeats 8000000 in
set_option maxRecDepth 100000 in
theorem cellarerlaw12_ChangeGone.calls (k : Nat) (A0 : Option Addr) (c0 : Nat) (l0 : List (S39)) (a1 : ByteArray) (r : Bool) (w : World) (hr0 : Kd.C k39 w A0 l0.length l0) (hc0 : l0.length ≤ c0) (h : cellarerlaw12_ChangeGone.f k l0 a1 = some r) :
    Calls Try.prog 8 #[.slice A0 l0.length c0, .string a1] w fun e w' => e = .returned (.bool r) ∧ Below w.heap.size w w' := by
  have hu37 := Try.underlying37
  have hu39 := Try.underlying39
  have hu52 := Try.underlying52
  have HR0 := Aside0.mk hr0
  have HC0 := Aside0.mk hc0
  clear hr0 hc0
  have HB := Aside0.mk (Below.refl w.heap.size w)
  have H : ((cellarerlaw12_Few.f l0).bind fun t257 => (if (a1.size : Int) > 200 then (if 0 ≤ 200 then (if 200 ≤ (a1.size : Int) then (cellarerlaw12_ChangeGone.j0 k t257 (a1.extract 0 200)) else (none)) else (none)) else (cellarerlaw12_ChangeGone.j0 k t257 a1))) = some r := h
  clear h
  replace H := Option.bind_eq_some_iff.mp H
  obtain ⟨t257, A30, H⟩ := H
  replace H : (if (a1.size : Int) > 200 then (if 0 ≤ 200 then (if 200 ≤ (a1.size : Int) then (cellarerlaw12_ChangeGone.j0 k t257 (a1.extract 0 200)) else (none)) else (none)) else (cellarerlaw12_ChangeGone.j0 k t257 a1)) = some r := H
  have A3 := Aside0.mk A30
  clear A30
  have HC4 := Aside0.mk H
  clear H
  go_enter Try.func8, Try.ntmps8
  go_upto_if 16 with (first | ((with_reducible refine gate_callee (f := 10) rfl ?_); refine goesL_ (some 13) rfl rfl Try.func10 (by kernel_rfl) rfl #[.slice A0 l0.length c0] rfl (by (try simp only [List.map_toArray, List.map_cons, List.map_nil]); first | done | rfl | (simp only [List.length_drop, List.length_take]; rfl)) ?_; (with_reducible refine (cellarerlaw12_Few.calls _ _ l0 t257 _ ?side1 ?side2 A3.out).mono ?_); (case side1 => repeat (first | exact HR0.out | (with_reducible refine Kd.C_alloc ?_ _) | (with_reducible refine Kd.C_drewN ?_ _) | (with_reducible refine Kd.C_drew ?_))); (case side2 => exact HC0.out); rintro e w5 ⟨v258, rfl, ho0, hb⟩; refine ⟨_, rfl, ?_⟩; have n0_ := Aside0.mk (Kd.R_lower ho0 (below_size (by repeat (first | (with_reducible first | exact HB.out | apply below_alloc | apply pw_below_drewN | apply below_drew1) | exact HB.out)))); have n1_ := Aside0.mk (below_step (by repeat (first | (with_reducible first | exact HB.out | apply below_alloc | apply pw_below_drewN | apply below_drew1) | exact HB.out)) hb); clear HB; have HO259 := n0_; have HB := n1_; clear n0_ n1_; (try clear hb); (try clear hb2); (try clear hk); (try clear hi); (try clear ho0)))
  (try simp only [Act.put, List.setIfInBounds_toArray, List.set_cons_zero, List.set_cons_succ])
  go_cut [1] (fun v1 wc => ∃ (kq : Nat) (x1_3 : ByteArray), v1 = .string x1_3 ∧ Aside0 (cellarerlaw12_ChangeGone.j0 kq t257 x1_3 = some r) ∧ Aside0 (kq ≤ k) ∧ Aside0 (Kd.R k39 39 wc w.heap.size (fun _ => True) v258 t257) ∧ Aside0 (Below w.heap.size w wc))
  case first =>
    have H := HC4.out
    clear HC4
    by_cases c6 : (a1.size : Int) > 200
    · rw [if_pos c6] at H
      have c6b0 : decide (200 < (a1.size : Int)) = true := decide_eq_true c6
      have c6b1 : decide (200 < a1.size) = true := decide_eq_true (by omega)
      clear c6
      (first | rw [c6b0] | (simp only [i64_w, i32_w]; rw [c6b0]) | skip)
      by_cases c7 : 0 ≤ 200
      · rw [if_pos c7] at H
        have c7b0 := eq_true c7
        have c7b1 : decide (0 ≤ 200) = true := decide_eq_true c7
        clear c7
        by_cases c8 : 200 ≤ (a1.size : Int)
        · rw [if_pos c8] at H
          have c8b0 := eq_true c8
          have c8b1 : decide (200 ≤ (a1.size : Int)) = true := decide_eq_true c8
          clear c8
          have H' := Aside0.mk H
          clear H
          go_wp2
          go_meet
          case rel => exact ⟨_, (a1.extract 0 200), (by first | rfl | (simp; done) | (simp [*]; done)), H', ⟨by first | omega | exact Nat.le_refl _⟩, ⟨by (with_reducible repeat (first | apply Kd.R_alloc | apply Kd.R_drewN | apply Kd.R_drew)); exact HO259.out⟩, ⟨by repeat (first | (with_reducible first | exact HB.out | apply below_alloc | apply pw_below_drewN | apply below_drew1) | exact HB.out)⟩⟩
        · rw [if_neg c8] at H
          exact absurd H (by simp)
      · rw [if_neg c7] at H
        exact absurd H (by simp)
    · rw [if_neg c6] at H
      have c6b0 : decide (200 < (a1.size : Int)) = false := decide_eq_false c6
      have c6b1 : decide (200 < a1.size) = false := decide_eq_false (by omega)
      clear c6
      (first | rw [c6b0] | (simp only [i64_w, i32_w]; rw [c6b0]) | skip)
      have H' := Aside0.mk H
      clear H
      go_wp2
      go_meet
      case rel => exact ⟨_, (a1), (by first | rfl | (simp; done) | (simp [*]; done)), H', ⟨by first | omega | exact Nat.le_refl _⟩, ⟨by (with_reducible repeat (first | apply Kd.R_alloc | apply Kd.R_drewN | apply Kd.R_drew)); exact HO259.out⟩, ⟨by repeat (first | (with_reducible first | exact HB.out | apply below_alloc | apply pw_below_drewN | apply below_drew1) | exact HB.out)⟩⟩
  case rest =>
    clear HC4
    try clear c1
    try clear p2
    try clear c6
    try clear c6b0
    try clear c6b1
    try clear c7
    try clear c7b0
    try clear c7b1
    try clear c8
    try clear c8b0
    try clear c8b1
    obtain ⟨kq, x1_3, rfl, HA, HJ3, HO_0, HB⟩ := hcut
    cases kq with
    | zero => exact absurd HA.out (by simp [cellarerlaw12_ChangeGone.j0])
    | succ kj3 =>
      have H := HA.out
      clear HA
      simp only [cellarerlaw12_ChangeGone.j0] at H
      replace H := Option.bind_eq_some_iff.mp H
      obtain ⟨t260, A90, H⟩ := H
      replace H : (if t260 = 18446744073709551615 then ((cellarerlaw12_awake.f).bind fun t261 => (some t261)) else (cellarerlaw12_ChangeGone.l0 kj3 t257 x1_3 t260 ([] : List (S39)) 0)) = some r := H
      have A9 := Aside0.mk A90
      clear A90
      by_cases c10 : t260 = 18446744073709551615
      · rw [if_pos c10] at H
        have c10b0 : (t260 == 18446744073709551615) = true := beq_iff_eq.mpr c10
        have c10b1 : (t260 != 18446744073709551615) = false := bne_eq_false_iff_eq.mpr c10
        clear c10
        replace H := Option.bind_eq_some_iff.mp H
        obtain ⟨t261, A110, H⟩ := H
        replace H : (some t261) = some r := H
        have A11 := Aside0.mk A110
        clear A110
        obtain rfl := Option.some.inj H
        obtain ⟨Ao12, co12, eo12⟩ := Kd.R_slice HO_0.out
        subst eo12
        go_wp2_with (first | ((with_reducible refine gate_callee (f := 23) rfl ?_); refine goesL_ (some 20) rfl rfl Try.func23 (by kernel_rfl) rfl #[.slice Ao12 t257.length co12] rfl (by (try simp only [List.map_toArray, List.map_cons, List.map_nil]); first | done | rfl | (simp only [List.length_drop, List.length_take]; rfl)) ?_; (with_reducible refine (change_Last.calls _ _ t257 t260 _ ?side1 ?side2 A9.out).mono ?_); (case side1 => repeat (first | exact (Kd.R_reads' HO_0.out).2.2 | (with_reducible refine Kd.C_alloc ?_ _) | (with_reducible refine Kd.C_drewN ?_ _) | (with_reducible refine Kd.C_drew ?_))); (case side2 => exact (Kd.R_reads' HO_0.out).2.1); rintro e w13 ⟨rfl, hb⟩; refine ⟨_, rfl, ?_⟩; have n0_ := Aside0.mk (Kd.R_below (by (with_reducible repeat (first | apply Kd.R_alloc | apply Kd.R_drewN | apply Kd.R_drew)); exact HO_0.out) hb); have n1_ := Aside0.mk (below_step (by repeat (first | (with_reducible first | exact HB.out | apply below_alloc | apply pw_below_drewN | apply below_drew1) | exact HB.out)) hb); clear HO_0; clear HB; have HO_0 := n0_; have HB := n1_; clear n0_ n1_; (try clear hb); (try clear hb2); (try clear hk); (try clear hi)) | ((with_reducible refine gate_callee (f := 18) rfl ?_); refine goesL_ (some 23) rfl rfl Try.func18 (by kernel_rfl) rfl #[] rfl (by (try simp only [List.map_toArray, List.map_cons, List.map_nil]); first | done | rfl | (simp only [List.length_drop, List.length_take]; rfl)) ?_; (with_reducible refine (cellarerlaw12_awake.calls  t261 _ A11.out).mono ?_); rintro e w14 ⟨rfl, hb⟩; refine ⟨_, rfl, ?_⟩; have n0_ := Aside0.mk (Kd.R_below (by (with_reducible repeat (first | apply Kd.R_alloc | apply Kd.R_drewN | apply Kd.R_drew)); exact HO_0.out) hb); have n1_ := Aside0.mk (below_step (by repeat (first | (with_reducible first | exact HB.out | apply below_alloc | apply pw_below_drewN | apply below_drew1) | exact HB.out)) hb); clear HO_0; clear HB; have HO_0 := n0_; have HB := n1_; clear n0_ n1_; (try clear hb); (try clear hb2); (try clear hk); (try clear hi)))
        go_ret
        exact ⟨by first | rfl | (simp [errW_none, errW_some] <;> rfl) | (simp [*, errW_none, errW_some] <;> rfl), by repeat (first | (with_reducible first | exact HB.out | apply below_alloc | apply pw_below_drewN | apply below_drew1) | exact HB.out)⟩
      · rw [if_neg c10] at H
        have c10b0 : (t260 == 18446744073709551615) = false := beq_eq_false_iff_ne.mpr c10
        have c10b1 : (t260 != 18446744073709551615) = true := bne_iff_ne.mpr c10
        have H' := Aside0.mk H
        clear H
        obtain ⟨Ao15, co15, eo15⟩ := Kd.R_slice HO_0.out
        subst eo15
        go_wp2_with (first | ((with_reducible refine gate_callee (f := 23) rfl ?_); refine goesL_ (some 20) rfl rfl Try.func23 (by kernel_rfl) rfl #[.slice Ao15 t257.length co15] rfl (by (try simp only [List.map_toArray, List.map_cons, List.map_nil]); first | done | rfl | (simp only [List.length_drop, List.length_take]; rfl)) ?_; (with_reducible refine (change_Last.calls _ _ t257 t260 _ ?side1 ?side2 A9.out).mono ?_); (case side1 => repeat (first | exact (Kd.R_reads' HO_0.out).2.2 | (with_reducible refine Kd.C_alloc ?_ _) | (with_reducible refine Kd.C_drewN ?_ _) | (with_reducible refine Kd.C_drew ?_))); (case side2 => exact (Kd.R_reads' HO_0.out).2.1); rintro e w16 ⟨rfl, hb⟩; refine ⟨_, rfl, ?_⟩; have n0_ := Aside0.mk (Kd.R_below (by (with_reducible repeat (first | apply Kd.R_alloc | apply Kd.R_drewN | apply Kd.R_drew)); exact HO_0.out) hb); have n1_ := Aside0.mk (below_step (by repeat (first | (with_reducible first | exact HB.out | apply below_alloc | apply pw_below_drewN | apply below_drew1) | exact HB.out)) hb); clear HO_0; clear HB; have HO_0 := n0_; have HB := n1_; clear n0_ n1_; (try clear hb); (try clear hb2); (try clear hk); (try clear hi)))
        go_loopg [6, 7] kj3 (fun kq v6 v7 w' => ∃ (x6_2 : List (S39)) (x7_2 : Int), v7 = .int .i64 x7_2 ∧ Aside0 (cellarerlaw12_ChangeGone.l0 kq t257 x1_3 t260 x6_2 x7_2 = some r) ∧ Aside0 (kq ≤ kj3) ∧ Aside0 (Kd.R k39 39 w' w.heap.size (fun k_ => some k_ ≠ (v6 : Value).ownBlock) (.slice Ao15 t257.length co15) t257) ∧ Aside0 (Kd.R k39 39 w' w.heap.size (fun k_ => some k_ ≠ ((.slice Ao15 t257.length co15) : Value).ownBlock) v6 x6_2) ∧ Aside0 (Below w.heap.size w w'))
        case atStart => exact ⟨(([] : List (S39))), (0), (by first | rfl | (simp; done) | (simp [*]; done)), H', ⟨Nat.le_refl _⟩, ⟨by (with_reducible repeat (first | apply Kd.R_alloc | apply Kd.R_drewN | apply Kd.R_drew)); exact Kd.R_mono HO_0.out (fun _ hk => (by simp [Value.ownBlock]))⟩, ⟨by first | exact Kd.R_nil _ _ _ _ _ | exact Kd.N_nil _ _ _ _ _ | exact Kd.V_nil _ _ _ _ _ | exact Kd.Q_nil _ _ _ _ _ | exact Kd.S_nil _ _ _ _ _⟩, ⟨by repeat (first | (with_reducible first | exact HB.out | apply below_alloc | apply pw_below_drewN | apply below_drew1) | exact HB.out)⟩⟩
        case round =>
          clear H'
          try clear c1
          try clear c2
          try clear p2
          try clear c6
          try clear c6b0
          try clear c6b1
          try clear c7
          try clear c7b0
          try clear c7b1
          try clear c8
          try clear c8b0
          try clear c8b1
          try clear c10
          try clear c10b0
          try clear c10b1
          try clear p2
          obtain ⟨x6_2, x7_2, rfl, HA, HK2, HO_0, HO_6, HB⟩ := hrel
          cases gk with
          | zero => exact absurd HA.out (by simp [cellarerlaw12_ChangeGone.l0])
          | succ k2 =>
            have H := HA.out
            clear HA
            simp only [cellarerlaw12_ChangeGone.l0] at H
            by_cases c17 : x7_2 < (t257.length : Int)
            · rw [if_pos c17] at H
              have c17b0 : decide (x7_2 < (t257.length : Int)) = true := decide_eq_true c17
              clear c17
              by_cases c18 : 0 ≤ x7_2
              · rw [if_pos c18] at H
                have c18b0 : decide (0 ≤ x7_2) = true := decide_eq_true c18
                clear c18
                by_cases c19 : x6_2.length < 2932031007402
                · rw [if_pos c19] at H
                  have LMc19 := Aside0.mk c19
                  clear c19
                  obtain ⟨y264, hy264⟩ : ∃ y_ : List (S39), y_ = (x6_2 ++ [(⟨(rd_T39 t257 x7_2).f0, (⟨(rd_T39 t257 x7_2).f1.f0, (⟨#[]⟩ : ByteArray), true⟩ : S37)⟩ : S39)]) := ⟨_, rfl⟩
                  replace H : (cellarerlaw12_ChangeGone.l0 k2 t257 x1_3 t260 y264 (wrap64 (x7_2 + 1))) = some r := by first | (rw [hy264]; with_reducible exact H) | (have H2_ := (Option.bind_some _ _).symm.trans H; rw [hy264]; with_reducible exact H2_) | (have H2_ := (Option.bind_some _ _).symm.trans H; with_reducible exact H2_) | with_reducible exact H | (rw [hy264]; exact H) | exact H
                  have Ny264 := Aside0.mk hy264
                  clear hy264
                  have H' := Aside0.mk H
                  clear H
                  try go_wp2
                  have n0_ := Aside0.mk (Kd.R_drew HO_0.out)
                  have n1_ := Aside0.mk (Kd.R_drew HO_6.out)
                  have n2_ := Aside0.mk (below_drew1 HB.out)
                  clear HO_0
                  clear HO_6
                  clear HB
                  have HO_0 := n0_
                  have HO_6 := n1_
                  have HB := n2_
                  clear n0_ n1_ n2_
                  have p262 : 0 ≤ (x7_2 : Int) := of_decide_eq_true (by first | (with_reducible assumption) | assumption)
                  have q262 : x7_2 < (t257.length : Int) := of_decide_eq_true (by first | (with_reducible assumption) | assumption)
                  obtain ⟨ad262, e262, hx262_0, hx262_1, hx262_2, hx262_3⟩ := at_T39 (Kd.R_reads' HO_0.out).2.2 x7_2 p262 q262
                  cases e262
                  replace p262 := eq_true p262
                  replace q262 := eq_true q262
                  have p263 : 0 ≤ (x7_2 : Int) := of_decide_eq_true (by first | (with_reducible assumption) | assumption)
                  have q263 : x7_2 < (t257.length : Int) := of_decide_eq_true (by first | (with_reducible assumption) | assumption)
                  obtain ⟨ad263, e263, hx263_0, hx263_1, hx263_2, hx263_3⟩ := at_T39 (Kd.R_reads' HO_0.out).2.2 x7_2 p263 q263
                  obtain rfl : ad262 = ad263 := (by injection e263)
                  replace p263 := eq_true p263
                  replace q263 := eq_true q263
                  refine start_ (n := 17) (S := fun w' => w'.cell? (ad262.add ((x7_2).toNat * 4)) = some (.int .u64 ((rd_T39 t257 x7_2).f0)) ∧ w'.cell? ⟨(ad262.add ((x7_2).toNat * 4)).block, (ad262.add ((x7_2).toNat * 4)).off + 1, none⟩ = some (.string ((rd_T39 t257 x7_2).f1.f0)) ∧ w'.cell? ⟨(ad262.add ((x7_2).toNat * 4)).block, (ad262.add ((x7_2).toNat * 4)).off + 2, none⟩ = some (.string ((rd_T39 t257 x7_2).f1.f1)) ∧ w'.cell? ⟨(ad262.add ((x7_2).toNat * 4)).block, (ad262.add ((x7_2).toNat * 4)).off + 3, none⟩ = some (.bool ((rd_T39 t257 x7_2).f1.f2)) ∧ w'.cell? (ad262.add ((x7_2).toNat * 4)) = some (.int .u64 ((rd_T39 t257 x7_2).f0)) ∧ w'.cell? ⟨(ad262.add ((x7_2).toNat * 4)).block, (ad262.add ((x7_2).toNat * 4)).off + 1, none⟩ = some (.string ((rd_T39 t257 x7_2).f1.f0)) ∧ w'.cell? ⟨(ad262.add ((x7_2).toNat * 4)).block, (ad262.add ((x7_2).toNat * 4)).off + 2, none⟩ = some (.string ((rd_T39 t257 x7_2).f1.f1)) ∧ w'.cell? ⟨(ad262.add ((x7_2).toNat * 4)).block, (ad262.add ((x7_2).toNat * 4)).off + 3, none⟩ = some (.bool ((rd_T39 t257 x7_2).f1.f2))) (ds := [14, 15]) #[false, false, false, false, false, false, false, false, false, false, false, false, false, false, false, false, false] (by kernel_rfl) rfl rfl ⟨hx262_0, hx262_1, hx262_2, hx262_3, hx263_0, hx263_1, hx263_2, hx263_3⟩ (fun hHeld => ?_); refine with_tabW cellarerlaw12_ChangeGone.tab11 cellarerlaw12_ChangeGone.bits11 (fun HT_ HW_ => ?_)
                  generalize wr.drew = w20 at HO_0 HO_6 HB hx262_0 hx262_1 hx262_2 hx262_3 hx263_0 hx263_1 hx263_2 hx263_3 hHeld ⊢
                  refine pure_ (i := 0) (N := some 30) (v := ?_) (a' := ?_) #[true, false, false, false, false, false, false, false, false, false, false, false, false, false, false, false, false] rfl rfl (any_of HT_.out (by kernel_rfl)) (fun _ _ _ h => h) (Or.inl ⟨by rfl, ?_⟩) ?_ ?_
                  rotate_left
                  · intro w'
                    go_simp
                    with_reducible rfl
                  rotate_left
                  · simp only [Act.put, List.setIfInBounds_toArray, List.set_cons_zero, List.set_cons_succ, i64_w, i32_w]
                    rfl
                  refine pure_ (i := 1) (N := some 31) (v := ?_) (a' := ?_) #[true, true, false, false, false, false, false, false, false, false, false, false, false, false, false, false, false] rfl rfl (any_of HT_.out (by kernel_rfl)) (fun _ _ _ h => h) (Or.inl ⟨by rfl, ?_⟩) ?_ ?_
                  rotate_left
                  · intro w'
                    go_simp
                    with_reducible rfl
                  rotate_left
                  · simp only [Act.put, List.setIfInBounds_toArray, List.set_cons_zero, List.set_cons_succ, i64_w, i32_w]
                    rfl
                  refine pure_ (i := 2) (N := some 32) (v := ?_) (a' := ?_) #[true, true, true, false, false, false, false, false, false, false, false, false, false, false, false, false, false] rfl rfl (any_of HT_.out (by kernel_rfl)) (fun _ _ _ h => h) (Or.inl ⟨by rfl, ?_⟩) ?_ ?_
                  rotate_left
                  · intro w'
                    go_simp
                    with_reducible rfl
                  rotate_left
                  · simp only [Act.put, List.setIfInBounds_toArray, List.set_cons_zero, List.set_cons_succ, i64_w, i32_w]
                    rfl
                  refine pure_ (i := 3) (N := some 33) (v := ?_) (a' := ?_) #[true, true, true, true, false, false, false, false, false, false, false, false, false, false, false, false, false] rfl rfl (any_of HT_.out (by kernel_rfl)) (fun _ _ _ h => h) (Or.inl ⟨by rfl, ?_⟩) ?_ ?_
                  rotate_left
                  · intro w'
                    go_simp
                    with_reducible rfl
                  rotate_left
                  · simp only [Act.put, List.setIfInBounds_toArray, List.set_cons_zero, List.set_cons_succ, i64_w, i32_w]
                    rfl
                  refine pure_ (i := 4) (N := some 34) (v := ?_) (a' := ?_) #[true, true, true, true, true, false, false, false, false, false, false, false, false, false, false, false, false] rfl rfl (any_of HT_.out (by kernel_rfl)) (fun _ _ _ h => h) (Or.inl ⟨by rfl, ?_⟩) ?_ ?_
                  rotate_left
                  · intro w'
                    go_simp
                    with_reducible rfl
                  rotate_left
                  · simp only [Act.put, List.setIfInBounds_toArray, List.set_cons_zero, List.set_cons_succ, i64_w, i32_w]
                    rfl
                  refine pure_ (i := 6) (N := some 36) (v := ?_) (a' := ?_) #[true, true, true, true, true, false, true, false, false, false, false, false, false, false, false, false, false] rfl rfl (any_of HT_.out (by kernel_rfl)) (fun _ _ _ h => h) (Or.inl ⟨by rfl, ?_⟩) ?_ ?_
                  rotate_left
                  · intro w'
                    go_simp
                    with_reducible rfl
                  rotate_left
                  · simp only [Act.put, List.setIfInBounds_toArray, List.set_cons_zero, List.set_cons_succ, i64_w, i32_w]
                    rfl
                  refine pure_ (i := 7) (N := some 37) (v := ?_) (a' := ?_) #[true, true, true, true, true, false, true, true, false, false, false, false, false, false, false, false, false] rfl rfl (any_of HT_.out (by kernel_rfl)) (fun _ _ _ h => h) (Or.inl ⟨by rfl, ?_⟩) ?_ ?_
                  rotate_left
                  · intro w'
                    go_simp
                    with_reducible rfl
                  rotate_left
                  · simp only [Act.put, List.setIfInBounds_toArray, List.set_cons_zero, List.set_cons_succ, i64_w, i32_w]
                    rfl
                  refine pure_ (i := 8) (N := some 38) (v := ?_) (a' := ?_) #[true, true, true, true, true, false, true, true, true, false, false, false, false, false, false, false, false] rfl rfl (any_of HT_.out (by kernel_rfl)) (fun _ _ _ h => h) (Or.inl ⟨by rfl, ?_⟩) ?_ ?_
                  rotate_left
                  · intro w'
                    go_simp
                    with_reducible rfl
                  rotate_left
                  · simp only [Act.put, List.setIfInBounds_toArray, List.set_cons_zero, List.set_cons_succ, i64_w, i32_w]
                    rfl
                  refine pure_ (i := 9) (N := some 39) (v := ?_) (a' := ?_) #[true, true, true, true, true, false, true, true, true, true, false, false, false, false, false, false, false] rfl rfl (any_of HT_.out (by kernel_rfl)) (fun _ _ _ h => h) (Or.inl ⟨by rfl, ?_⟩) ?_ ?_
                  rotate_left
                  · intro w'
                    go_simp
                    with_reducible rfl
                  rotate_left
                  · simp only [Act.put, List.setIfInBounds_toArray, List.set_cons_zero, List.set_cons_succ, i64_w, i32_w]
                    rfl
                  refine pure_ (i := 10) (N := some 40) (v := ?_) (a' := ?_) #[true, true, true, true, true, false, true, true, true, true, true, false, false, false, false, false, false] rfl rfl (any_of HT_.out (by kernel_rfl)) (fun _ _ _ h => h) (Or.inl ⟨by rfl, ?_⟩) ?_ ?_
                  rotate_left
                  · intro w'
                    go_simp
                    with_reducible rfl
                  rotate_left
                  · simp only [Act.put, List.setIfInBounds_toArray, List.set_cons_zero, List.set_cons_succ, i64_w, i32_w]
                    rfl
                  refine take_ (i := 5) (N := some 35) (v := ?_) (a' := ?_) #[true, true, true, true, true, true, true, true, true, true, true, false, false, false, false, false, false] rfl rfl (take_ofW HT_.out HW_.out (by kernel_rfl)) (fun _ _ _ h => h) (Or.inl ⟨by rfl, ?_⟩) hHeld ?_ ?_
                  rotate_left
                  · rintro w' ⟨s0, s1, s2, s3, s4, s5, s6, s7⟩
                    go_simp
                    with_reducible rfl
                  rotate_left
                  · simp only [Act.put, List.setIfInBounds_toArray, List.set_cons_zero, List.set_cons_succ, i64_w, i32_w]
                    rfl
                  refine take_ (i := 11) (N := some 41) (v := ?_) (a' := ?_) #[true, true, true, true, true, true, true, true, true, true, true, true, false, false, false, false, false] rfl rfl (take_ofW HT_.out HW_.out (by kernel_rfl)) (fun _ _ _ h => h) (Or.inl ⟨by rfl, ?_⟩) hHeld ?_ ?_
                  rotate_left
                  · rintro w' ⟨s0, s1, s2, s3, s4, s5, s6, s7⟩
                    go_simp
                    with_reducible rfl
                  rotate_left
                  · simp only [Act.put, List.setIfInBounds_toArray, List.set_cons_zero, List.set_cons_succ, i64_w, i32_w]
                    rfl
                  refine pure_ (i := 12) (N := some 42) (v := ?_) (a' := ?_) #[true, true, true, true, true, true, true, true, true, true, true, true, true, false, false, false, false] rfl rfl (any_of HT_.out (by kernel_rfl)) (fun _ _ _ h => h) (Or.inl ⟨by rfl, ?_⟩) ?_ ?_
                  rotate_left
                  · intro w'
                    go_simp
                    with_reducible rfl
                  rotate_left
                  · simp only [Act.put, List.setIfInBounds_toArray, List.set_cons_zero, List.set_cons_succ, i64_w, i32_w]
                    rfl
                  refine pure_ (i := 13) (N := some 43) (v := ?_) (a' := ?_) #[true, true, true, true, true, true, true, true, true, true, true, true, true, true, false, false, false] rfl rfl (any_of HT_.out (by kernel_rfl)) (fun _ _ _ h => h) (Or.inl ⟨by rfl, ?_⟩) ?_ ?_
                  rotate_left
                  · intro w'
                    go_simp
                    with_reducible rfl
                  rotate_left
                  · simp only [Act.put, List.setIfInBounds_toArray, List.set_cons_zero, List.set_cons_succ, i64_w, i32_w]
                    rfl
                  refine last_ (i := 14) (N := some 44) #[true, true, true, true, true, true, true, true, true, true, true, true, true, true, true, false, false] rfl rfl (one_of HT_.out (by kernel_rfl)) (by decide) (fun K hK => ?_)
                  refine value_ (w1 := ?_) (v := ?_) (by rfl) rfl ?_ ?_
                  rotate_left 2
                  · go_simp
                    constructor
                    · rfl
                    · rfl
                  refine hK.out _ _ ?_
                  clear hK K
                  refine norm_ (a' := ?_) ?_ ?_
                  rotate_left
                  · show Act.put _ (some 44) _ = _
                    simp only [Act.put, List.setIfInBounds_toArray, List.set_cons_zero, List.set_cons_succ, i64_w, i32_w]
                    rfl
                  refine last_ (i := 15) (N := some 45) #[true, true, true, true, true, true, true, true, true, true, true, true, true, true, true, true, false] rfl rfl (one_of HT_.out (by kernel_rfl)) (by decide) (fun K hK => ?_)
                  refine Kd.R_append_step k39 (w0 := w) w.heap.size (by rfl) (.tmp 30) (.tmp 44) 22 39 (.agg #[(.int .u64 0), (.string ⟨#[]⟩), (.string ⟨#[]⟩), (.bool false)]) 48 rfl Try.underlying22 info39 rfl (by decide) (by omega) u6 x6_2 (⟨(rd_T39 t257 x7_2).f0, (⟨(rd_T39 t257 x7_2).f1.f0, (⟨#[]⟩ : ByteArray), true⟩ : S37)⟩ : S39) [.int .u64 ((rd_T39 t257 x7_2).f0), .string ((rd_T39 t257 x7_2).f1.f0), .string (⟨#[]⟩ : ByteArray), .bool true] (fun k_ => some k_ ≠ (.slice (some ad262) t257.length co15 : Value).ownBlock) (fun _ => False) rfl rfl ?aP (fun _ hk => hk.elim) ?aF ?aO ?aB ?aS ?aL ?_
                  (case aP => exact k39_mkM _ _ _ (⟨(rd_T39 t257 x7_2).f0, (⟨(rd_T39 t257 x7_2).f1.f0, (⟨#[]⟩ : ByteArray), true⟩ : S37)⟩ : S39))
                  (case aB => exact (by repeat (first | (with_reducible first | exact HB.out | apply below_alloc | apply pw_below_drewN | apply below_drew1) | exact HB.out)))
                  (case aF => exact (fun k_ hk => Kd.fresh' (Kd.R_lt (by (with_reducible repeat (first | apply Kd.R_alloc | apply Kd.R_drewN | apply Kd.R_drew)); exact HO_0.out)) k_ hk))
                  (case aO => exact (by (with_reducible repeat (first | apply Kd.R_alloc | apply Kd.R_drewN | apply Kd.R_drew)); exact HO_6.out))
                  (case aS => exact (below_size (by repeat (first | (with_reducible first | exact HB.out | apply below_alloc | apply pw_below_drewN | apply below_drew1) | exact HB.out))))
                  (case aL => have := LMc19.out; omega)
                  intro v265 w21 ho hb hg hat
                  rw [← Ny264.out] at ho
                  have n0_ := Aside0.mk (Kd.R_after (ok := (fun _ => True)) (by (with_reducible repeat (first | apply Kd.R_alloc | apply Kd.R_drewN | apply Kd.R_drew)); exact Kd.R_mono HO_0.out (fun _ hk => ⟨trivial, hk⟩)) hg hat)
                  have n1_ := Aside0.mk (hb)
                  have n2_ := Aside0.mk (ho)
                  clear HO_0
                  clear HB
                  clear HO_6
                  have HO_0 := n0_
                  have HB := n1_
                  have HO266 := n2_
                  clear n0_ n1_ n2_
                  clear ho hb hg hat
                  refine hK.out _ _ ?_
                  clear hK K
                  refine norm_ (a' := ?_) ?_ ?_
                  rotate_left
                  · show Act.put _ (some 45) _ = _
                    simp only [Act.put, List.setIfInBounds_toArray, List.set_cons_zero, List.set_cons_succ, i64_w, i32_w]
                    rfl
                  refine pure_ (i := 16) (N := some 6) (v := ?_) (a' := ?_) #[true, true, true, true, true, true, true, true, true, true, true, true, true, true, true, true, true] rfl rfl (any_of HT_.out (by kernel_rfl)) (fun _ _ _ h => h) (Or.inl ⟨by rfl, ?_⟩) ?_ ?_
                  rotate_left
                  · intro w'
                    go_simp
                    with_reducible rfl
                  rotate_left
                  · simp only [Act.put, List.setIfInBounds_toArray, List.set_cons_zero, List.set_cons_succ, i64_w, i32_w]
                    rfl
                  refine done_ (done_of HT_.out (by kernel_rfl)) ?_
                  try go_wp2
                  go_roundg k2
                  case measure => have := HJ3.out; have := HK2.out; omega
                  case rel => exact ⟨(y264), (wrap64 (x7_2 + 1)), (by first | rfl | (simp; done) | (simp [*]; done)), H', ⟨by have := HJ3.out; have := HK2.out; omega⟩, ⟨by (with_reducible repeat (first | apply Kd.R_alloc | apply Kd.R_drewN | apply Kd.R_drew)); exact Kd.R_mono HO_0.out (fun _ hk => hk.2)⟩, ⟨by (with_reducible repeat (first | apply Kd.R_alloc | apply Kd.R_drewN | apply Kd.R_drew)); exact HO266.out⟩, ⟨by repeat (first | (with_reducible first | exact HB.out | apply below_alloc | apply pw_below_drewN | apply below_drew1) | exact HB.out)⟩⟩
                · rw [if_neg c19] at H
                  exact absurd H (by simp)
              · rw [if_neg c18] at H
                exact absurd H (by simp)
            · rw [if_neg c17] at H
              have c17b0 : decide (x7_2 < (t257.length : Int)) = false := decide_eq_false c17
              clear c17
              obtain ⟨y267, hy267⟩ : ∃ y_ : List (S39), y_ = (([] : List (S39))) := ⟨_, rfl⟩
              replace H : (if y267.length + t257.length < 2932031007402 then ((some (y267 ++ t257 : List (S39))).bind fun y270 => (if y270.length < 2932031007402 then ((change_Items.f (y270 ++ [(⟨IntKind.u64.wrap (t260 + 1), (⟨x1_3, (⟨#[]⟩ : ByteArray), true⟩ : S37)⟩ : S39)])).bind fun t276 => ((change_Items.f t257).bind fun t279 => (cellarerlaw12_ChangeGone.l1 k2 x1_3 x6_2 t276 t279 0 0))) else (none))) else (none)) = some r := by first | (rw [hy267]; with_reducible exact H) | (have H2_ := (Option.bind_some _ _).symm.trans H; rw [hy267]; with_reducible exact H2_) | (have H2_ := (Option.bind_some _ _).symm.trans H; with_reducible exact H2_) | with_reducible exact H | (rw [hy267]; exact H) | exact H
              have Ny267 := Aside0.mk hy267
              clear hy267
              by_cases c22 : y267.length + t257.length < 2932031007402
              · rw [if_pos c22] at H
                have LMc22 := Aside0.mk c22
                clear c22
                obtain ⟨y270, hy270⟩ : ∃ y_ : List (S39), y_ = (y267 ++ t257) := ⟨_, rfl⟩
                replace H : (if y270.length < 2932031007402 then ((change_Items.f (y270 ++ [(⟨IntKind.u64.wrap (t260 + 1), (⟨x1_3, (⟨#[]⟩ : ByteArray), true⟩ : S37)⟩ : S39)])).bind fun t276 => ((change_Items.f t257).bind fun t279 => (cellarerlaw12_ChangeGone.l1 k2 x1_3 x6_2 t276 t279 0 0))) else (none)) = some r := by first | (rw [hy270]; with_reducible exact H) | (have H2_ := (Option.bind_some _ _).symm.trans H; rw [hy270]; with_reducible exact H2_) | (have H2_ := (Option.bind_some _ _).symm.trans H; with_reducible exact H2_) | with_reducible exact H | (rw [hy270]; exact H) | exact H
                have Ny270 := Aside0.mk hy270
                clear hy270
                by_cases c23 : y270.length < 2932031007402
                · rw [if_pos c23] at H
                  have LMc23 := Aside0.mk c23
                  clear c23
                  obtain ⟨y273, hy273⟩ : ∃ y_ : List (S39), y_ = (y270 ++ [(⟨IntKind.u64.wrap (t260 + 1), (⟨x1_3, (⟨#[]⟩ : ByteArray), true⟩ : S37)⟩ : S39)]) := ⟨_, rfl⟩
                  replace H : ((change_Items.f y273).bind fun t276 => ((change_Items.f t257).bind fun t279 => (cellarerlaw12_ChangeGone.l1 k2 x1_3 x6_2 t276 t279 0 0))) = some r := by first | (rw [hy273]; with_reducible exact H) | (have H2_ := (Option.bind_some _ _).symm.trans H; rw [hy273]; with_reducible exact H2_) | (have H2_ := (Option.bind_some _ _).symm.trans H; with_reducible exact H2_) | with_reducible exact H | (rw [hy273]; exact H) | exact H
                  have Ny273 := Aside0.mk hy273
                  clear hy273
                  replace H := Option.bind_eq_some_iff.mp H
                  obtain ⟨t276, A240, H⟩ := H
                  replace H : ((change_Items.f t257).bind fun t279 => (cellarerlaw12_ChangeGone.l1 k2 x1_3 x6_2 t276 t279 0 0)) = some r := H
                  have A24 := Aside0.mk A240
                  clear A240
                  replace H := Option.bind_eq_some_iff.mp H
                  obtain ⟨t279, A250, H⟩ := H
                  replace H : (cellarerlaw12_ChangeGone.l1 k2 x1_3 x6_2 t276 t279 0 0) = some r := H
                  have A25 := Aside0.mk A250
                  clear A250
                  have H' := Aside0.mk H
                  clear H
                  go_wp2_with (first | ((with_reducible refine gate_dst (N := 46) rfl ?_); (try (refine gate_guard (by rfl) ?_; dsimp only)); refine Kd.R_lit k39 _ 39 ?hg (N := 46) ?hd (xs := ([] : List (S39))) (inner := []) (ok := fun _ => True) (okp := fun _ => True) ?hr ?hp (fun _ hk => hk) trivial (Below.refl _ _) (Nat.le_refl _) (by simp) ?_; (case hd => rfl); (case hg => rfl); (case hr => first | (go_simp; done) | (go_simp; rfl)); (case hp => exact (Reps.none _ _)); intro v268 w26 ho27 hb hg_ hnew_; clear hg_ hnew_; (first | rw [← Ny267.out] at ho27 | (simp only [Int.reduceToNat] at ho27; rw [← Ny267.out] at ho27)); have n0_ := Aside0.mk (Kd.R_elder' (by (with_reducible repeat (first | apply Kd.R_alloc | apply Kd.R_drewN | apply Kd.R_drew)); exact HO_0.out) (Kd.R_base ho27) hb); have n1_ := Aside0.mk (Kd.R_elder' (by (with_reducible repeat (first | apply Kd.R_alloc | apply Kd.R_drewN | apply Kd.R_drew)); exact HO_6.out) (Kd.R_base ho27) hb); have n2_ := Aside0.mk (Kd.R_lower (Kd.R_new' (Kd.R_new' ho27 (Kd.R_lt (by (with_reducible repeat (first | apply Kd.R_alloc | apply Kd.R_drewN | apply Kd.R_drew)); exact HO_0.out))) (Kd.R_lt (by (with_reducible repeat (first | apply Kd.R_alloc | apply Kd.R_drewN | apply Kd.R_drew)); exact HO_6.out))) (below_size (by repeat (first | (with_reducible first | exact HB.out | apply below_alloc | apply pw_below_drewN | apply below_drew1) | exact HB.out)))); have n3_ := Aside0.mk (below_step (by repeat (first | (with_reducible first | exact HB.out | apply below_alloc | apply pw_below_drewN | apply below_drew1) | exact HB.out)) hb); clear HO_0; clear HO_6; clear HB; have HO_0 := n0_; have HO_6 := n1_; have HO269 := n2_; have HB := n3_; clear n0_ n1_ n2_ n3_; clear hb ho27) | ((with_reducible refine gate_builtin (b := .append) (xs := #[.tmp 46, .tmp 47]) rfl ?_); (try (refine gate_guard (by rfl) ?_; dsimp only)); at_builtin; refine Kd.R_append_rows k39 (w0 := w) w.heap.size rfl (.tmp 46) (.tmp 47) 22 39 (.agg #[(.int .u64 0), (.string ⟨#[]⟩), (.string ⟨#[]⟩), (.bool false)]) 48 rfl Try.underlying22 info39 rfl (by decide) (by omega) v268 y267 t257 _ _ _ (fun k_ => some k_ ≠ (.slice Ao15 t257.length co15 : Value).ownBlock ∧ some k_ ≠ (u6 : Value).ownBlock) (fun _ => False) rfl rfl ?aO ?aR (fun _ _ h => h) (fun _ h => h.elim) ?aF ?aB ?aS ?aL ?_; (case aR => repeat (first | exact (Kd.R_reads' HO_0.out).2.2 | (with_reducible refine Kd.C_alloc ?_ _) | (with_reducible refine Kd.C_drewN ?_ _) | (with_reducible refine Kd.C_drew ?_))); (case aB => exact (by repeat (first | (with_reducible first | exact HB.out | apply below_alloc | apply pw_below_drewN | apply below_drew1) | exact HB.out))); (case aF => exact (fun k_ hk => ⟨Kd.fresh' (Kd.R_lt (by (with_reducible repeat (first | apply Kd.R_alloc | apply Kd.R_drewN | apply Kd.R_drew)); exact HO_0.out)) k_ hk, Kd.fresh' (Kd.R_lt (by (with_reducible repeat (first | apply Kd.R_alloc | apply Kd.R_drewN | apply Kd.R_drew)); exact HO_6.out)) k_ hk⟩)); (case aO => exact (by (with_reducible repeat (first | apply Kd.R_alloc | apply Kd.R_drewN | apply Kd.R_drew)); exact Kd.R_mono HO269.out (fun _ hk => ⟨hk.1.2, hk.2⟩))); (case aS => exact (below_size (by repeat (first | (with_reducible first | exact HB.out | apply below_alloc | apply pw_below_drewN | apply below_drew1) | exact HB.out)))); (case aL => have := LMc22.out; omega); intro v271 w28 ho hb hg hat; rw [← Ny270.out] at ho; have n0_ := Aside0.mk (Kd.R_after (ok := (fun k_ => some k_ ≠ (u6 : Value).ownBlock)) (by (with_reducible repeat (first | apply Kd.R_alloc | apply Kd.R_drewN | apply Kd.R_drew)); exact HO_0.out) hg hat); have n1_ := Aside0.mk (Kd.R_after (ok := (fun k_ => some k_ ≠ (.slice Ao15 t257.length co15 : Value).ownBlock)) (by (with_reducible repeat (first | apply Kd.R_alloc | apply Kd.R_drewN | apply Kd.R_drew)); exact HO_6.out) hg hat); have n2_ := Aside0.mk (hb); have n3_ := Aside0.mk (ho); clear HO_0; clear HO_6; clear HB; clear HO269; have HO_0 := n0_; have HO_6 := n1_; have HB := n2_; have HO272 := n3_; clear n0_ n1_ n2_ n3_; clear ho hb hg hat) | ((with_reducible refine gate_builtin (b := .append) (xs := #[.tmp 48, .tmp 54]) rfl ?_); (try (refine gate_guard (by rfl) ?_; dsimp only)); at_builtin; refine Kd.R_append k39 (w0 := w) w.heap.size rfl (.tmp 48) (.tmp 54) 22 39 (.agg #[(.int .u64 0), (.string ⟨#[]⟩), (.string ⟨#[]⟩), (.bool false)]) 48 rfl Try.underlying22 info39 rfl (by decide) (by omega) v271 y270 (⟨IntKind.u64.wrap (t260 + 1), (⟨x1_3, (⟨#[]⟩ : ByteArray), true⟩ : S37)⟩ : S39) [.int .u64 (IntKind.u64.wrap (t260 + 1)), .string x1_3, .string (⟨#[]⟩ : ByteArray), .bool true] (fun k_ => some k_ ≠ (.slice Ao15 t257.length co15 : Value).ownBlock ∧ some k_ ≠ (u6 : Value).ownBlock) (fun _ => False) rfl rfl ?aP (fun _ hk => hk.elim) ?aF ?aO ?aB ?aS ?aL ?_; (case aP => exact k39_mkM _ _ _ (⟨IntKind.u64.wrap (t260 + 1), (⟨x1_3, (⟨#[]⟩ : ByteArray), true⟩ : S37)⟩ : S39)); (case aB => exact (by repeat (first | (with_reducible first | exact HB.out | apply below_alloc | apply pw_below_drewN | apply below_drew1) | exact HB.out))); (case aF => exact (fun k_ hk => ⟨Kd.fresh' (Kd.R_lt (by (with_reducible repeat (first | apply Kd.R_alloc | apply Kd.R_drewN | apply Kd.R_drew)); exact HO_0.out)) k_ hk, Kd.fresh' (Kd.R_lt (by (with_reducible repeat (first | apply Kd.R_alloc | apply Kd.R_drewN | apply Kd.R_drew)); exact HO_6.out)) k_ hk⟩)); (case aO => exact (by (with_reducible repeat (first | apply Kd.R_alloc | apply Kd.R_drewN | apply Kd.R_drew)); exact HO272.out)); (case aS => exact (below_size (by repeat (first | (with_reducible first | exact HB.out | apply below_alloc | apply pw_below_drewN | apply below_drew1) | exact HB.out)))); (case aL => have := LMc23.out; omega); intro v274 w29 ho hb hg hat; rw [← Ny273.out] at ho; have n0_ := Aside0.mk (Kd.R_after (ok := (fun k_ => some k_ ≠ (u6 : Value).ownBlock)) (by (with_reducible repeat (first | apply Kd.R_alloc | apply Kd.R_drewN | apply Kd.R_drew)); exact HO_0.out) hg hat); have n1_ := Aside0.mk (Kd.R_after (ok := (fun k_ => some k_ ≠ (.slice Ao15 t257.length co15 : Value).ownBlock)) (by (with_reducible repeat (first | apply Kd.R_alloc | apply Kd.R_drewN | apply Kd.R_drew)); exact HO_6.out) hg hat); have n2_ := Aside0.mk (hb); have n3_ := Aside0.mk (ho); clear HO_0; clear HO_6; clear HB; clear HO272; have HO_0 := n0_; have HO_6 := n1_; have HB := n2_; have HO275 := n3_; clear n0_ n1_ n2_ n3_; clear ho hb hg hat; obtain ⟨Ao30, co30, eo30⟩ := Kd.R_slice HO275.out; subst eo30) | ((with_reducible refine gate_callee (f := 22) rfl ?_); refine goesL_ (some 56) rfl rfl Try.func22 (by kernel_rfl) rfl #[.slice Ao30 y273.length co30] rfl (by (try simp only [List.map_toArray, List.map_cons, List.map_nil]); first | done | rfl | (simp only [List.length_drop, List.length_take]; rfl)) ?_; (with_reducible refine (change_Items.calls _ _ y273 t276 _ ?side1 ?side2 A24.out).mono ?_); (case side1 => repeat (first | exact (Kd.R_reads' HO275.out).2.2 | (with_reducible refine Kd.C_alloc ?_ _) | (with_reducible refine Kd.C_drewN ?_ _) | (with_reducible refine Kd.C_drew ?_))); (case side2 => exact (Kd.R_reads' HO275.out).2.1); rintro e w31 ⟨v277, rfl, ho0, hb⟩; refine ⟨_, rfl, ?_⟩; have n0_ := Aside0.mk (Kd.R_below (by (with_reducible repeat (first | apply Kd.R_alloc | apply Kd.R_drewN | apply Kd.R_drew)); exact HO_0.out) hb); have n1_ := Aside0.mk (Kd.R_below (by (with_reducible repeat (first | apply Kd.R_alloc | apply Kd.R_drewN | apply Kd.R_drew)); exact HO_6.out) hb); have n2_ := Aside0.mk (Kd.R_below (by (with_reducible repeat (first | apply Kd.R_alloc | apply Kd.R_drewN | apply Kd.R_drew)); exact HO275.out) hb); have n3_ := Aside0.mk (Kd.R_lower ho0 (below_size (by repeat (first | (with_reducible first | exact HB.out | apply below_alloc | apply pw_below_drewN | apply below_drew1) | exact HB.out)))); have n4_ := Aside0.mk (below_step (by repeat (first | (with_reducible first | exact HB.out | apply below_alloc | apply pw_below_drewN | apply below_drew1) | exact HB.out)) hb); clear HO_0; clear HO_6; clear HO275; clear HB; have HO_0 := n0_; have HO_6 := n1_; have HO275 := n2_; have HO278 := n3_; have HB := n4_; clear n0_ n1_ n2_ n3_ n4_; (try clear hb); (try clear hb2); (try clear hk); (try clear hi); (try clear ho0)) | ((with_reducible refine gate_callee (f := 22) rfl ?_); refine goesL_ (some 58) rfl rfl Try.func22 (by kernel_rfl) rfl #[.slice Ao15 t257.length co15] rfl (by (try simp only [List.map_toArray, List.map_cons, List.map_nil]); first | done | rfl | (simp only [List.length_drop, List.length_take]; rfl)) ?_; (with_reducible refine (change_Items.calls _ _ t257 t279 _ ?side1 ?side2 A25.out).mono ?_); (case side1 => repeat (first | exact (Kd.R_reads' HO_0.out).2.2 | (with_reducible refine Kd.C_alloc ?_ _) | (with_reducible refine Kd.C_drewN ?_ _) | (with_reducible refine Kd.C_drew ?_))); (case side2 => exact (Kd.R_reads' HO_0.out).2.1); rintro e w32 ⟨v280, rfl, ho0, hb⟩; refine ⟨_, rfl, ?_⟩; have n0_ := Aside0.mk (Kd.R_below (by (with_reducible repeat (first | apply Kd.R_alloc | apply Kd.R_drewN | apply Kd.R_drew)); exact HO_0.out) hb); have n1_ := Aside0.mk (Kd.R_below (by (with_reducible repeat (first | apply Kd.R_alloc | apply Kd.R_drewN | apply Kd.R_drew)); exact HO_6.out) hb); have n2_ := Aside0.mk (Kd.R_below (by (with_reducible repeat (first | apply Kd.R_alloc | apply Kd.R_drewN | apply Kd.R_drew)); exact HO275.out) hb); have n3_ := Aside0.mk (Kd.R_elder' (by (with_reducible repeat (first | apply Kd.R_alloc | apply Kd.R_drewN | apply Kd.R_drew)); exact HO278.out) (Kd.R_base ho0) hb); have n4_ := Aside0.mk (Kd.R_lower (Kd.R_new' ho0 (Kd.R_lt (by (with_reducible repeat (first | apply Kd.R_alloc | apply Kd.R_drewN | apply Kd.R_drew)); exact HO278.out))) (below_size (by repeat (first | (with_reducible first | exact HB.out | apply below_alloc | apply pw_below_drewN | apply below_drew1) | exact HB.out)))); have n5_ := Aside0.mk (below_step (by repeat (first | (with_reducible first | exact HB.out | apply below_alloc | apply pw_below_drewN | apply below_drew1) | exact HB.out)) hb); clear HO_0; clear HO_6; clear HO275; clear HO278; clear HB; have HO_0 := n0_; have HO_6 := n1_; have HO275 := n2_; have HO278 := n3_; have HO281 := n4_; have HB := n5_; clear n0_ n1_ n2_ n3_ n4_ n5_; (try clear hb); (try clear hb2); (try clear hk); (try clear hi); (try clear ho0)))
                  go_loopg [10, 11] k2 (fun kq v10 v11 w' => ∃ (x10_3 : Int) (x11_3 : Int), v10 = .int .i64 x10_3 ∧ v11 = .int .i64 x11_3 ∧ Aside0 (cellarerlaw12_ChangeGone.l1 kq x1_3 x6_2 t276 t279 x10_3 x11_3 = some r) ∧ Aside0 (kq ≤ k2) ∧ Aside0 (Kd.R k39 39 w' w.heap.size (fun _ => True) u6 x6_2) ∧ Aside0 (Kd.R k52 52 w' w.heap.size (fun k_ => some k_ ≠ (v280 : Value).ownBlock) v277 t276) ∧ Aside0 (Kd.R k52 52 w' w.heap.size (fun k_ => some k_ ≠ (v277 : Value).ownBlock) v280 t279) ∧ Aside0 (Below w.heap.size w w'))
                  case atStart => exact ⟨(0), (0), (by first | rfl | (simp; done) | (simp [*]; done)), (by first | rfl | (simp; done) | (simp [*]; done)), H', ⟨Nat.le_refl _⟩, ⟨by (with_reducible repeat (first | apply Kd.R_alloc | apply Kd.R_drewN | apply Kd.R_drew)); exact Kd.R_mono HO_6.out (fun _ hk => trivial)⟩, ⟨by (with_reducible repeat (first | apply Kd.R_alloc | apply Kd.R_drewN | apply Kd.R_drew)); exact Kd.R_mono HO278.out (fun _ hk => hk.2)⟩, ⟨by (with_reducible repeat (first | apply Kd.R_alloc | apply Kd.R_drewN | apply Kd.R_drew)); exact Kd.R_mono HO281.out (fun _ hk => hk.2)⟩, ⟨by repeat (first | (with_reducible first | exact HB.out | apply below_alloc | apply pw_below_drewN | apply below_drew1) | exact HB.out)⟩⟩
                  case round =>
                    clear H'
                    try clear c1
                    try clear c2
                    try clear p2
                    try clear q2
                    try clear hx2
                    try clear c6
                    try clear c6b0
                    try clear c6b1
                    try clear p6
                    try clear c7
                    try clear c7b0
                    try clear c7b1
                    try clear c8
                    try clear c8b0
                    try clear c8b1
                    try clear c10
                    try clear c10b0
                    try clear c10b1
                    try clear c17
                    try clear c17b0
                    try clear c18
                    try clear c18b0
                    try clear c19
                    try clear c22
                    try clear c23
                    try clear p26
                    try clear q26
                    try clear hx26
                    try clear hx262_0
                    try clear hx262_1
                    try clear hx262_2
                    try clear hx262_3
                    try clear hx263_0
                    try clear hx263_1
                    try clear hx263_2
                    try clear hx263_3
                    try clear p2
                    try clear p262
                    try clear p263
                    try clear q262
                    try clear q263
                    obtain ⟨x10_3, x11_3, rfl, rfl, HA, HK3, HO_6, HO_8, HO_9, HB⟩ := hrel
                    cases gk with
                    | zero => exact absurd HA.out (by simp [cellarerlaw12_ChangeGone.l1])
                    | succ k3 =>
                      have H := HA.out
                      clear HA
                      simp only [cellarerlaw12_ChangeGone.l1] at H
                      by_cases c33 : x11_3 < (t279.length : Int)
                      · rw [if_pos c33] at H
                        have c33b0 : decide (x11_3 < (t279.length : Int)) = true := decide_eq_true c33
                        clear c33
                        by_cases c34 : 0 ≤ x11_3
                        · rw [if_pos c34] at H
                          have c34b0 : decide (0 ≤ x11_3) = true := decide_eq_true c34
                          clear c34
                          by_cases c35 : ((rd_T52 t279 x11_3).f0).toList = x1_3.toList
                          · rw [if_pos c35] at H
                            have c35b0 : (((rd_T52 t279 x11_3).f0).toList == x1_3.toList) = true := beq_iff_eq.mpr c35
                            have c35b1 : (((rd_T52 t279 x11_3).f0).toList != x1_3.toList) = false := bne_eq_false_iff_eq.mpr c35
                            clear c35
                            have H' := Aside0.mk H
                            clear H
                            obtain ⟨Ao36, co36, eo36⟩ := Kd.R_slice HO_9.out
                            subst eo36
                            have p286 : 0 ≤ (x11_3 : Int) := of_decide_eq_true (by first | (with_reducible assumption) | assumption)
                            have q286 : x11_3 < (t279.length : Int) := of_decide_eq_true (by first | (with_reducible assumption) | assumption)
                            obtain ⟨ad286, e286, hx286_0, hx286_1⟩ := at_T52 (Kd.R_reads' HO_9.out).2.2 x11_3 p286 q286
                            cases e286
                            replace p286 := eq_true p286
                            replace q286 := eq_true q286
                            go_wp2
                            go_roundg k3
                            case measure => have := HJ3.out; have := HK2.out; have := HK3.out; omega
                            case rel => exact ⟨(x10_3), (wrap64 (x11_3 + 1)), (by first | rfl | (simp; done) | (simp [*]; done)), (by first | rfl | (simp; done) | (simp [*]; done)), H', ⟨by have := HJ3.out; have := HK2.out; have := HK3.out; omega⟩, ⟨by (with_reducible repeat (first | apply Kd.R_alloc | apply Kd.R_drewN | apply Kd.R_drew)); exact HO_6.out⟩, ⟨by (with_reducible repeat (first | apply Kd.R_alloc | apply Kd.R_drewN | apply Kd.R_drew)); exact HO_8.out⟩, ⟨by (with_reducible repeat (first | apply Kd.R_alloc | apply Kd.R_drewN | apply Kd.R_drew)); exact HO_9.out⟩, ⟨by repeat (first | (with_reducible first | exact HB.out | apply below_alloc | apply pw_below_drewN | apply below_drew1) | exact HB.out)⟩⟩
                          · rw [if_neg c35] at H
                            have c35b0 : (((rd_T52 t279 x11_3).f0).toList == x1_3.toList) = false := beq_eq_false_iff_ne.mpr c35
                            have c35b1 : (((rd_T52 t279 x11_3).f0).toList != x1_3.toList) = true := bne_iff_ne.mpr c35
                            by_cases c37 : x10_3 ≥ (t276.length : Int)
                            · rw [if_pos c37] at H
                              have c37b0 : decide ((t276.length : Int) ≤ x10_3) = true := decide_eq_true c37
                              clear c37
                              obtain rfl := Option.some.inj H
                              obtain ⟨Ao38, co38, eo38⟩ := Kd.R_slice HO_9.out
                              subst eo38
                              have p286 : 0 ≤ (x11_3 : Int) := of_decide_eq_true (by first | (with_reducible assumption) | assumption)
                              have q286 : x11_3 < (t279.length : Int) := of_decide_eq_true (by first | (with_reducible assumption) | assumption)
                              obtain ⟨ad286, e286, hx286_0, hx286_1⟩ := at_T52 (Kd.R_reads' HO_9.out).2.2 x11_3 p286 q286
                              cases e286
                              replace p286 := eq_true p286
                              replace q286 := eq_true q286
                              try go_wp2
                              have n0_ := Aside0.mk (Kd.R_drew HO_6.out)
                              have n1_ := Aside0.mk (Kd.R_drew HO_8.out)
                              have n2_ := Aside0.mk (Kd.R_drew HO_9.out)
                              have n3_ := Aside0.mk (below_drew1 HB.out)
                              clear HO_6
                              clear HO_8
                              clear HO_9
                              clear HB
                              have HO_6 := n0_
                              have HO_8 := n1_
                              have HO_9 := n2_
                              have HB := n3_
                              clear n0_ n1_ n2_ n3_
                              obtain ⟨Ao40, co40, eo40⟩ := Kd.R_slice HO_8.out
                              (first | subst eo40 | (injection eo40 with f1_ f2_ f3_; have f4_ := f1_.symm; have f5_ := f3_.symm; clear f1_ f2_ f3_; subst f4_; subst f5_))
                              refine start_ (n := 15) (S := fun w' => True) (ds := []) #[false, false, false, false, false, false, false, false, false, false, false, false, false, false, false] (by kernel_rfl) rfl rfl trivial (fun hHeld => ?_); refine with_tabW cellarerlaw12_ChangeGone.tab19 cellarerlaw12_ChangeGone.bits19 (fun HT_ HW_ => ?_)
                              generalize wr.drew = w39 at HO_6 HO_8 HO_9 HB hHeld ⊢
                              refine pure_ (i := 0) (N := some 72) (v := ?_) (a' := ?_) #[true, false, false, false, false, false, false, false, false, false, false, false, false, false, false] rfl rfl (any_of HT_.out (by kernel_rfl)) (fun _ _ _ h => h) (Or.inl ⟨by rfl, ?_⟩) ?_ ?_
                              rotate_left
                              · intro w'
                                go_simp
                                with_reducible rfl
                              rotate_left
                              · simp only [Act.put, List.setIfInBounds_toArray, List.set_cons_zero, List.set_cons_succ, i64_w, i32_w]
                                rfl
                              refine pure_ (i := 1) (N := some 73) (v := ?_) (a' := ?_) #[true, true, false, false, false, false, false, false, false, false, false, false, false, false, false] rfl rfl (any_of HT_.out (by kernel_rfl)) (fun _ _ _ h => h) (Or.inl ⟨by rfl, ?_⟩) ?_ ?_
                              rotate_left
                              · intro w'
                                go_simp
                                with_reducible rfl
                              rotate_left
                              · simp only [Act.put, List.setIfInBounds_toArray, List.set_cons_zero, List.set_cons_succ, i64_w, i32_w]
                                rfl
                              refine pure_ (i := 2) (N := some 74) (v := ?_) (a' := ?_) #[true, true, true, false, false, false, false, false, false, false, false, false, false, false, false] rfl rfl (any_of HT_.out (by kernel_rfl)) (fun _ _ _ h => h) (Or.inl ⟨by rfl, ?_⟩) ?_ ?_
                              rotate_left
                              · intro w'
                                go_simp
                                with_reducible rfl
                              rotate_left
                              · simp only [Act.put, List.setIfInBounds_toArray, List.set_cons_zero, List.set_cons_succ, i64_w, i32_w]
                                rfl
                              refine pure_ (i := 3) (N := some 75) (v := ?_) (a' := ?_) #[true, true, true, true, false, false, false, false, false, false, false, false, false, false, false] rfl rfl (any_of HT_.out (by kernel_rfl)) (fun _ _ _ h => h) (Or.inl ⟨by rfl, ?_⟩) ?_ ?_
                              rotate_left
                              · intro w'
                                go_simp
                                with_reducible rfl
                              rotate_left
                              · simp only [Act.put, List.setIfInBounds_toArray, List.set_cons_zero, List.set_cons_succ, i64_w, i32_w]
                                rfl
                              refine pure_ (i := 4) (N := some 76) (v := ?_) (a' := ?_) #[true, true, true, true, true, false, false, false, false, false, false, false, false, false, false] rfl rfl (any_of HT_.out (by kernel_rfl)) (fun _ _ _ h => h) (Or.inl ⟨by rfl, ?_⟩) ?_ ?_
                              rotate_left
                              · intro w'
                                go_simp
                                with_reducible rfl
                              rotate_left
                              · simp only [Act.put, List.setIfInBounds_toArray, List.set_cons_zero, List.set_cons_succ, i64_w, i32_w]
                                rfl
                              refine pure_ (i := 5) (N := some 77) (v := undef) (a' := ?_) #[true, true, true, true, true, true, false, false, false, false, false, false, false, false, false] rfl rfl (any_of HT_.out (by kernel_rfl)) (fun _ _ _ h => h) (Or.inr ⟨by rfl, rfl⟩) ?_ ?_
                              rotate_left
                              · simp only [Act.put, List.setIfInBounds_toArray, List.set_cons_zero, List.set_cons_succ, i64_w, i32_w]
                                rfl
                              refine pure_ (i := 6) (N := some 78) (v := undef) (a' := ?_) #[true, true, true, true, true, true, true, false, false, false, false, false, false, false, false] rfl rfl (any_of HT_.out (by kernel_rfl)) (fun _ _ _ h => h) (Or.inr ⟨by rfl, rfl⟩) ?_ ?_
                              rotate_left
                              · simp only [Act.put, List.setIfInBounds_toArray, List.set_cons_zero, List.set_cons_succ, i64_w, i32_w]
                                rfl
                              refine pure_ (i := 7) (N := some 79) (v := undef) (a' := ?_) #[true, true, true, true, true, true, true, true, false, false, false, false, false, false, false] rfl rfl (any_of HT_.out (by kernel_rfl)) (fun _ _ _ h => h) (Or.inr ⟨by rfl, rfl⟩) ?_ ?_
                              rotate_left
                              · simp only [Act.put, List.setIfInBounds_toArray, List.set_cons_zero, List.set_cons_succ, i64_w, i32_w]
                                rfl
                              refine pure_ (i := 8) (N := some 80) (v := undef) (a' := ?_) #[true, true, true, true, true, true, true, true, true, false, false, false, false, false, false] rfl rfl (any_of HT_.out (by kernel_rfl)) (fun _ _ _ h => h) (Or.inr ⟨by rfl, rfl⟩) ?_ ?_
                              rotate_left
                              · simp only [Act.put, List.setIfInBounds_toArray, List.set_cons_zero, List.set_cons_succ, i64_w, i32_w]
                                rfl
                              refine pure_ (i := 9) (N := some 81) (v := undef) (a' := ?_) #[true, true, true, true, true, true, true, true, true, true, false, false, false, false, false] rfl rfl (any_of HT_.out (by kernel_rfl)) (fun _ _ _ h => h) (Or.inr ⟨by rfl, rfl⟩) ?_ ?_
                              rotate_left
                              · simp only [Act.put, List.setIfInBounds_toArray, List.set_cons_zero, List.set_cons_succ, i64_w, i32_w]
                                rfl
                              refine pure_ (i := 10) (N := some 82) (v := undef) (a' := ?_) #[true, true, true, true, true, true, true, true, true, true, true, false, false, false, false] rfl rfl (any_of HT_.out (by kernel_rfl)) (fun _ _ _ h => h) (Or.inr ⟨by rfl, rfl⟩) ?_ ?_
                              rotate_left
                              · simp only [Act.put, List.setIfInBounds_toArray, List.set_cons_zero, List.set_cons_succ, i64_w, i32_w]
                                rfl
                              refine pure_ (i := 11) (N := some 83) (v := undef) (a' := ?_) #[true, true, true, true, true, true, true, true, true, true, true, true, false, false, false] rfl rfl (any_of HT_.out (by kernel_rfl)) (fun _ _ _ h => h) (Or.inr ⟨by rfl, rfl⟩) ?_ ?_
                              rotate_left
                              · simp only [Act.put, List.setIfInBounds_toArray, List.set_cons_zero, List.set_cons_succ, i64_w, i32_w]
                                rfl
                              refine pure_ (i := 12) (N := some 84) (v := undef) (a' := ?_) #[true, true, true, true, true, true, true, true, true, true, true, true, true, false, false] rfl rfl (any_of HT_.out (by kernel_rfl)) (fun _ _ _ h => h) (Or.inr ⟨by rfl, rfl⟩) ?_ ?_
                              rotate_left
                              · simp only [Act.put, List.setIfInBounds_toArray, List.set_cons_zero, List.set_cons_succ, i64_w, i32_w]
                                rfl
                              refine pure_ (i := 13) (N := some 85) (v := undef) (a' := ?_) #[true, true, true, true, true, true, true, true, true, true, true, true, true, true, false] rfl rfl (any_of HT_.out (by kernel_rfl)) (fun _ _ _ h => h) (Or.inr ⟨by rfl, rfl⟩) ?_ ?_
                              rotate_left
                              · simp only [Act.put, List.setIfInBounds_toArray, List.set_cons_zero, List.set_cons_succ, i64_w, i32_w]
                                rfl
                              refine pure_ (i := 14) (N := some 86) (v := ?_) (a' := ?_) #[true, true, true, true, true, true, true, true, true, true, true, true, true, true, true] rfl rfl (any_of HT_.out (by kernel_rfl)) (fun _ _ _ h => h) (Or.inl ⟨by rfl, ?_⟩) ?_ ?_
                              rotate_left
                              · intro w'
                                go_simp
                                with_reducible rfl
                              rotate_left
                              · simp only [Act.put, List.setIfInBounds_toArray, List.set_cons_zero, List.set_cons_succ, i64_w, i32_w]
                                rfl
                              refine done_ (done_of HT_.out (by kernel_rfl)) ?_
                              try go_wp2
                              go_ret
                              exact ⟨by first | rfl | (simp [errW_none, errW_some] <;> rfl) | (simp [*, errW_none, errW_some] <;> rfl), by repeat (first | (with_reducible first | exact HB.out | apply below_alloc | apply pw_below_drewN | apply below_drew1) | exact HB.out)⟩
                            · rw [if_neg c37] at H
                              have c37b0 : decide ((t276.length : Int) ≤ x10_3) = false := decide_eq_false c37
                              clear c37
                              by_cases c41 : 0 ≤ x10_3
                              · rw [if_pos c41] at H
                                have c41b0 : decide (0 ≤ x10_3) = true := decide_eq_true c41
                                clear c41
                                by_cases c42 : x10_3 < (t276.length : Int)
                                · rw [if_pos c42] at H
                                  have c42b0 : decide (x10_3 < (t276.length : Int)) = true := decide_eq_true c42
                                  clear c42
                                  by_cases c43 : (!((((rd_T52 t276 x10_3).f0).toList) == (((rd_T52 t279 x11_3).f0).toList)) || (!((((rd_T52 t276 x10_3).f1).toList) == (((rd_T52 t279 x11_3).f1).toList)))) = true
                                  · rw [if_pos c43] at H
                                    have c43b0 : (!((((rd_T52 t276 x10_3).f0).toList) == (((rd_T52 t279 x11_3).f0).toList)) || (!((((rd_T52 t276 x10_3).f1).toList) == (((rd_T52 t279 x11_3).f1).toList)))) = true := c43
                                    clear c43
                                    obtain rfl := Option.some.inj H
                                    obtain ⟨Ao44, co44, eo44⟩ := Kd.R_slice HO_9.out
                                    subst eo44
                                    have p286 : 0 ≤ (x11_3 : Int) := of_decide_eq_true (by first | (with_reducible assumption) | assumption)
                                    have q286 : x11_3 < (t279.length : Int) := of_decide_eq_true (by first | (with_reducible assumption) | assumption)
                                    obtain ⟨ad286, e286, hx286_0, hx286_1⟩ := at_T52 (Kd.R_reads' HO_9.out).2.2 x11_3 p286 q286
                                    cases e286
                                    replace p286 := eq_true p286
                                    replace q286 := eq_true q286
                                    try go_wp2
                                    have n0_ := Aside0.mk (Kd.R_drew HO_6.out)
                                    have n1_ := Aside0.mk (Kd.R_drew HO_8.out)
                                    have n2_ := Aside0.mk (Kd.R_drew HO_9.out)
                                    have n3_ := Aside0.mk (below_drew1 HB.out)
                                    clear HO_6
                                    clear HO_8
                                    clear HO_9
                                    clear HB
                                    have HO_6 := n0_
                                    have HO_8 := n1_
                                    have HO_9 := n2_
                                    have HB := n3_
                                    clear n0_ n1_ n2_ n3_
                                    obtain ⟨Ao46, co46, eo46⟩ := Kd.R_slice HO_8.out
                                    (first | subst eo46 | (injection eo46 with f1_ f2_ f3_; have f4_ := f1_.symm; have f5_ := f3_.symm; clear f1_ f2_ f3_; subst f4_; subst f5_))
                                    have p287 : 0 ≤ (x10_3 : Int) := of_decide_eq_true (by first | (with_reducible assumption) | assumption)
                                    have q287 : x10_3 < (t276.length : Int) := of_decide_eq_true (by first | (with_reducible assumption) | assumption)
                                    obtain ⟨ad287, e287, hx287_0, hx287_1⟩ := at_T52 (Kd.R_reads' HO_8.out).2.2 x10_3 p287 q287
                                    cases e287
                                    replace p287 := eq_true p287
                                    replace q287 := eq_true q287
                                    have p288 : 0 ≤ (x11_3 : Int) := of_decide_eq_true (by first | (with_reducible assumption) | assumption)
                                    have q288 : x11_3 < (t279.length : Int) := of_decide_eq_true (by first | (with_reducible assumption) | assumption)
                                    obtain ⟨ad288, e288, hx288_0, hx288_1⟩ := at_T52 (Kd.R_reads' HO_9.out).2.2 x11_3 p288 q288
                                    obtain rfl : ad286 = ad288 := (by injection e288)
                                    replace p288 := eq_true p288
                                    replace q288 := eq_true q288
                                    refine start_ (n := 15) (S := fun w' => w'.cell? (ad287.add ((x10_3).toNat * 2)) = some (.string ((rd_T52 t276 x10_3).f0)) ∧ w'.cell? ⟨(ad287.add ((x10_3).toNat * 2)).block, (ad287.add ((x10_3).toNat * 2)).off + 1, none⟩ = some (.string ((rd_T52 t276 x10_3).f1)) ∧ w'.cell? (ad286.add ((x11_3).toNat * 2)) = some (.string ((rd_T52 t279 x11_3).f0)) ∧ w'.cell? ⟨(ad286.add ((x11_3).toNat * 2)).block, (ad286.add ((x11_3).toNat * 2)).off + 1, none⟩ = some (.string ((rd_T52 t279 x11_3).f1))) (ds := []) #[false, false, false, false, false, false, false, false, false, false, false, false, false, false, false] (by kernel_rfl) rfl rfl ⟨hx287_0, hx287_1, hx288_0, hx288_1⟩ (fun hHeld => ?_); refine with_tabW cellarerlaw12_ChangeGone.tab19 cellarerlaw12_ChangeGone.bits19 (fun HT_ HW_ => ?_)
                                    generalize wr.drew = w45 at HO_6 HO_8 HO_9 HB hx287_0 hx287_1 hx288_0 hx288_1 hHeld ⊢
                                    refine pure_ (i := 0) (N := some 72) (v := ?_) (a' := ?_) #[true, false, false, false, false, false, false, false, false, false, false, false, false, false, false] rfl rfl (any_of HT_.out (by kernel_rfl)) (fun _ _ _ h => h) (Or.inl ⟨by rfl, ?_⟩) ?_ ?_
                                    rotate_left
                                    · intro w'
                                      go_simp
                                      with_reducible rfl
                                    rotate_left
                                    · simp only [Act.put, List.setIfInBounds_toArray, List.set_cons_zero, List.set_cons_succ, i64_w, i32_w]
                                      rfl
                                    refine pure_ (i := 1) (N := some 73) (v := ?_) (a' := ?_) #[true, true, false, false, false, false, false, false, false, false, false, false, false, false, false] rfl rfl (any_of HT_.out (by kernel_rfl)) (fun _ _ _ h => h) (Or.inl ⟨by rfl, ?_⟩) ?_ ?_
                                    rotate_left
                                    · intro w'
                                      go_simp
                                      with_reducible rfl
                                    rotate_left
                                    · simp only [Act.put, List.setIfInBounds_toArray, List.set_cons_zero, List.set_cons_succ, i64_w, i32_w]
                                      rfl
                                    refine pure_ (i := 2) (N := some 74) (v := ?_) (a' := ?_) #[true, true, true, false, false, false, false, false, false, false, false, false, false, false, false] rfl rfl (any_of HT_.out (by kernel_rfl)) (fun _ _ _ h => h) (Or.inl ⟨by rfl, ?_⟩) ?_ ?_
                                    rotate_left
                                    · intro w'
                                      go_simp
                                      with_reducible rfl
                                    rotate_left
                                    · simp only [Act.put, List.setIfInBounds_toArray, List.set_cons_zero, List.set_cons_succ, i64_w, i32_w]
                                      rfl
                                    refine pure_ (i := 3) (N := some 75) (v := ?_) (a' := ?_) #[true, true, true, true, false, false, false, false, false, false, false, false, false, false, false] rfl rfl (any_of HT_.out (by kernel_rfl)) (fun _ _ _ h => h) (Or.inl ⟨by rfl, ?_⟩) ?_ ?_
                                    rotate_left
                                    · intro w'
                                      go_simp
                                      with_reducible rfl
                                    rotate_left
                                    · simp only [Act.put, List.setIfInBounds_toArray, List.set_cons_zero, List.set_cons_succ, i64_w, i32_w]
                                      rfl
                                    refine pure_ (i := 4) (N := some 76) (v := ?_) (a' := ?_) #[true, true, true, true, true, false, false, false, false, false, false, false, false, false, false] rfl rfl (any_of HT_.out (by kernel_rfl)) (fun _ _ _ h => h) (Or.inl ⟨by rfl, ?_⟩) ?_ ?_
                                    rotate_left
                                    · intro w'
                                      go_simp
                                      with_reducible rfl
                                    rotate_left
                                    · simp only [Act.put, List.setIfInBounds_toArray, List.set_cons_zero, List.set_cons_succ, i64_w, i32_w]
                                      rfl
                                    refine pure_ (i := 5) (N := some 77) (v := ?_) (a' := ?_) #[true, true, true, true, true, true, false, false, false, false, false, false, false, false, false] rfl rfl (any_of HT_.out (by kernel_rfl)) (fun _ _ _ h => h) (Or.inl ⟨by rfl, ?_⟩) ?_ ?_
                                    rotate_left
                                    · intro w'
                                      go_simp
                                      with_reducible rfl
                                    rotate_left
                                    · simp only [Act.put, List.setIfInBounds_toArray, List.set_cons_zero, List.set_cons_succ, i64_w, i32_w]
                                      rfl
                                    refine pure_ (i := 6) (N := some 78) (v := ?_) (a' := ?_) #[true, true, true, true, true, true, true, false, false, false, false, false, false, false, false] rfl rfl (any_of HT_.out (by kernel_rfl)) (fun _ _ _ h => h) (Or.inl ⟨by rfl, ?_⟩) ?_ ?_
                                    rotate_left
                                    · intro w'
                                      go_simp
                                      with_reducible rfl
                                    rotate_left
                                    · simp only [Act.put, List.setIfInBounds_toArray, List.set_cons_zero, List.set_cons_succ, i64_w, i32_w]
                                      rfl
                                    refine pure_ (i := 7) (N := some 79) (v := ?_) (a' := ?_) #[true, true, true, true, true, true, true, true, false, false, false, false, false, false, false] rfl rfl (any_of HT_.out (by kernel_rfl)) (fun _ _ _ h => h) (Or.inl ⟨by rfl, ?_⟩) ?_ ?_
                                    rotate_left
                                    · intro w'
                                      go_simp
                                      with_reducible rfl
                                    rotate_left
                                    · simp only [Act.put, List.setIfInBounds_toArray, List.set_cons_zero, List.set_cons_succ, i64_w, i32_w]
                                      rfl
                                    refine pure_ (i := 9) (N := some 81) (v := ?_) (a' := ?_) #[true, true, true, true, true, true, true, true, false, true, false, false, false, false, false] rfl rfl (any_of HT_.out (by kernel_rfl)) (fun _ _ _ h => h) (Or.inl ⟨by rfl, ?_⟩) ?_ ?_
                                    rotate_left
                                    · intro w'
                                      go_simp
                                      with_reducible rfl
                                    rotate_left
                                    · simp only [Act.put, List.setIfInBounds_toArray, List.set_cons_zero, List.set_cons_succ, i64_w, i32_w]
                                      rfl
                                    refine pure_ (i := 10) (N := some 82) (v := ?_) (a' := ?_) #[true, true, true, true, true, true, true, true, false, true, true, false, false, false, false] rfl rfl (any_of HT_.out (by kernel_rfl)) (fun _ _ _ h => h) (Or.inl ⟨by rfl, ?_⟩) ?_ ?_
                                    rotate_left
                                    · intro w'
                                      go_simp
                                      with_reducible rfl
                                    rotate_left
                                    · simp only [Act.put, List.setIfInBounds_toArray, List.set_cons_zero, List.set_cons_succ, i64_w, i32_w]
                                      rfl
                                    refine pure_ (i := 11) (N := some 83) (v := ?_) (a' := ?_) #[true, true, true, true, true, true, true, true, false, true, true, true, false, false, false] rfl rfl (any_of HT_.out (by kernel_rfl)) (fun _ _ _ h => h) (Or.inl ⟨by rfl, ?_⟩) ?_ ?_
                                    rotate_left
                                    · intro w'
                                      go_simp
                                      with_reducible rfl
                                    rotate_left
                                    · simp only [Act.put, List.setIfInBounds_toArray, List.set_cons_zero, List.set_cons_succ, i64_w, i32_w]
                                      rfl
                                    refine take_ (i := 8) (N := some 80) (v := ?_) (a' := ?_) #[true, true, true, true, true, true, true, true, true, true, true, true, false, false, false] rfl rfl (take_ofW HT_.out HW_.out (by kernel_rfl)) (fun _ _ _ h => h) (Or.inl ⟨by rfl, ?_⟩) hHeld ?_ ?_
                                    rotate_left
                                    · rintro w' ⟨s0, s1, s2, s3⟩
                                      go_simp
                                      with_reducible rfl
                                    rotate_left
                                    · simp only [Act.put, List.setIfInBounds_toArray, List.set_cons_zero, List.set_cons_succ, i64_w, i32_w]
                                      rfl
                                    refine take_ (i := 12) (N := some 84) (v := ?_) (a' := ?_) #[true, true, true, true, true, true, true, true, true, true, true, true, true, false, false] rfl rfl (take_ofW HT_.out HW_.out (by kernel_rfl)) (fun _ _ _ h => h) (Or.inl ⟨by rfl, ?_⟩) hHeld ?_ ?_
                                    rotate_left
                                    · rintro w' ⟨s0, s1, s2, s3⟩
                                      go_simp
                                      with_reducible rfl
                                    rotate_left
                                    · simp only [Act.put, List.setIfInBounds_toArray, List.set_cons_zero, List.set_cons_succ, i64_w, i32_w]
                                      rfl
                                    refine pure_ (i := 13) (N := some 85) (v := ?_) (a' := ?_) #[true, true, true, true, true, true, true, true, true, true, true, true, true, true, false] rfl rfl (any_of HT_.out (by kernel_rfl)) (fun _ _ _ h => h) (Or.inl ⟨by rfl, ?_⟩) ?_ ?_
                                    rotate_left
                                    · intro w'
                                      go_simp
                                      with_reducible rfl
                                    rotate_left
                                    · simp only [Act.put, List.setIfInBounds_toArray, List.set_cons_zero, List.set_cons_succ, i64_w, i32_w]
                                      rfl
                                    refine pure_ (i := 14) (N := some 86) (v := ?_) (a' := ?_) #[true, true, true, true, true, true, true, true, true, true, true, true, true, true, true] rfl rfl (any_of HT_.out (by kernel_rfl)) (fun _ _ _ h => h) (Or.inl ⟨by rfl, ?_⟩) ?_ ?_
                                    rotate_left
                                    · intro w'
                                      go_simp
                                      with_reducible rfl
                                    rotate_left
                                    · simp only [Act.put, List.setIfInBounds_toArray, List.set_cons_zero, List.set_cons_succ, i64_w, i32_w]
                                      rfl
                                    refine done_ (done_of HT_.out (by kernel_rfl)) ?_
                                    try go_wp2
                                    go_ret
                                    exact ⟨by first | rfl | (simp [errW_none, errW_some] <;> rfl) | (simp [*, errW_none, errW_some] <;> rfl), by repeat (first | (with_reducible first | exact HB.out | apply below_alloc | apply pw_below_drewN | apply below_drew1) | exact HB.out)⟩
                                  · rw [if_neg c43] at H
                                    have c43b0 : (!((((rd_T52 t276 x10_3).f0).toList) == (((rd_T52 t279 x11_3).f0).toList)) || (!((((rd_T52 t276 x10_3).f1).toList) == (((rd_T52 t279 x11_3).f1).toList)))) = false := by simpa using c43
                                    clear c43
                                    have H' := Aside0.mk H
                                    clear H
                                    obtain ⟨Ao47, co47, eo47⟩ := Kd.R_slice HO_9.out
                                    subst eo47
                                    have p286 : 0 ≤ (x11_3 : Int) := of_decide_eq_true (by first | (with_reducible assumption) | assumption)
                                    have q286 : x11_3 < (t279.length : Int) := of_decide_eq_true (by first | (with_reducible assumption) | assumption)
                                    obtain ⟨ad286, e286, hx286_0, hx286_1⟩ := at_T52 (Kd.R_reads' HO_9.out).2.2 x11_3 p286 q286
                                    cases e286
                                    replace p286 := eq_true p286
                                    replace q286 := eq_true q286
                                    try go_wp2
                                    have n0_ := Aside0.mk (Kd.R_drew HO_6.out)
                                    have n1_ := Aside0.mk (Kd.R_drew HO_8.out)
                                    have n2_ := Aside0.mk (Kd.R_drew HO_9.out)
                                    have n3_ := Aside0.mk (below_drew1 HB.out)
                                    clear HO_6
                                    clear HO_8
                                    clear HO_9
                                    clear HB
                                    have HO_6 := n0_
                                    have HO_8 := n1_
                                    have HO_9 := n2_
                                    have HB := n3_
                                    clear n0_ n1_ n2_ n3_
                                    obtain ⟨Ao49, co49, eo49⟩ := Kd.R_slice HO_8.out
                                    (first | subst eo49 | (injection eo49 with f1_ f2_ f3_; have f4_ := f1_.symm; have f5_ := f3_.symm; clear f1_ f2_ f3_; subst f4_; subst f5_))
                                    have p287 : 0 ≤ (x10_3 : Int) := of_decide_eq_true (by first | (with_reducible assumption) | assumption)
                                    have q287 : x10_3 < (t276.length : Int) := of_decide_eq_true (by first | (with_reducible assumption) | assumption)
                                    obtain ⟨ad287, e287, hx287_0, hx287_1⟩ := at_T52 (Kd.R_reads' HO_8.out).2.2 x10_3 p287 q287
                                    cases e287
                                    replace p287 := eq_true p287
                                    replace q287 := eq_true q287
                                    have p288 : 0 ≤ (x11_3 : Int) := of_decide_eq_true (by first | (with_reducible assumption) | assumption)
                                    have q288 : x11_3 < (t279.length : Int) := of_decide_eq_true (by first | (with_reducible assumption) | assumption)
                                    obtain ⟨ad288, e288, hx288_0, hx288_1⟩ := at_T52 (Kd.R_reads' HO_9.out).2.2 x11_3 p288 q288
                                    obtain rfl : ad286 = ad288 := (by injection e288)
                                    replace p288 := eq_true p288
                                    replace q288 := eq_true q288
                                    refine start_ (n := 15) (S := fun w' => w'.cell? (ad287.add ((x10_3).toNat * 2)) = some (.string ((rd_T52 t276 x10_3).f0)) ∧ w'.cell? ⟨(ad287.add ((x10_3).toNat * 2)).block, (ad287.add ((x10_3).toNat * 2)).off + 1, none⟩ = some (.string ((rd_T52 t276 x10_3).f1)) ∧ w'.cell? (ad286.add ((x11_3).toNat * 2)) = some (.string ((rd_T52 t279 x11_3).f0)) ∧ w'.cell? ⟨(ad286.add ((x11_3).toNat * 2)).block, (ad286.add ((x11_3).toNat * 2)).off + 1, none⟩ = some (.string ((rd_T52 t279 x11_3).f1))) (ds := []) #[false, false, false, false, false, false, false, false, false, false, false, false, false, false, false] (by kernel_rfl) rfl rfl ⟨hx287_0, hx287_1, hx288_0, hx288_1⟩ (fun hHeld => ?_); refine with_tabW cellarerlaw12_ChangeGone.tab19 cellarerlaw12_ChangeGone.bits19 (fun HT_ HW_ => ?_)
                                    generalize wr.drew = w48 at HO_6 HO_8 HO_9 HB hx287_0 hx287_1 hx288_0 hx288_1 hHeld ⊢
                                    refine pure_ (i := 0) (N := some 72) (v := ?_) (a' := ?_) #[true, false, false, false, false, false, false, false, false, false, false, false, false, false, false] rfl rfl (any_of HT_.out (by kernel_rfl)) (fun _ _ _ h => h) (Or.inl ⟨by rfl, ?_⟩) ?_ ?_
                                    rotate_left
                                    · intro w'
                                      go_simp
                                      with_reducible rfl
                                    rotate_left
                                    · simp only [Act.put, List.setIfInBounds_toArray, List.set_cons_zero, List.set_cons_succ, i64_w, i32_w]
                                      rfl
                                    refine pure_ (i := 1) (N := some 73) (v := ?_) (a' := ?_) #[true, true, false, false, false, false, false, false, false, false, false, false, false, false, false] rfl rfl (any_of HT_.out (by kernel_rfl)) (fun _ _ _ h => h) (Or.inl ⟨by rfl, ?_⟩) ?_ ?_
                                    rotate_left
                                    · intro w'
                                      go_simp
                                      with_reducible rfl
                                    rotate_left
                                    · simp only [Act.put, List.setIfInBounds_toArray, List.set_cons_zero, List.set_cons_succ, i64_w, i32_w]
                                      rfl
                                    refine pure_ (i := 2) (N := some 74) (v := ?_) (a' := ?_) #[true, true, true, false, false, false, false, false, false, false, false, false, false, false, false] rfl rfl (any_of HT_.out (by kernel_rfl)) (fun _ _ _ h => h) (Or.inl ⟨by rfl, ?_⟩) ?_ ?_
                                    rotate_left
                                    · intro w'
                                      go_simp
                                      with_reducible rfl
                                    rotate_left
                                    · simp only [Act.put, List.setIfInBounds_toArray, List.set_cons_zero, List.set_cons_succ, i64_w, i32_w]
                                      rfl
                                    refine pure_ (i := 3) (N := some 75) (v := ?_) (a' := ?_) #[true, true, true, true, false, false, false, false, false, false, false, false, false, false, false] rfl rfl (any_of HT_.out (by kernel_rfl)) (fun _ _ _ h => h) (Or.inl ⟨by rfl, ?_⟩) ?_ ?_
                                    rotate_left
                                    · intro w'
                                      go_simp
                                      with_reducible rfl
                                    rotate_left
                                    · simp only [Act.put, List.setIfInBounds_toArray, List.set_cons_zero, List.set_cons_succ, i64_w, i32_w]
                                      rfl
                                    refine pure_ (i := 4) (N := some 76) (v := ?_) (a' := ?_) #[true, true, true, true, true, false, false, false, false, false, false, false, false, false, false] rfl rfl (any_of HT_.out (by kernel_rfl)) (fun _ _ _ h => h) (Or.inl ⟨by rfl, ?_⟩) ?_ ?_
                                    rotate_left
                                    · intro w'
                                      go_simp
                                      with_reducible rfl
                                    rotate_left
                                    · simp only [Act.put, List.setIfInBounds_toArray, List.set_cons_zero, List.set_cons_succ, i64_w, i32_w]
                                      rfl
                                    refine pure_ (i := 5) (N := some 77) (v := ?_) (a' := ?_) #[true, true, true, true, true, true, false, false, false, false, false, false, false, false, false] rfl rfl (any_of HT_.out (by kernel_rfl)) (fun _ _ _ h => h) (Or.inl ⟨by rfl, ?_⟩) ?_ ?_
                                    rotate_left
                                    · intro w'
                                      go_simp
                                      with_reducible rfl
                                    rotate_left
                                    · simp only [Act.put, List.setIfInBounds_toArray, List.set_cons_zero, List.set_cons_succ, i64_w, i32_w]
                                      rfl
                                    refine pure_ (i := 6) (N := some 78) (v := ?_) (a' := ?_) #[true, true, true, true, true, true, true, false, false, false, false, false, false, false, false] rfl rfl (any_of HT_.out (by kernel_rfl)) (fun _ _ _ h => h) (Or.inl ⟨by rfl, ?_⟩) ?_ ?_
                                    rotate_left
                                    · intro w'
                                      go_simp
                                      with_reducible rfl
                                    rotate_left
                                    · simp only [Act.put, List.setIfInBounds_toArray, List.set_cons_zero, List.set_cons_succ, i64_w, i32_w]
                                      rfl
                                    refine pure_ (i := 7) (N := some 79) (v := ?_) (a' := ?_) #[true, true, true, true, true, true, true, true, false, false, false, false, false, false, false] rfl rfl (any_of HT_.out (by kernel_rfl)) (fun _ _ _ h => h) (Or.inl ⟨by rfl, ?_⟩) ?_ ?_
                                    rotate_left
                                    · intro w'
                                      go_simp
                                      with_reducible rfl
                                    rotate_left
                                    · simp only [Act.put, List.setIfInBounds_toArray, List.set_cons_zero, List.set_cons_succ, i64_w, i32_w]
                                      rfl
                                    refine pure_ (i := 9) (N := some 81) (v := ?_) (a' := ?_) #[true, true, true, true, true, true, true, true, false, true, false, false, false, false, false] rfl rfl (any_of HT_.out (by kernel_rfl)) (fun _ _ _ h => h) (Or.inl ⟨by rfl, ?_⟩) ?_ ?_
                                    rotate_left
                                    · intro w'
                                      go_simp
                                      with_reducible rfl
                                    rotate_left
                                    · simp only [Act.put, List.setIfInBounds_toArray, List.set_cons_zero, List.set_cons_succ, i64_w, i32_w]
                                      rfl
                                    refine pure_ (i := 10) (N := some 82) (v := ?_) (a' := ?_) #[true, true, true, true, true, true, true, true, false, true, true, false, false, false, false] rfl rfl (any_of HT_.out (by kernel_rfl)) (fun _ _ _ h => h) (Or.inl ⟨by rfl, ?_⟩) ?_ ?_
                                    rotate_left
                                    · intro w'
                                      go_simp
                                      with_reducible rfl
                                    rotate_left
                                    · simp only [Act.put, List.setIfInBounds_toArray, List.set_cons_zero, List.set_cons_succ, i64_w, i32_w]
                                      rfl
                                    refine pure_ (i := 11) (N := some 83) (v := ?_) (a' := ?_) #[true, true, true, true, true, true, true, true, false, true, true, true, false, false, false] rfl rfl (any_of HT_.out (by kernel_rfl)) (fun _ _ _ h => h) (Or.inl ⟨by rfl, ?_⟩) ?_ ?_
                                    rotate_left
                                    · intro w'
                                      go_simp
                                      with_reducible rfl
                                    rotate_left
                                    · simp only [Act.put, List.setIfInBounds_toArray, List.set_cons_zero, List.set_cons_succ, i64_w, i32_w]
                                      rfl
                                    refine take_ (i := 8) (N := some 80) (v := ?_) (a' := ?_) #[true, true, true, true, true, true, true, true, true, true, true, true, false, false, false] rfl rfl (take_ofW HT_.out HW_.out (by kernel_rfl)) (fun _ _ _ h => h) (Or.inl ⟨by rfl, ?_⟩) hHeld ?_ ?_
                                    rotate_left
                                    · rintro w' ⟨s0, s1, s2, s3⟩
                                      go_simp
                                      with_reducible rfl
                                    rotate_left
                                    · simp only [Act.put, List.setIfInBounds_toArray, List.set_cons_zero, List.set_cons_succ, i64_w, i32_w]
                                      rfl
                                    refine take_ (i := 12) (N := some 84) (v := ?_) (a' := ?_) #[true, true, true, true, true, true, true, true, true, true, true, true, true, false, false] rfl rfl (take_ofW HT_.out HW_.out (by kernel_rfl)) (fun _ _ _ h => h) (Or.inl ⟨by rfl, ?_⟩) hHeld ?_ ?_
                                    rotate_left
                                    · rintro w' ⟨s0, s1, s2, s3⟩
                                      go_simp
                                      with_reducible rfl
                                    rotate_left
                                    · simp only [Act.put, List.setIfInBounds_toArray, List.set_cons_zero, List.set_cons_succ, i64_w, i32_w]
                                      rfl
                                    refine pure_ (i := 13) (N := some 85) (v := ?_) (a' := ?_) #[true, true, true, true, true, true, true, true, true, true, true, true, true, true, false] rfl rfl (any_of HT_.out (by kernel_rfl)) (fun _ _ _ h => h) (Or.inl ⟨by rfl, ?_⟩) ?_ ?_
                                    rotate_left
                                    · intro w'
                                      go_simp
                                      with_reducible rfl
                                    rotate_left
                                    · simp only [Act.put, List.setIfInBounds_toArray, List.set_cons_zero, List.set_cons_succ, i64_w, i32_w]
                                      rfl
                                    refine pure_ (i := 14) (N := some 86) (v := ?_) (a' := ?_) #[true, true, true, true, true, true, true, true, true, true, true, true, true, true, true] rfl rfl (any_of HT_.out (by kernel_rfl)) (fun _ _ _ h => h) (Or.inl ⟨by rfl, ?_⟩) ?_ ?_
                                    rotate_left
                                    · intro w'
                                      go_simp
                                      with_reducible rfl
                                    rotate_left
                                    · simp only [Act.put, List.setIfInBounds_toArray, List.set_cons_zero, List.set_cons_succ, i64_w, i32_w]
                                      rfl
                                    refine done_ (done_of HT_.out (by kernel_rfl)) ?_
                                    try go_wp2
                                    go_roundg k3
                                    case measure => have := HJ3.out; have := HK2.out; have := HK3.out; omega
                                    case rel => exact ⟨(wrap64 (x10_3 + 1)), (wrap64 (x11_3 + 1)), (by first | rfl | (simp; done) | (simp [*]; done)), (by first | rfl | (simp; done) | (simp [*]; done)), H', ⟨by have := HJ3.out; have := HK2.out; have := HK3.out; omega⟩, ⟨by (with_reducible repeat (first | apply Kd.R_alloc | apply Kd.R_drewN | apply Kd.R_drew)); exact HO_6.out⟩, ⟨by (with_reducible repeat (first | apply Kd.R_alloc | apply Kd.R_drewN | apply Kd.R_drew)); exact HO_8.out⟩, ⟨by (with_reducible repeat (first | apply Kd.R_alloc | apply Kd.R_drewN | apply Kd.R_drew)); exact HO_9.out⟩, ⟨by repeat (first | (with_reducible first | exact HB.out | apply below_alloc | apply pw_below_drewN | apply below_drew1) | exact HB.out)⟩⟩
                                · rw [if_neg c42] at H
                                  exact absurd H (by simp)
                              · rw [if_neg c41] at H
                                exact absurd H (by simp)
                        · rw [if_neg c34] at H
                          exact absurd H (by simp)
                      · rw [if_neg c33] at H
                        have c33b0 : decide (x11_3 < (t279.length : Int)) = false := decide_eq_false c33
                        clear c33
                        by_cases c50 : x10_3 = (t276.length : Int)
                        · rw [if_pos c50] at H
                          have c50b0 : (x10_3 == (t276.length : Int)) = true := beq_iff_eq.mpr c50
                          have c50b1 : (x10_3 != (t276.length : Int)) = false := bne_eq_false_iff_eq.mpr c50
                          clear c50
                          replace H := Option.bind_eq_some_iff.mp H
                          obtain ⟨t282, A510, H⟩ := H
                          replace H : (if (t282.length : Int) = 0 then ((cellarerlaw12_awake.f).bind fun t285 => (some t285)) else (some false)) = some r := H
                          have A51 := Aside0.mk A510
                          clear A510
                          by_cases c52 : (t282.length : Int) = 0
                          · rw [if_pos c52] at H
                            have c52b0 : ((t282.length : Int) == 0) = true := beq_iff_eq.mpr c52
                            have c52b1 : ((t282.length : Int) != 0) = false := bne_eq_false_iff_eq.mpr c52
                            clear c52
                            replace H := Option.bind_eq_some_iff.mp H
                            obtain ⟨t285, A530, H⟩ := H
                            replace H : (some t285) = some r := H
                            have A53 := Aside0.mk A530
                            clear A530
                            obtain rfl := Option.some.inj H
                            obtain ⟨Ao54, co54, eo54⟩ := Kd.R_slice HO_9.out
                            subst eo54
                            obtain ⟨Ao55, co55, eo55⟩ := Kd.R_slice HO_8.out
                            subst eo55
                            obtain ⟨Ao56, co56, eo56⟩ := Kd.R_slice HO_6.out
                            subst eo56
                            go_wp2_with (first | (go_at_call 22; (with_reducible refine (change_Items.calls _ _ x6_2 t282 _ ?side1 ?side2 A51.out).mono ?_); (case side1 => repeat (first | exact (Kd.R_reads' HO_6.out).2.2 | (with_reducible refine Kd.C_alloc ?_ _) | (with_reducible refine Kd.C_drewN ?_ _) | (with_reducible refine Kd.C_drew ?_))); (case side2 => exact (Kd.R_reads' HO_6.out).2.1); rintro e w57 ⟨v283, rfl, ho0, hb⟩; have n0_ := Aside0.mk (Kd.R_below (by (with_reducible repeat (first | apply Kd.R_alloc | apply Kd.R_drewN | apply Kd.R_drew)); exact HO_6.out) hb); have n1_ := Aside0.mk (Kd.R_elder' (by (with_reducible repeat (first | apply Kd.R_alloc | apply Kd.R_drewN | apply Kd.R_drew)); exact HO_8.out) (Kd.R_base ho0) hb); have n2_ := Aside0.mk (Kd.R_elder' (by (with_reducible repeat (first | apply Kd.R_alloc | apply Kd.R_drewN | apply Kd.R_drew)); exact HO_9.out) (Kd.R_base ho0) hb); have n3_ := Aside0.mk (Kd.R_lower (Kd.R_new' (Kd.R_new' ho0 (Kd.R_lt (by (with_reducible repeat (first | apply Kd.R_alloc | apply Kd.R_drewN | apply Kd.R_drew)); exact HO_8.out))) (Kd.R_lt (by (with_reducible repeat (first | apply Kd.R_alloc | apply Kd.R_drewN | apply Kd.R_drew)); exact HO_9.out))) (below_size (by repeat (first | (with_reducible first | exact HB.out | apply below_alloc | apply pw_below_drewN | apply below_drew1) | exact HB.out)))); have n4_ := Aside0.mk (below_step (by repeat (first | (with_reducible first | exact HB.out | apply below_alloc | apply pw_below_drewN | apply below_drew1) | exact HB.out)) hb); clear HO_6; clear HO_8; clear HO_9; clear HB; have HO_6 := n0_; have HO_8 := n1_; have HO_9 := n2_; have HO284 := n3_; have HB := n4_; clear n0_ n1_ n2_ n3_ n4_; (try clear hb); (try clear hb2); (try clear hk); (try clear hi); (try clear ho0); obtain ⟨Ao58, co58, eo58⟩ := Kd.R_slice HO284.out; subst eo58) | (go_at_call 18; (with_reducible refine (cellarerlaw12_awake.calls  t285 _ A53.out).mono ?_); rintro e w59 ⟨rfl, hb⟩; have n0_ := Aside0.mk (Kd.R_below (by (with_reducible repeat (first | apply Kd.R_alloc | apply Kd.R_drewN | apply Kd.R_drew)); exact HO_6.out) hb); have n1_ := Aside0.mk (Kd.R_below (by (with_reducible repeat (first | apply Kd.R_alloc | apply Kd.R_drewN | apply Kd.R_drew)); exact HO_8.out) hb); have n2_ := Aside0.mk (Kd.R_below (by (with_reducible repeat (first | apply Kd.R_alloc | apply Kd.R_drewN | apply Kd.R_drew)); exact HO_9.out) hb); have n3_ := Aside0.mk (Kd.R_below (by (with_reducible repeat (first | apply Kd.R_alloc | apply Kd.R_drewN | apply Kd.R_drew)); exact HO284.out) hb); have n4_ := Aside0.mk (below_step (by repeat (first | (with_reducible first | exact HB.out | apply below_alloc | apply pw_below_drewN | apply below_drew1) | exact HB.out)) hb); clear HO_6; clear HO_8; clear HO_9; clear HO284; clear HB; have HO_6 := n0_; have HO_8 := n1_; have HO_9 := n2_; have HO284 := n3_; have HB := n4_; clear n0_ n1_ n2_ n3_ n4_; (try clear hb); (try clear hb2); (try clear hk); (try clear hi)))
                            go_ret
                            exact ⟨by first | rfl | (simp [errW_none, errW_some] <;> rfl) | (simp [*, errW_none, errW_some] <;> rfl), by repeat (first | (with_reducible first | exact HB.out | apply below_alloc | apply pw_below_drewN | apply below_drew1) | exact HB.out)⟩
                          · rw [if_neg c52] at H
                            have c52b0 : ((t282.length : Int) == 0) = false := beq_eq_false_iff_ne.mpr c52
                            have c52b1 : ((t282.length : Int) != 0) = true := bne_iff_ne.mpr c52
                            have c52b2 : ¬ (t282 = []) := fun h_ => c52 (by rw [h_]; rfl)
                            obtain rfl := Option.some.inj H
                            obtain ⟨Ao60, co60, eo60⟩ := Kd.R_slice HO_9.out
                            subst eo60
                            obtain ⟨Ao61, co61, eo61⟩ := Kd.R_slice HO_8.out
                            subst eo61
                            obtain ⟨Ao62, co62, eo62⟩ := Kd.R_slice HO_6.out
                            subst eo62
                            go_wp2_with (first | (go_at_call 22; (with_reducible refine (change_Items.calls _ _ x6_2 t282 _ ?side1 ?side2 A51.out).mono ?_); (case side1 => repeat (first | exact (Kd.R_reads' HO_6.out).2.2 | (with_reducible refine Kd.C_alloc ?_ _) | (with_reducible refine Kd.C_drewN ?_ _) | (with_reducible refine Kd.C_drew ?_))); (case side2 => exact (Kd.R_reads' HO_6.out).2.1); rintro e w63 ⟨v283, rfl, ho0, hb⟩; have n0_ := Aside0.mk (Kd.R_below (by (with_reducible repeat (first | apply Kd.R_alloc | apply Kd.R_drewN | apply Kd.R_drew)); exact HO_6.out) hb); have n1_ := Aside0.mk (Kd.R_elder' (by (with_reducible repeat (first | apply Kd.R_alloc | apply Kd.R_drewN | apply Kd.R_drew)); exact HO_8.out) (Kd.R_base ho0) hb); have n2_ := Aside0.mk (Kd.R_elder' (by (with_reducible repeat (first | apply Kd.R_alloc | apply Kd.R_drewN | apply Kd.R_drew)); exact HO_9.out) (Kd.R_base ho0) hb); have n3_ := Aside0.mk (Kd.R_lower (Kd.R_new' (Kd.R_new' ho0 (Kd.R_lt (by (with_reducible repeat (first | apply Kd.R_alloc | apply Kd.R_drewN | apply Kd.R_drew)); exact HO_8.out))) (Kd.R_lt (by (with_reducible repeat (first | apply Kd.R_alloc | apply Kd.R_drewN | apply Kd.R_drew)); exact HO_9.out))) (below_size (by repeat (first | (with_reducible first | exact HB.out | apply below_alloc | apply pw_below_drewN | apply below_drew1) | exact HB.out)))); have n4_ := Aside0.mk (below_step (by repeat (first | (with_reducible first | exact HB.out | apply below_alloc | apply pw_below_drewN | apply below_drew1) | exact HB.out)) hb); clear HO_6; clear HO_8; clear HO_9; clear HB; have HO_6 := n0_; have HO_8 := n1_; have HO_9 := n2_; have HO284 := n3_; have HB := n4_; clear n0_ n1_ n2_ n3_ n4_; (try clear hb); (try clear hb2); (try clear hk); (try clear hi); (try clear ho0); obtain ⟨Ao64, co64, eo64⟩ := Kd.R_slice HO284.out; subst eo64))
                            go_ret
                            exact ⟨by first | rfl | (simp [errW_none, errW_some] <;> rfl) | (simp [*, errW_none, errW_some] <;> rfl), by repeat (first | (with_reducible first | exact HB.out | apply below_alloc | apply pw_below_drewN | apply below_drew1) | exact HB.out)⟩
                        · rw [if_neg c50] at H
                          have c50b0 : (x10_3 == (t276.length : Int)) = false := beq_eq_false_iff_ne.mpr c50
                          have c50b1 : (x10_3 != (t276.length : Int)) = true := bne_iff_ne.mpr c50
                          obtain rfl := Option.some.inj H
                          obtain ⟨Ao65, co65, eo65⟩ := Kd.R_slice HO_9.out
                          subst eo65
                          obtain ⟨Ao66, co66, eo66⟩ := Kd.R_slice HO_8.out
                          subst eo66
                          go_wp2
                          go_ret
                          exact ⟨by first | rfl | (simp [errW_none, errW_some] <;> rfl) | (simp [*, errW_none, errW_some] <;> rfl), by repeat (first | (with_reducible first | exact HB.out | apply below_alloc | apply pw_below_drewN | apply below_drew1) | exact HB.out)⟩
                · rw [if_neg c23] at H
                  exact absurd H (by simp)
              · rw [if_neg c22] at H
                exact absurd H (by simp)

end Go.Proofs.Ytipahpkdddijmaa.Q

-- L2
namespace Go.Proofs.Ytipahpkdddijmaa.Q
open Go.RowKit Go.Proofs.YtipahpkdddijmaaW.PrintWords Go.Proofs.YtipahpkdddijmaaW.PrintLast Go.Proofs.YtipahpkdddijmaaW.PrintMore
attribute [local go_sem] max2_int min2_int max_two min_two max_three min_three max_four min_four   -- for this text's walks alone
set_option linter.unusedVariables false
set_option linter.unusedSimpArgs false

mutual
def cellarerlaw12_ChangeLast.l0 : Nat → List (S39) → Int → List (S39) → Bool → Int → ByteArray → ByteArray → Bool → Option (Bool)
  | 0, _, _, _, _, _, _, _, _ => none
  | k + 1, x0, x5, x6, x7, x8, x229000, x229001, x229002 => if x8 < (x0.length : Int) then (if 0 ≤ x8 then (if ((rd_T39 x0 x8).f0) > x5 then (some false) else (cellarerlaw12_ChangeLast.l0 k x0 x5 x6 x7 (wrap64 (x8 + 1)) x229000 x229001 x229002)) else (none)) else (cellarerlaw12_ChangeLast.l1 k x0 x5 x6 x7 0 x229000 x229001 x229002)
def cellarerlaw12_ChangeLast.l1 : Nat → List (S39) → Int → List (S39) → Bool → Int → ByteArray → ByteArray → Bool → Option (Bool)
  | 0, _, _, _, _, _, _, _, _ => none
  | k + 1, x0, x5, x6, x7, x9, x229000, x229001, x229002 => if x9 < (x6.length : Int) then (if x7 = true then (cellarerlaw12_ChangeLast.l1 k x0 x5 x6 true (wrap64 (x9 + 1)) x229000 x229001 x229002) else (if 0 ≤ x9 then (cellarerlaw12_ChangeLast.l1 k x0 x5 x6 (((rd_T39 x6 x9).f0) == x5) (wrap64 (x9 + 1)) x229000 x229001 x229002) else (none))) else (if x7 = true then (cellarerlaw12_ChangeLast.j2 k x0 x5 x7 (x5 == 18446744073709551615) x229000 x229001 x229002) else (cellarerlaw12_ChangeLast.j2 k x0 x5 x7 true x229000 x229001 x229002))
def cellarerlaw12_ChangeLast.j2 : Nat → List (S39) → Int → Bool → Bool → ByteArray → ByteArray → Bool → Option (Bool)
  | 0, _, _, _, _, _, _, _ => none
  | k + 1, x0, x5, x7, x56, x229000, x229001, x229002 => if x56 = true then (if x7 = true then ((cellarerlaw12_awake.f).bind fun t238 => (some t238)) else (some false)) else ((some (([] : List (S39)) : List (S39))).bind fun y240 => (if y240.length + x0.length < 2932031007402 then ((some (y240 ++ x0 : List (S39))).bind fun y243 => ((some (([(⟨IntKind.u64.wrap (x5 + 1), (⟨x229000, x229001, x229002⟩ : S37)⟩ : S39)] : List (S39)) : List (S39))).bind fun y246 => (if y243.length + y246.length < 2932031007402 then ((change_Live.f (y243 ++ y246) x0).bind fun t252 => (cellarerlaw12_ChangeLast.l2 k t252 0 x229000 x229001 x229002)) else (none)))) else (none)))
def cellarerlaw12_ChangeLast.l2 : Nat → List (S39) → Int → ByteArray → ByteArray → Bool → Option (Bool)
  | 0, _, _, _, _, _ => none
  | k + 1, x11, x12, x229000, x229001, x229002 => if x12 < (x11.length : Int) then (if 0 ≤ x12 then (if ((rd_T39 x11 x12).f1.f0).toList = x229000.toList then (some false) else (cellarerlaw12_ChangeLast.l2 k x11 (wrap64 (x12 + 1)) x229000 x229001 x229002)) else (none)) else ((cellarerlaw12_awake.f).bind fun t256 => (some t256))
end
def cellarerlaw12_ChangeLast.f (k : Nat) (l0 : List (S39)) (a1_0 : ByteArray) (a1_1 : ByteArray) (a1_2 : Bool) : Option (Bool) := (cellarerlaw12_Few.f l0).bind fun t229 => ((change_Last.f t229).bind fun t232 => ((change_Count.f t229).bind fun t233 => (cellarerlaw12_ChangeLast.l0 k t229 t232 t233 ((t229.length : Int) == 0) 0 a1_0 a1_1 a1_2)))
theorem cellarerlaw12_ChangeLast.mono_l : ∀ k, (∀ y0 y1 y2 y3 y4 y5 y6 y7, LeO (cellarerlaw12_ChangeLast.l0 k y0 y1 y2 y3 y4 y5 y6 y7) (cellarerlaw12_ChangeLast.l0 (k + 1) y0 y1 y2 y3 y4 y5 y6 y7)) ∧ (∀ y0 y1 y2 y3 y4 y5 y6 y7, LeO (cellarerlaw12_ChangeLast.l1 k y0 y1 y2 y3 y4 y5 y6 y7) (cellarerlaw12_ChangeLast.l1 (k + 1) y0 y1 y2 y3 y4 y5 y6 y7)) ∧ (∀ y0 y1 y2 y3 y4 y5 y6, LeO (cellarerlaw12_ChangeLast.j2 k y0 y1 y2 y3 y4 y5 y6) (cellarerlaw12_ChangeLast.j2 (k + 1) y0 y1 y2 y3 y4 y5 y6)) ∧ (∀ y0 y1 y2 y3 y4, LeO (cellarerlaw12_ChangeLast.l2 k y0 y1 y2 y3 y4) (cellarerlaw12_ChangeLast.l2 (k + 1) y0 y1 y2 y3 y4))
  | 0 => ⟨fun _ _ _ _ _ _ _ _ r h => by simp [cellarerlaw12_ChangeLast.l0] at h, fun _ _ _ _ _ _ _ _ r h => by simp [cellarerlaw12_ChangeLast.l1] at h, fun _ _ _ _ _ _ _ r h => by simp [cellarerlaw12_ChangeLast.j2] at h, fun _ _ _ _ _ r h => by simp [cellarerlaw12_ChangeLast.l2] at h⟩
  | k + 1 => by
    obtain ⟨ih0, ih1, ih2, ih3⟩ := cellarerlaw12_ChangeLast.mono_l k
    refine ⟨?_, ?_, ?_, ?_⟩
    · intro y0 y1 y2 y3 y4 y5 y6 y7
      unfold cellarerlaw12_ChangeLast.l0
      repeat' first
      | (with_reducible exact ih0 _ _ _ _ _ _ _ _)
      | (with_reducible exact ih1 _ _ _ _ _ _ _ _)
      | (with_reducible exact ih2 _ _ _ _ _ _ _)
      | (with_reducible exact ih3 _ _ _ _ _)
      | (with_reducible exact LeO.refl _)
      | (with_reducible exact LeO.none _)
      | (with_reducible refine LeO.ite ?_ ?_)
      | (with_reducible refine LeO.bind ?_ (fun _ => ?_))
      | exact ih0 _ _ _ _ _ _ _ _
      | exact ih1 _ _ _ _ _ _ _ _
      | exact ih2 _ _ _ _ _ _ _
      | exact ih3 _ _ _ _ _
      | exact LeO.none _
      | refine LeO.ite ?_ ?_
      | refine LeO.bind ?_ (fun _ => ?_)
    · intro y0 y1 y2 y3 y4 y5 y6 y7
      unfold cellarerlaw12_ChangeLast.l1
      repeat' first
      | (with_reducible exact ih0 _ _ _ _ _ _ _ _)
      | (with_reducible exact ih1 _ _ _ _ _ _ _ _)
      | (with_reducible exact ih2 _ _ _ _ _ _ _)
      | (with_reducible exact ih3 _ _ _ _ _)
      | (with_reducible exact LeO.refl _)
      | (with_reducible exact LeO.none _)
      | (with_reducible refine LeO.ite ?_ ?_)
      | (with_reducible refine LeO.bind ?_ (fun _ => ?_))
      | exact ih0 _ _ _ _ _ _ _ _
      | exact ih1 _ _ _ _ _ _ _ _
      | exact ih2 _ _ _ _ _ _ _
      | exact ih3 _ _ _ _ _
      | exact LeO.none _
      | refine LeO.ite ?_ ?_
      | refine LeO.bind ?_ (fun _ => ?_)
    · intro y0 y1 y2 y3 y4 y5 y6
      unfold cellarerlaw12_ChangeLast.j2
      repeat' first
      | (with_reducible exact ih0 _ _ _ _ _ _ _ _)
      | (with_reducible exact ih1 _ _ _ _ _ _ _ _)
      | (with_reducible exact ih2 _ _ _ _ _ _ _)
      | (with_reducible exact ih3 _ _ _ _ _)
      | (with_reducible exact LeO.refl _)
      | (with_reducible exact LeO.none _)
      | (with_reducible refine LeO.ite ?_ ?_)
      | (with_reducible refine LeO.bind ?_ (fun _ => ?_))
      | exact ih0 _ _ _ _ _ _ _ _
      | exact ih1 _ _ _ _ _ _ _ _
      | exact ih2 _ _ _ _ _ _ _
      | exact ih3 _ _ _ _ _
      | exact LeO.none _
      | refine LeO.ite ?_ ?_
      | refine LeO.bind ?_ (fun _ => ?_)
    · intro y0 y1 y2 y3 y4
      unfold cellarerlaw12_ChangeLast.l2
      repeat' first
      | (with_reducible exact ih0 _ _ _ _ _ _ _ _)
      | (with_reducible exact ih1 _ _ _ _ _ _ _ _)
      | (with_reducible exact ih2 _ _ _ _ _ _ _)
      | (with_reducible exact ih3 _ _ _ _ _)
      | (with_reducible exact LeO.refl _)
      | (with_reducible exact LeO.none _)
      | (with_reducible refine LeO.ite ?_ ?_)
      | (with_reducible refine LeO.bind ?_ (fun _ => ?_))
      | exact ih0 _ _ _ _ _ _ _ _
      | exact ih1 _ _ _ _ _ _ _ _
      | exact ih2 _ _ _ _ _ _ _
      | exact ih3 _ _ _ _ _
      | exact LeO.none _
      | refine LeO.ite ?_ ?_
      | refine LeO.bind ?_ (fun _ => ?_)
theorem cellarerlaw12_ChangeLast.mono : ∀ a0 a1 a2 a3 k, LeO (cellarerlaw12_ChangeLast.f k a0 a1 a2 a3) (cellarerlaw12_ChangeLast.f (k + 1) a0 a1 a2 a3) := by
  intro a0 a1 a2 a3 k
  obtain ⟨ih0, ih1, ih2, ih3⟩ := cellarerlaw12_ChangeLast.mono_l k
  unfold cellarerlaw12_ChangeLast.f
  repeat' first
      | (with_reducible exact ih0 _ _ _ _ _ _ _ _)
      | (with_reducible exact ih1 _ _ _ _ _ _ _ _)
      | (with_reducible exact ih2 _ _ _ _ _ _ _)
      | (with_reducible exact ih3 _ _ _ _ _)
      | (with_reducible exact LeO.refl _)
      | (with_reducible exact LeO.none _)
      | (with_reducible refine LeO.ite ?_ ?_)
      | (with_reducible refine LeO.bind ?_ (fun _ => ?_))
      | exact ih0 _ _ _ _ _ _ _ _
      | exact ih1 _ _ _ _ _ _ _ _
      | exact ih2 _ _ _ _ _ _ _
      | exact ih3 _ _ _ _ _
      | exact LeO.none _
      | refine LeO.ite ?_ ?_
      | refine LeO.bind ?_ (fun _ => ?_)
def cellarerlaw12_ChangeLast.T17 : Bool × List (List Nat × List Nat) := (true, [([], []), ([], []), ([0, 1], [0, 1]), ([], []), ([3], [3]), ([2, 4, 2], [2, 4]), ([], []), ([5, 6, 5], [5, 6]), ([7, 7, 0, 1, 2, 3, 4, 5, 6, 7], [7])])
def cellarerlaw12_ChangeLast.B17 : List Nat := [0, 0, 3, 0, 8, 31, 0, 127, 255]
theorem cellarerlaw12_ChangeLast.tab17 : rtab .any (opsOf Try.f7 17) = cellarerlaw12_ChangeLast.T17 := by kernel_rfl
theorem cellarerlaw12_ChangeLast.bits17 : waitsOk cellarerlaw12_ChangeLast.T17.2 cellarerlaw12_ChangeLast.B17 = true := by kernel_rfl
def cellarerlaw12_ChangeLast.T21 : Bool × List (List Nat × List Nat) := (true, [([], []), ([], []), ([0, 1], [0, 1]), ([2], [2]), ([3], [3]), ([4], [4]), ([], []), ([6], [6]), ([5, 7], [5, 7])])
def cellarerlaw12_ChangeLast.B21 : List Nat := [0, 0, 3, 7, 15, 31, 0, 64, 255]
theorem cellarerlaw12_ChangeLast.tab21 : rtab .any (opsOf Try.f7 21) = cellarerlaw12_ChangeLast.T21 := by kernel_rfl
theorem cellarerlaw12_ChangeLast.bits21 : waitsOk cellarerlaw12_ChangeLast.T21.2 cellarerlaw12_ChangeLast.B21 = true := by kernel_rfl
set_option maxHeartbeats 8000000 in
set_option maxRecDepth 100000 in
theorem cellarerlaw12_ChangeLast.calls (k : Nat) (A0 : Option Addr) (c0 : Nat) (l0 : List (S39)) (a1_0 : ByteArray) (a1_1 : ByteArray) (a1_2 : Bool) (r : Bool) (w : World) (hr0 : Kd.C k39 w A0 l0.length l0) (hc0 : l0.length ≤ c0) (h : cellarerlaw12_ChangeLast.f k l0 a1_0 a1_1 a1_2 = some r) :
    Calls Try.prog 7 #[.slice A0 l0.length c0, .agg #[.string a1_0, .string a1_1, .bool a1_2]] w fun e w' => e = .returned (.bool r) ∧ Below w.heap.size w w' := by
  have hu37 := Try.underlying37
  have hu39 := Try.underlying39
  have HR0 := Aside0.mk hr0
  have HC0 := Aside0.mk hc0
  clear hr0 hc0
  have HB := Aside0.mk (Below.refl w.heap.size w)
  have H : ((cellarerlaw12_Few.f l0).bind fun t229 => ((change_Last.f t229).bind fun t232 => ((change_Count.f t229).bind fun t233 => (cellarerlaw12_ChangeLast.l0 k t229 t232 t233 ((t229.length : Int) == 0) 0 a1_0 a1_1 a1_2)))) = some r := h
  clear h
  replace H := Option.bind_eq_some_iff.mp H
  obtain ⟨t229, A30, H⟩ := H
  replace H : ((change_Last.f t229).bind fun t232 => ((change_Count.f t229).bind fun t233 => (cellarerlaw12_ChangeLast.l0 k t229 t232 t233 ((t229.length : Int) == 0) 0 a1_0 a1_1 a1_2))) = some r := H
  have A3 := Aside0.mk A30
  clear A30
  replace H := Option.bind_eq_some_iff.mp H
  obtain ⟨t232, A40, H⟩ := H
  replace H : ((change_Count.f t229).bind fun t233 => (cellarerlaw12_ChangeLast.l0 k t229 t232 t233 ((t229.length : Int) == 0) 0 a1_0 a1_1 a1_2)) = some r := H
  have A4 := Aside0.mk A40
  clear A40
  replace H := Option.bind_eq_some_iff.mp H
  obtain ⟨t233, A50, H⟩ := H
  replace H : (cellarerlaw12_ChangeLast.l0 k t229 t232 t233 ((t229.length : Int) == 0) 0 a1_0 a1_1 a1_2) = some r := H
  have A5 := Aside0.mk A50
  clear A50
  have H' := Aside0.mk H
  clear H
  go_enter Try.func7, Try.ntmps7
  go_wp2_with (first | ((with_reducible refine gate_dst (N := 3) rfl ?_); refine box_event ?hg (N := 3) ?hd (cs := #[.string a1_0, .string a1_1, .bool a1_2]) (t := 37) ?hr ?_; (case hd => rfl); (case hg => rfl); (case hr => first | (go_simp; done) | (go_simp; rfl)); intro gb228 hg w6 hbox hb; have n0_ := Aside0.mk (below_step (by repeat (first | (with_reducible first | exact HB.out | apply below_alloc | apply pw_below_drewN | apply below_drew1) | exact HB.out)) hb); have n1_ := Aside0.mk (hbox); have n2_ := Aside0.mk ((by rw [hg]; exact (below_size (by repeat (first | (with_reducible first | exact HB.out | apply below_alloc | apply pw_below_drewN | apply below_drew1) | exact HB.out))) : w.heap.size ≤ gb228)); have n3_ := Aside0.mk ((by rw [hg]; exact (below_size (by repeat (first | (with_reducible first | exact HB.out | apply below_alloc | apply pw_below_drewN | apply below_drew1) | exact HB.out))) : w.heap.size ≤ gb228)); clear HB; have HB := n0_; have BK228 := n1_; have GW228 := n2_; have GE228 := n3_; clear n0_ n1_ n2_ n3_; clear hb hbox hg) | ((with_reducible refine gate_callee (f := 10) rfl ?_); refine goesL_ (some 14) rfl rfl Try.func10 (by kernel_rfl) rfl #[.slice A0 l0.length c0] rfl (by (try simp only [List.map_toArray, List.map_cons, List.map_nil]); first | done | rfl | (simp only [List.length_drop, List.length_take]; rfl)) ?_; (with_reducible refine (cellarerlaw12_Few.calls _ _ l0 t229 _ ?side1 ?side2 A3.out).mono ?_); (case side1 => repeat (first | exact (Kd.C_below HR0.out HB.out) | (with_reducible refine Kd.C_alloc ?_ _) | (with_reducible refine Kd.C_drewN ?_ _) | (with_reducible refine Kd.C_drew ?_))); (case side2 => exact HC0.out); rintro e w7 ⟨v230, rfl, ho0, hb⟩; refine ⟨_, rfl, ?_⟩; have n0_ := Aside0.mk (Kd.R_lower ho0 (below_size (by repeat (first | (with_reducible first | exact HB.out | apply below_alloc | apply pw_below_drewN | apply below_drew1 | refine below_set ?_ GE228.out) | exact HB.out)))); have n1_ := Aside0.mk (blk_below (g := gb228) (o := .cells #[.string a1_0, .string a1_1, .bool a1_2] 37 (0, 0)) (by (with_reducible repeat (first | refine blk_drewN ?_ _ | refine blk_drew ?_ | refine blk_alloc ?_ _)); exact BK228.out) hb); have n2_ := Aside0.mk (below_step (by repeat (first | (with_reducible first | exact HB.out | apply below_alloc | apply pw_below_drewN | apply below_drew1 | refine below_set ?_ GE228.out) | exact HB.out)) hb); clear BK228; clear HB; have HO231 := n0_; have BK228 := n1_; have HB := n2_; clear n0_ n1_ n2_; (try clear hb); (try clear hb2); (try clear hk); (try clear hi); (try clear ho0); obtain ⟨Ao8, co8, eo8⟩ := Kd.R_slice HO231.out; subst eo8) | ((with_reducible refine gate_callee (f := 23) rfl ?_); refine goesL_ (some 16) rfl rfl Try.func23 (by kernel_rfl) rfl #[.slice Ao8 t229.length co8] rfl (by (try simp only [List.map_toArray, List.map_cons, List.map_nil]); first | done | rfl | (simp only [List.length_drop, List.length_take]; rfl)) ?_; (with_reducible refine (change_Last.calls _ _ t229 t232 _ ?side1 ?side2 A4.out).mono ?_); (case side1 => repeat (first | exact (Kd.R_reads' HO231.out).2.2 | (with_reducible refine Kd.C_alloc ?_ _) | (with_reducible refine Kd.C_drewN ?_ _) | (with_reducible refine Kd.C_drew ?_))); (case side2 => exact (Kd.R_reads' HO231.out).2.1); rintro e w9 ⟨rfl, hb⟩; refine ⟨_, rfl, ?_⟩; have n0_ := Aside0.mk (Kd.R_below (by (with_reducible repeat (first | apply Kd.R_alloc | apply Kd.R_drewN | apply Kd.R_drew)); exact HO231.out) hb); have n1_ := Aside0.mk (blk_below (g := gb228) (o := .cells #[.string a1_0, .string a1_1, .bool a1_2] 37 (0, 0)) (by (with_reducible repeat (first | refine blk_drewN ?_ _ | refine blk_drew ?_ | refine blk_alloc ?_ _)); exact BK228.out) hb); have n2_ := Aside0.mk (below_step (by repeat (first | (with_reducible first | exact HB.out | apply below_alloc | apply pw_below_drewN | apply below_drew1 | refine below_set ?_ GE228.out) | exact HB.out)) hb); clear HO231; clear BK228; clear HB; have HO231 := n0_; have BK228 := n1_; have HB := n2_; clear n0_ n1_ n2_; (try clear hb); (try clear hb2); (try clear hk); (try clear hi)) | ((with_reducible refine gate_callee (f := 19) rfl ?_); refine goesL_ (some 18) rfl rfl Try.func19 (by kernel_rfl) rfl #[.slice Ao8 t229.length co8] rfl (by (try simp only [List.map_toArray, List.map_cons, List.map_nil]); first | done | rfl | (simp only [List.length_drop, List.length_take]; rfl)) ?_; (with_reducible refine (change_Count.calls _ _ t229 t233 _ ?side1 ?side2 A5.out).mono ?_); (case side1 => repeat (first | exact (Kd.R_reads' HO231.out).2.2 | (with_reducible refine Kd.C_alloc ?_ _) | (with_reducible refine Kd.C_drewN ?_ _) | (with_reducible refine Kd.C_drew ?_))); (case side2 => exact (Kd.R_reads' HO231.out).2.1); rintro e w10 ⟨v234, rfl, ho0, hb⟩; refine ⟨_, rfl, ?_⟩; have n0_ := Aside0.mk (Kd.R_elder' (by (with_reducible repeat (first | apply Kd.R_alloc | apply Kd.R_drewN | apply Kd.R_drew)); exact HO231.out) (Kd.R_base ho0) hb); have n1_ := Aside0.mk (Kd.R_lower (Kd.R_new' ho0 (Kd.R_lt (by (with_reducible repeat (first | apply Kd.R_alloc | apply Kd.R_drewN | apply Kd.R_drew)); exact HO231.out))) (below_size (by repeat (first | (with_reducible first | exact HB.out | apply below_alloc | apply pw_below_drewN | apply below_drew1 | refine below_set ?_ GE228.out) | exact HB.out)))); have n2_ := Aside0.mk (blk_below (g := gb228) (o := .cells #[.string a1_0, .string a1_1, .bool a1_2] 37 (0, 0)) (by (with_reducible repeat (first | refine blk_drewN ?_ _ | refine blk_drew ?_ | refine blk_alloc ?_ _)); exact BK228.out) hb); have n3_ := Aside0.mk (below_step (by repeat (first | (with_reducible first | exact HB.out | apply below_alloc | apply pw_below_drewN | apply below_drew1 | refine below_set ?_ GE228.out) | exact HB.out)) hb); clear HO231; clear BK228; clear HB; have HO231 := n0_; have HO235 := n1_; have BK228 := n2_; have HB := n3_; clear n0_ n1_ n2_ n3_; (try clear hb); (try clear hb2); (try clear hk); (try clear hi); (try clear ho0)))
  go_loopg [8] k (fun kq v8 w' => ∃ (x8_1 : Int), v8 = .int .i64 x8_1 ∧ Aside0 (cellarerlaw12_ChangeLast.l0 kq t229 t232 t233 ((t229.length : Int) == 0) x8_1 a1_0 a1_1 a1_2 = some r) ∧ Aside0 (kq ≤ k) ∧ Aside0 (Kd.R k39 39 w' w.heap.size (fun k_ => some k_ ≠ (v234 : Value).ownBlock) (.slice Ao8 t229.length co8) t229) ∧ Aside0 (Kd.R k39 39 w' w.heap.size (fun k_ => some k_ ≠ ((.slice Ao8 t229.length co8) : Value).ownBlock) v234 t233) ∧ Aside0 (w'.heap[gb228]? = some (.cells #[.string a1_0, .string a1_1, .bool a1_2] 37 (0, 0))) ∧ Aside0 (Below w.heap.size w w'))
  case atStart => exact ⟨(0), (by first | rfl | (simp; done) | (simp [*]; done)), H', ⟨Nat.le_refl _⟩, ⟨by (with_reducible repeat (first | apply Kd.R_alloc | apply Kd.R_drewN | apply Kd.R_drew)); exact Kd.R_mono HO231.out (fun _ hk => hk.2)⟩, ⟨by (with_reducible repeat (first | apply Kd.R_alloc | apply Kd.R_drewN | apply Kd.R_drew)); exact Kd.R_mono HO235.out (fun _ hk => hk.2)⟩, ⟨by (with_reducible repeat (first | refine blk_drewN ?_ _ | refine blk_drew ?_ | refine blk_alloc ?_ _)); exact BK228.out⟩, ⟨by repeat (first | (with_reducible first | exact HB.out | apply below_alloc | apply pw_below_drewN | apply below_drew1 | refine below_set ?_ GE228.out) | exact HB.out)⟩⟩
  case round =>
    clear H'
    try clear c1
    try clear c2
    try clear p2
    try clear c7
    try clear c10
    obtain ⟨x8_1, rfl, HA, HK1, HO_0, HO_6, BK228, HB⟩ := hrel
    cases gk with
    | zero => exact absurd HA.out (by simp [cellarerlaw12_ChangeLast.l0])
    | succ k1 =>
      have H := HA.out
      clear HA
      simp only [cellarerlaw12_ChangeLast.l0] at H
      by_cases c11 : x8_1 < (t229.length : Int)
      · rw [if_pos c11] at H
        have c11b0 : decide (x8_1 < (t229.length : Int)) = true := decide_eq_true c11
        clear c11
        by_cases c12 : 0 ≤ x8_1
        · rw [if_pos c12] at H
          have c12b0 : decide (0 ≤ x8_1) = true := decide_eq_true c12
          clear c12
          by_cases c13 : ((rd_T39 t229 x8_1).f0) > t232
          · rw [if_pos c13] at H
            have c13b0 : decide (t232 < ((rd_T39 t229 x8_1).f0)) = true := decide_eq_true c13
            clear c13
            obtain rfl := Option.some.inj H
            have p236 : 0 ≤ (x8_1 : Int) := of_decide_eq_true (by first | (with_reducible assumption) | assumption)
            have q236 : x8_1 < (t229.length : Int) := of_decide_eq_true (by first | (with_reducible assumption) | assumption)
            obtain ⟨ad236, e236, hx236_0, hx236_1, hx236_2, hx236_3⟩ := at_T39 (Kd.R_reads' HO_0.out).2.2 x8_1 p236 q236
            cases e236
            replace p236 := eq_true p236
            replace q236 := eq_true q236
            go_wp2
            go_ret
            exact ⟨by first | rfl | (simp [errW_none, errW_some] <;> rfl) | (simp [*, errW_none, errW_some] <;> rfl), by repeat (first | (with_reducible first | exact HB.out | apply below_alloc | apply pw_below_drewN | apply below_drew1 | refine below_set ?_ GE228.out) | exact HB.out)⟩
          · rw [if_neg c13] at H
            have c13b0 : decide (t232 < ((rd_T39 t229 x8_1).f0)) = false := decide_eq_false c13
            clear c13
            have H' := Aside0.mk H
            clear H
            have p236 : 0 ≤ (x8_1 : Int) := of_decide_eq_true (by first | (with_reducible assumption) | assumption)
            have q236 : x8_1 < (t229.length : Int) := of_decide_eq_true (by first | (with_reducible assumption) | assumption)
            obtain ⟨ad236, e236, hx236_0, hx236_1, hx236_2, hx236_3⟩ := at_T39 (Kd.R_reads' HO_0.out).2.2 x8_1 p236 q236
            cases e236
            replace p236 := eq_true p236
            replace q236 := eq_true q236
            go_wp2
            go_roundg k1
            case measure => have := HK1.out; omega
            case rel => exact ⟨(wrap64 (x8_1 + 1)), (by first | rfl | (simp; done) | (simp [*]; done)), H', ⟨by have := HK1.out; omega⟩, ⟨by (with_reducible repeat (first | apply Kd.R_alloc | apply Kd.R_drewN | apply Kd.R_drew)); exact HO_0.out⟩, ⟨by (with_reducible repeat (first | apply Kd.R_alloc | apply Kd.R_drewN | apply Kd.R_drew)); exact HO_6.out⟩, ⟨by (with_reducible repeat (first | refine blk_drewN ?_ _ | refine blk_drew ?_ | refine blk_alloc ?_ _)); exact BK228.out⟩, ⟨by repeat (first | (with_reducible first | exact HB.out | apply below_alloc | apply pw_below_drewN | apply below_drew1 | refine below_set ?_ GE228.out) | exact HB.out)⟩⟩
        · rw [if_neg c12] at H
          exact absurd H (by simp)
      · rw [if_neg c11] at H
        have c11b0 : decide (x8_1 < (t229.length : Int)) = false := decide_eq_false c11
        clear c11
        have H' := Aside0.mk H
        clear H
        go_wp2
        go_loopg [7, 9] k1 (fun kq v7 v9 w' => ∃ (x7_2 : Bool) (x9_2 : Int), v7 = .bool x7_2 ∧ v9 = .int .i64 x9_2 ∧ Aside0 (cellarerlaw12_ChangeLast.l1 kq t229 t232 t233 x7_2 x9_2 a1_0 a1_1 a1_2 = some r) ∧ Aside0 (kq ≤ k1) ∧ Aside0 (Kd.R k39 39 w' w.heap.size (fun k_ => some k_ ≠ (v234 : Value).ownBlock) (.slice Ao8 t229.length co8) t229) ∧ Aside0 (Kd.R k39 39 w' w.heap.size (fun k_ => some k_ ≠ ((.slice Ao8 t229.length co8) : Value).ownBlock) v234 t233) ∧ Aside0 (w'.heap[gb228]? = some (.cells #[.string a1_0, .string a1_1, .bool a1_2] 37 (0, 0))) ∧ Aside0 (Below w.heap.size w w'))
        case atStart => exact ⟨(((t229.length : Int) == 0)), (0), (by first | rfl | (simp; done) | (simp [*]; done)), (by first | rfl | (simp; done) | (simp [*]; done)), H', ⟨Nat.le_refl _⟩, ⟨by (with_reducible repeat (first | apply Kd.R_alloc | apply Kd.R_drewN | apply Kd.R_drew)); exact HO_0.out⟩, ⟨by (with_reducible repeat (first | apply Kd.R_alloc | apply Kd.R_drewN | apply Kd.R_drew)); exact HO_6.out⟩, ⟨by (with_reducible repeat (first | refine blk_drewN ?_ _ | refine blk_drew ?_ | refine blk_alloc ?_ _)); exact BK228.out⟩, ⟨by repeat (first | (with_reducible first | exact HB.out | apply below_alloc | apply pw_below_drewN | apply below_drew1 | refine below_set ?_ GE228.out) | exact HB.out)⟩⟩
        case round =>
          clear H'
          try clear c1
          try clear c2
          try clear p2
          try clear q2
          try clear hx2
          try clear p6
          try clear c7
          try clear c10
          try clear c11
          try clear c11b0
          try clear c12
          try clear c12b0
          try clear c13
          try clear c13b0
          try clear hx236_0
          try clear hx236_1
          try clear hx236_2
          try clear hx236_3
          try clear p2
          try clear p236
          try clear q236
          obtain ⟨x7_2, x9_2, rfl, rfl, HA, HK2, HO_0, HO_6, BK228, HB⟩ := hrel
          cases gk with
          | zero => exact absurd HA.out (by simp [cellarerlaw12_ChangeLast.l1])
          | succ k2 =>
            have H := HA.out
            clear HA
            simp only [cellarerlaw12_ChangeLast.l1] at H
            by_cases c14 : x9_2 < (t233.length : Int)
            · rw [if_pos c14] at H
              have c14b0 : decide (x9_2 < (t233.length : Int)) = true := decide_eq_true c14
              clear c14
              by_cases c15 : x7_2 = true
              · subst c15
                have H1 : (cellarerlaw12_ChangeLast.l1 k2 t229 t232 t233 true (wrap64 (x9_2 + 1)) a1_0 a1_1 a1_2) = some r := by rw [if_pos rfl] at H; exact H
                clear H
                have H := H1
                clear H1
                have H' := Aside0.mk H
                clear H
                obtain ⟨Ao16, co16, eo16⟩ := Kd.R_slice HO_6.out
                subst eo16
                go_wp2
                go_roundg k2
                case measure => have := HK1.out; have := HK2.out; omega
                case rel => exact ⟨(true), (wrap64 (x9_2 + 1)), (by first | rfl | (simp; done) | (simp [*]; done)), (by first | rfl | (simp; done) | (simp [*]; done)), H', ⟨by have := HK1.out; have := HK2.out; omega⟩, ⟨by (with_reducible repeat (first | apply Kd.R_alloc | apply Kd.R_drewN | apply Kd.R_drew)); exact HO_0.out⟩, ⟨by (with_reducible repeat (first | apply Kd.R_alloc | apply Kd.R_drewN | apply Kd.R_drew)); exact HO_6.out⟩, ⟨by (with_reducible repeat (first | refine blk_drewN ?_ _ | refine blk_drew ?_ | refine blk_alloc ?_ _)); exact BK228.out⟩, ⟨by repeat (first | (with_reducible first | exact HB.out | apply below_alloc | apply pw_below_drewN | apply below_drew1 | refine below_set ?_ GE228.out) | exact HB.out)⟩⟩
              · replace c15 := Bool.eq_false_iff.mpr c15
                subst c15
                have H1 : (if 0 ≤ x9_2 then (cellarerlaw12_ChangeLast.l1 k2 t229 t232 t233 (((rd_T39 t233 x9_2).f0) == t232) (wrap64 (x9_2 + 1)) a1_0 a1_1 a1_2) else (none)) = some r := by rw [if_neg (show ¬ (false = true) by decide)] at H; exact H
                clear H
                have H := H1
                clear H1
                by_cases c17 : 0 ≤ x9_2
                · rw [if_pos c17] at H
                  have c17b0 : decide (0 ≤ x9_2) = true := decide_eq_true c17
                  clear c17
                  have H' := Aside0.mk H
                  clear H
                  obtain ⟨Ao18, co18, eo18⟩ := Kd.R_slice HO_6.out
                  subst eo18
                  have p237 : 0 ≤ (x9_2 : Int) := of_decide_eq_true (by first | (with_reducible assumption) | assumption)
                  have q237 : x9_2 < (t233.length : Int) := of_decide_eq_true (by first | (with_reducible assumption) | assumption)
                  obtain ⟨ad237, e237, hx237_0, hx237_1, hx237_2, hx237_3⟩ := at_T39 (Kd.R_reads' HO_6.out).2.2 x9_2 p237 q237
                  cases e237
                  replace p237 := eq_true p237
                  replace q237 := eq_true q237
                  go_wp2
                  go_roundg k2
                  case measure => have := HK1.out; have := HK2.out; omega
                  case rel => exact ⟨((((rd_T39 t233 x9_2).f0) == t232)), (wrap64 (x9_2 + 1)), (by first | rfl | (simp; done) | (simp [*]; done)), (by first | rfl | (simp; done) | (simp [*]; done)), H', ⟨by have := HK1.out; have := HK2.out; omega⟩, ⟨by (with_reducible repeat (first | apply Kd.R_alloc | apply Kd.R_drewN | apply Kd.R_drew)); exact HO_0.out⟩, ⟨by (with_reducible repeat (first | apply Kd.R_alloc | apply Kd.R_drewN | apply Kd.R_drew)); exact HO_6.out⟩, ⟨by (with_reducible repeat (first | refine blk_drewN ?_ _ | refine blk_drew ?_ | refine blk_alloc ?_ _)); exact BK228.out⟩, ⟨by repeat (first | (with_reducible first | exact HB.out | apply below_alloc | apply pw_below_drewN | apply below_drew1 | refine below_set ?_ GE228.out) | exact HB.out)⟩⟩
                · rw [if_neg c17] at H
                  exact absurd H (by simp)
            · rw [if_neg c14] at H
              have c14b0 : decide (x9_2 < (t233.length : Int)) = false := decide_eq_false c14
              clear c14
              have HC19 := Aside0.mk H
              clear H
              obtain ⟨Ao20, co20, eo20⟩ := Kd.R_slice HO_6.out
              subst eo20
              go_upto_region 14 with (fail)
              go_cut [56] (fun v56 wc => ∃ (kq : Nat) (x56_18 : Bool), v56 = .bool x56_18 ∧ Aside0 (cellarerlaw12_ChangeLast.j2 kq t229 t232 x7_2 x56_18 a1_0 a1_1 a1_2 = some r) ∧ Aside0 (kq ≤ k2) ∧ Aside0 (Kd.R k39 39 wc w.heap.size (fun _ => True) (.slice Ao8 t229.length co8) t229) ∧ Aside0 (wc.heap[gb228]? = some (.cells #[.string a1_0, .string a1_1, .bool a1_2] 37 (0, 0))) ∧ Aside0 (Below w.heap.size w wc))
              case first =>
                have H := HC19.out
                clear HC19
                by_cases c21 : x7_2 = true
                · subst c21
                  have H1 : (cellarerlaw12_ChangeLast.j2 k2 t229 t232 true (t232 == 18446744073709551615) a1_0 a1_1 a1_2) = some r := by rw [if_pos rfl] at H; exact H
                  clear H
                  have H := H1
                  clear H1
                  have H' := Aside0.mk H
                  clear H
                  go_wp2
                  go_meet
                  case rel => exact ⟨_, ((t232 == 18446744073709551615)), (by first | rfl | (simp; done) | (simp [*]; done)), H', ⟨by have := HK1.out; have := HK2.out; first | omega | exact Nat.le_refl _⟩, ⟨by (with_reducible repeat (first | apply Kd.R_alloc | apply Kd.R_drewN | apply Kd.R_drew)); exact Kd.R_mono HO_0.out (fun _ hk => trivial)⟩, ⟨by (with_reducible repeat (first | refine blk_drewN ?_ _ | refine blk_drew ?_ | refine blk_alloc ?_ _)); exact BK228.out⟩, ⟨by repeat (first | (with_reducible first | exact HB.out | apply below_alloc | apply pw_below_drewN | apply below_drew1 | refine below_set ?_ GE228.out) | exact HB.out)⟩⟩
                · replace c21 := Bool.eq_false_iff.mpr c21
                  subst c21
                  have H1 : (cellarerlaw12_ChangeLast.j2 k2 t229 t232 false true a1_0 a1_1 a1_2) = some r := by rw [if_neg (show ¬ (false = true) by decide)] at H; exact H
                  clear H
                  have H := H1
                  clear H1
                  have H' := Aside0.mk H
                  clear H
                  go_wp2
                  go_meet
                  case rel => exact ⟨_, (true), (by first | rfl | (simp; done) | (simp [*]; done)), H', ⟨by have := HK1.out; have := HK2.out; first | omega | exact Nat.le_refl _⟩, ⟨by (with_reducible repeat (first | apply Kd.R_alloc | apply Kd.R_drewN | apply Kd.R_drew)); exact Kd.R_mono HO_0.out (fun _ hk => trivial)⟩, ⟨by (with_reducible repeat (first | refine blk_drewN ?_ _ | refine blk_drew ?_ | refine blk_alloc ?_ _)); exact BK228.out⟩, ⟨by repeat (first | (with_reducible first | exact HB.out | apply below_alloc | apply pw_below_drewN | apply below_drew1 | refine below_set ?_ GE228.out) | exact HB.out)⟩⟩
              case rest =>
                clear HC19
                try clear c1
                try clear c2
                try clear p2
                try clear q2
                try clear hx2
                try clear p6
                try clear c7
                try clear c10
                try clear c11
                try clear c11b0
                try clear c12
                try clear c12b0
                try clear c13
                try clear c13b0
                try clear c14
                try clear c14b0
                try clear c15
                try clear c17
                try clear c17b0
                try clear c19
                try clear c21
                try clear hx236_0
                try clear hx236_1
                try clear hx236_2
                try clear hx236_3
                try clear hx237_0
                try clear hx237_1
                try clear hx237_2
                try clear hx237_3
                try clear p2
                try clear p236
                try clear p237
                try clear p6
                try clear q2
                try clear q236
                try clear q237
                obtain ⟨kq, x56_18, rfl, HA, HJ18, HO_0, BK228, HB⟩ := hcut
                cases kq with
                | zero => exact absurd HA.out (by simp [cellarerlaw12_ChangeLast.j2])
                | succ kj18 =>
                  have H := HA.out
                  clear HA
                  simp only [cellarerlaw12_ChangeLast.j2] at H
                  by_cases c22 : x56_18 = true
                  · subst c22
                    have H1 : (if x7_2 = true then ((cellarerlaw12_awake.f).bind fun t238 => (some t238)) else (some false)) = some r := by rw [if_pos rfl] at H; exact H
                    clear H
                    have H := H1
                    clear H1
                    by_cases c23 : x7_2 = true
                    · subst c23
                      have H1 : ((cellarerlaw12_awake.f).bind fun t238 => (some t238)) = some r := by rw [if_pos rfl] at H; exact H
                      clear H
                      have H := H1
                      clear H1
                      replace H := Option.bind_eq_some_iff.mp H
                      obtain ⟨t238, A240, H⟩ := H
                      replace H : (some t238) = some r := H
                      have A24 := Aside0.mk A240
                      clear A240
                      obtain rfl := Option.some.inj H
                      go_wp2_with (first | (go_at_call 18; (with_reducible refine (cellarerlaw12_awake.calls  t238 _ A24.out).mono ?_); rintro e w25 ⟨rfl, hb⟩; have n0_ := Aside0.mk (Kd.R_below (by (with_reducible repeat (first | apply Kd.R_alloc | apply Kd.R_drewN | apply Kd.R_drew)); exact HO_0.out) hb); have n1_ := Aside0.mk (blk_below (g := gb228) (o := .cells #[.string a1_0, .string a1_1, .bool a1_2] 37 (0, 0)) (by (with_reducible repeat (first | refine blk_drewN ?_ _ | refine blk_drew ?_ | refine blk_alloc ?_ _)); exact BK228.out) hb); have n2_ := Aside0.mk (below_step (by repeat (first | (with_reducible first | exact HB.out | apply below_alloc | apply pw_below_drewN | apply below_drew1 | refine below_set ?_ GE228.out) | exact HB.out)) hb); clear HO_0; clear BK228; clear HB; have HO_0 := n0_; have BK228 := n1_; have HB := n2_; clear n0_ n1_ n2_; (try clear hb); (try clear hb2); (try clear hk); (try clear hi)))
                      go_ret
                      exact ⟨by first | rfl | (simp [errW_none, errW_some] <;> rfl) | (simp [*, errW_none, errW_some] <;> rfl), by repeat (first | (with_reducible first | exact HB.out | apply below_alloc | apply pw_below_drewN | apply below_drew1 | refine below_set ?_ GE228.out) | exact HB.out)⟩
                    · replace c23 := Bool.eq_false_iff.mpr c23
                      subst c23
                      have H1 : (some false) = some r := by rw [if_neg (show ¬ (false = true) by decide)] at H; exact H
                      clear H
                      have H := H1
                      clear H1
                      obtain rfl := Option.some.inj H
                      go_wp2
                      go_ret
                      exact ⟨by first | rfl | (simp [errW_none, errW_some] <;> rfl) | (simp [*, errW_none, errW_some] <;> rfl), by repeat (first | (with_reducible first | exact HB.out | apply below_alloc | apply pw_below_drewN | apply below_drew1 | refine below_set ?_ GE228.out) | exact HB.out)⟩
                  · replace c22 := Bool.eq_false_iff.mpr c22
                    subst c22
                    have H1 : ((some (([] : List (S39)) : List (S39))).bind fun y240 => (if y240.length + t229.length < 2932031007402 then ((some (y240 ++ t229 : List (S39))).bind fun y243 => ((some (([(⟨IntKind.u64.wrap (t232 + 1), (⟨a1_0, a1_1, a1_2⟩ : S37)⟩ : S39)] : List (S39)) : List (S39))).bind fun y246 => (if y243.length + y246.length < 2932031007402 then ((change_Live.f (y243 ++ y246) t229).bind fun t252 => (cellarerlaw12_ChangeLast.l2 kj18 t252 0 a1_0 a1_1 a1_2)) else (none)))) else (none))) = some r := by rw [if_neg (show ¬ (false = true) by decide)] at H; exact H
                    clear H
                    have H := H1
                    clear H1
                    obtain ⟨y240, hy240⟩ : ∃ y_ : List (S39), y_ = (([] : List (S39))) := ⟨_, rfl⟩
                    replace H : (if y240.length + t229.length < 2932031007402 then ((some (y240 ++ t229 : List (S39))).bind fun y243 => ((some (([(⟨IntKind.u64.wrap (t232 + 1), (⟨a1_0, a1_1, a1_2⟩ : S37)⟩ : S39)] : List (S39)) : List (S39))).bind fun y246 => (if y243.length + y246.length < 2932031007402 then ((change_Live.f (y243 ++ y246) t229).bind fun t252 => (cellarerlaw12_ChangeLast.l2 kj18 t252 0 a1_0 a1_1 a1_2)) else (none)))) else (none)) = some r := by first | (rw [hy240]; with_reducible exact H) | (have H2_ := (Option.bind_some _ _).symm.trans H; rw [hy240]; with_reducible exact H2_) | (have H2_ := (Option.bind_some _ _).symm.trans H; with_reducible exact H2_) | with_reducible exact H | (rw [hy240]; exact H) | exact H
                    have Ny240 := Aside0.mk hy240
                    clear hy240
                    by_cases c26 : y240.length + t229.length < 2932031007402
                    · rw [if_pos c26] at H
                      have LMc26 := Aside0.mk c26
                      clear c26
                      obtain ⟨y243, hy243⟩ : ∃ y_ : List (S39), y_ = (y240 ++ t229) := ⟨_, rfl⟩
                      replace H : ((some (([(⟨IntKind.u64.wrap (t232 + 1), (⟨a1_0, a1_1, a1_2⟩ : S37)⟩ : S39)] : List (S39)) : List (S39))).bind fun y246 => (if y243.length + y246.length < 2932031007402 then ((change_Live.f (y243 ++ y246) t229).bind fun t252 => (cellarerlaw12_ChangeLast.l2 kj18 t252 0 a1_0 a1_1 a1_2)) else (none))) = some r := by first | (rw [hy243]; with_reducible exact H) | (have H2_ := (Option.bind_some _ _).symm.trans H; rw [hy243]; with_reducible exact H2_) | (have H2_ := (Option.bind_some _ _).symm.trans H; with_reducible exact H2_) | with_reducible exact H | (rw [hy243]; exact H) | exact H
                      have Ny243 := Aside0.mk hy243
                      clear hy243
                      obtain ⟨y246, hy246⟩ : ∃ y_ : List (S39), y_ = (([(⟨IntKind.u64.wrap (t232 + 1), (⟨a1_0, a1_1, a1_2⟩ : S37)⟩ : S39)] : List (S39))) := ⟨_, rfl⟩
                      replace H : (if y243.length + y246.length < 2932031007402 then ((change_Live.f (y243 ++ y246) t229).bind fun t252 => (cellarerlaw12_ChangeLast.l2 kj18 t252 0 a1_0 a1_1 a1_2)) else (none)) = some r := by first | (rw [hy246]; with_reducible exact H) | (have H2_ := (Option.bind_some _ _).symm.trans H; rw [hy246]; with_reducible exact H2_) | (have H2_ := (Option.bind_some _ _).symm.trans H; with_reducible exact H2_) | with_reducible exact H | (rw [hy246]; exact H) | exact H
                      have Ny246 := Aside0.mk hy246
                      clear hy246
                      by_cases c27 : y243.length + y246.length < 2932031007402
                      · rw [if_pos c27] at H
                        have LMc27 := Aside0.mk c27
                        clear c27
                        obtain ⟨y249, hy249⟩ : ∃ y_ : List (S39), y_ = (y243 ++ y246) := ⟨_, rfl⟩
                        replace H : ((change_Live.f y249 t229).bind fun t252 => (cellarerlaw12_ChangeLast.l2 kj18 t252 0 a1_0 a1_1 a1_2)) = some r := by first | (rw [hy249]; with_reducible exact H) | (have H2_ := (Option.bind_some _ _).symm.trans H; rw [hy249]; with_reducible exact H2_) | (have H2_ := (Option.bind_some _ _).symm.trans H; with_reducible exact H2_) | with_reducible exact H | (rw [hy249]; exact H) | exact H
                        have Ny249 := Aside0.mk hy249
                        clear hy249
                        replace H := Option.bind_eq_some_iff.mp H
                        obtain ⟨t252, A280, H⟩ := H
                        replace H : (cellarerlaw12_ChangeLast.l2 kj18 t252 0 a1_0 a1_1 a1_2) = some r := H
                        have A28 := Aside0.mk A280
                        clear A280
                        have H' := Aside0.mk H
                        clear H
                        have hcz29_0 : wc.cell? ⟨gb228, 0, none⟩ = some (.string a1_0) := (blk_cell BK228.out 0).trans rfl
                        have hcz29_1 : wc.cell? ⟨gb228, 1, none⟩ = some (.string a1_1) := (blk_cell BK228.out 1).trans rfl
                        have hcz29_2 : wc.cell? ⟨gb228, 2, none⟩ = some (.bool a1_2) := (blk_cell BK228.out 2).trans rfl
                        have hfz29_0 := blk_frozen BK228.out 0
                        have hfz29_1 := blk_frozen BK228.out 1
                        have hfz29_2 := blk_frozen BK228.out 2
                        try go_wp2_with (first | ((with_reducible refine gate_dst (N := 10) rfl ?_); refine box_event ?hg (N := 10) ?hd (cs := #[.int .u64 0, .string (⟨#[]⟩ : ByteArray), .string (⟨#[]⟩ : ByteArray), .bool false]) (t := 39) ?hr ?_; (case hd => rfl); (case hg => rfl); (case hr => first | (go_simp; done) | (go_simp; rfl)); intro gb239 hg w30 hbox hb; have n0_ := Aside0.mk (Kd.R_below (Kd.R_elderB (by (with_reducible repeat (first | apply Kd.R_alloc | apply Kd.R_drewN | apply Kd.R_drew)); exact HO_0.out) gb239 (Nat.le_of_eq hg.symm)) hb); have n1_ := Aside0.mk (blk_below (g := gb228) (o := .cells #[.string a1_0, .string a1_1, .bool a1_2] 37 (0, 0)) (by (with_reducible repeat (first | refine blk_drewN ?_ _ | refine blk_drew ?_ | refine blk_alloc ?_ _)); exact BK228.out) hb); have n2_ := Aside0.mk (below_step (by repeat (first | (with_reducible first | exact HB.out | apply below_alloc | apply pw_below_drewN | apply below_drew1 | refine below_set ?_ GE228.out) | exact HB.out)) hb); have n3_ := Aside0.mk (hbox); have n4_ := Aside0.mk ((by rw [hg]; exact (below_size (by repeat (first | (with_reducible first | exact HB.out | apply below_alloc | apply pw_below_drewN | apply below_drew1 | refine below_set ?_ GE228.out) | exact HB.out))) : w.heap.size ≤ gb239)); have n5_ := Aside0.mk ((by rw [hg]; exact (below_size (by repeat (first | (with_reducible first | exact HB.out | apply below_alloc | apply pw_below_drewN | apply below_drew1 | refine below_set ?_ GE228.out) | exact HB.out))) : w.heap.size ≤ gb239)); have n6_ := Aside0.mk ((by rw [hg]; exact Nat.ne_of_lt (blk_lt (g := gb228) (o := .cells #[.string a1_0, .string a1_1, .bool a1_2] 37 (0, 0)) (by (with_reducible repeat (first | refine blk_drewN ?_ _ | refine blk_drew ?_ | refine blk_alloc ?_ _)); exact BK228.out)) : gb228 ≠ gb239)); have n7_ := Aside0.mk ((by rw [hg]; exact Nat.ne_of_gt (blk_lt (g := gb228) (o := .cells #[.string a1_0, .string a1_1, .bool a1_2] 37 (0, 0)) (by (with_reducible repeat (first | refine blk_drewN ?_ _ | refine blk_drew ?_ | refine blk_alloc ?_ _)); exact BK228.out)) : gb239 ≠ gb228)); clear HO_0; clear BK228; clear HB; have HO_0 := n0_; have BK228 := n1_; have HB := n2_; have BK239 := n3_; have GW239 := n4_; have GE239 := n5_; have NB228_239 := n6_; have NB239_228 := n7_; clear n0_ n1_ n2_ n3_ n4_ n5_ n6_ n7_; clear hb hbox hg; have hnb31 := NB239_228.out; have hnc31 := NB228_239.out; have hcz32_0 : w30.cell? ⟨gb239, 0, none⟩ = some (.int .u64 0) := (blk_cell BK239.out 0).trans rfl; have hcz32_1 : w30.cell? ⟨gb239, 1, none⟩ = some (.string (⟨#[]⟩ : ByteArray)) := (blk_cell BK239.out 1).trans rfl; have hcz32_2 : w30.cell? ⟨gb239, 2, none⟩ = some (.string (⟨#[]⟩ : ByteArray)) := (blk_cell BK239.out 2).trans rfl; have hcz32_3 : w30.cell? ⟨gb239, 3, none⟩ = some (.bool false) := (blk_cell BK239.out 3).trans rfl; have hfz32_0 := blk_frozen BK239.out 0; have hfz32_1 := blk_frozen BK239.out 1; have hfz32_2 := blk_frozen BK239.out 2; have hfz32_3 := blk_frozen BK239.out 3))
                        have n0_ : Aside0 (Kd.R k39 39 ((((w30.setCell ⟨gb239, 0, none⟩ (.int .u64 (IntKind.u64.wrap (t232 + 1)))).setCell ⟨gb239, 1, none⟩ (.string a1_0)).setCell ⟨gb239, 2, none⟩ (.string a1_1)).setCell ⟨gb239, 3, none⟩ (.bool a1_2)) w.heap.size (fun k_ => k_ ≠ gb239) (.slice Ao8 t229.length co8) t229) := ⟨by (with_reducible repeat (first | apply Kd.R_alloc | apply Kd.R_drewN | apply Kd.R_drew)); exact Kd.R_mono (Kd.R_far (p := ⟨gb239, 3, none⟩) (Kd.R_far (p := ⟨gb239, 2, none⟩) (Kd.R_far (p := ⟨gb239, 1, none⟩) (Kd.R_far (p := ⟨gb239, 0, none⟩) (Kd.R_mono HO_0.out (fun k_ hk => (⟨hk, hk.2⟩ : _ ∧ k_ ≠ gb239))) (fun _ hk => hk.2) (.int .u64 (IntKind.u64.wrap (t232 + 1)))) (fun _ hk => hk.2) (.string a1_0)) (fun _ hk => hk.2) (.string a1_1)) (fun _ hk => hk.2) (.bool a1_2)) (fun _ hk => hk.1.2)⟩
                        have n1_ : Aside0 (((((w30.setCell ⟨gb239, 0, none⟩ (.int .u64 (IntKind.u64.wrap (t232 + 1)))).setCell ⟨gb239, 1, none⟩ (.string a1_0)).setCell ⟨gb239, 2, none⟩ (.string a1_1)).setCell ⟨gb239, 3, none⟩ (.bool a1_2)).heap[gb228]? = some (.cells #[.string a1_0, .string a1_1, .bool a1_2] 37 (0, 0))) := ⟨by (with_reducible repeat (first | refine blk_drewN ?_ _ | refine blk_drew ?_ | refine blk_alloc ?_ _)); refine blk_far ?_ NB228_239.out _; (with_reducible repeat (first | refine blk_drewN ?_ _ | refine blk_drew ?_ | refine blk_alloc ?_ _)); refine blk_far ?_ NB228_239.out _; (with_reducible repeat (first | refine blk_drewN ?_ _ | refine blk_drew ?_ | refine blk_alloc ?_ _)); refine blk_far ?_ NB228_239.out _; (with_reducible repeat (first | refine blk_drewN ?_ _ | refine blk_drew ?_ | refine blk_alloc ?_ _)); refine blk_far ?_ NB228_239.out _; (with_reducible repeat (first | refine blk_drewN ?_ _ | refine blk_drew ?_ | refine blk_alloc ?_ _)); exact BK228.out⟩
                        have n2_ : Aside0 (((((w30.setCell ⟨gb239, 0, none⟩ (.int .u64 (IntKind.u64.wrap (t232 + 1)))).setCell ⟨gb239, 1, none⟩ (.string a1_0)).setCell ⟨gb239, 2, none⟩ (.string a1_1)).setCell ⟨gb239, 3, none⟩ (.bool a1_2)).heap[gb239]? = some (.cells #[.int .u64 (IntKind.u64.wrap (t232 + 1)), .string a1_0, .string a1_1, .bool a1_2] 39 (0, 0))) := ⟨by (with_reducible repeat (first | refine blk_drewN ?_ _ | refine blk_drew ?_ | refine blk_alloc ?_ _)); refine blk_put (cs := #[.int .u64 (IntKind.u64.wrap (t232 + 1)), .string a1_0, .string a1_1, .bool false]) ?_ 3 _ rfl; (with_reducible repeat (first | refine blk_drewN ?_ _ | refine blk_drew ?_ | refine blk_alloc ?_ _)); refine blk_put (cs := #[.int .u64 (IntKind.u64.wrap (t232 + 1)), .string a1_0, .string (⟨#[]⟩ : ByteArray), .bool false]) ?_ 2 _ rfl; (with_reducible repeat (first | refine blk_drewN ?_ _ | refine blk_drew ?_ | refine blk_alloc ?_ _)); refine blk_put (cs := #[.int .u64 (IntKind.u64.wrap (t232 + 1)), .string (⟨#[]⟩ : ByteArray), .string (⟨#[]⟩ : ByteArray), .bool false]) ?_ 1 _ rfl; (with_reducible repeat (first | refine blk_drewN ?_ _ | refine blk_drew ?_ | refine blk_alloc ?_ _)); refine blk_put (cs := #[.int .u64 0, .string (⟨#[]⟩ : ByteArray), .string (⟨#[]⟩ : ByteArray), .bool false]) ?_ 0 _ rfl; (with_reducible repeat (first | refine blk_drewN ?_ _ | refine blk_drew ?_ | refine blk_alloc ?_ _)); exact BK239.out⟩
                        have n3_ : Aside0 (Below w.heap.size w ((((w30.setCell ⟨gb239, 0, none⟩ (.int .u64 (IntKind.u64.wrap (t232 + 1)))).setCell ⟨gb239, 1, none⟩ (.string a1_0)).setCell ⟨gb239, 2, none⟩ (.string a1_1)).setCell ⟨gb239, 3, none⟩ (.bool a1_2))) := ⟨by repeat (first | (with_reducible first | exact HB.out | apply below_alloc | apply pw_below_drewN | apply below_drew1 | refine below_set ?_ GE228.out | refine below_set ?_ GE239.out) | exact HB.out)⟩
                        (try clear HO_0)
                        (try clear BK228)
                        (try clear BK239)
                        (try clear HB)
                        generalize ((((w30.setCell ⟨gb239, 0, none⟩ (.int .u64 (IntKind.u64.wrap (t232 + 1)))).setCell ⟨gb239, 1, none⟩ (.string a1_0)).setCell ⟨gb239, 2, none⟩ (.string a1_1)).setCell ⟨gb239, 3, none⟩ (.bool a1_2)) = w33 at n0_ n1_ n2_ n3_ ⊢
                        have HO_0 := n0_
                        have BK228 := n1_
                        have BK239 := n2_
                        have HB := n3_
                        clear n0_ n1_ n2_ n3_
                        have n0_ := Aside0.mk (Kd.R_drew HO_0.out)
                        have n1_ := Aside0.mk (blk_drew BK228.out)
                        have n2_ := Aside0.mk (blk_drew BK239.out)
                        have n3_ := Aside0.mk (below_drew1 HB.out)
                        clear HO_0
                        clear BK228
                        clear BK239
                        clear HB
                        have HO_0 := n0_
                        have BK228 := n1_
                        have BK239 := n2_
                        have HB := n3_
                        clear n0_ n1_ n2_ n3_
                        refine start_ (n := 9) (S := fun w' => w'.cell? ⟨gb239, 0, none⟩ = some (.int .u64 (IntKind.u64.wrap (t232 + 1))) ∧ w'.cell? ⟨gb239, 1, none⟩ = some (.string a1_0) ∧ w'.cell? ⟨gb239, 2, none⟩ = some (.string a1_1) ∧ w'.cell? ⟨gb239, 3, none⟩ = some (.bool a1_2)) (ds := []) #[false, false, false, false, false, false, false, false, false] (by kernel_rfl) rfl rfl ⟨(blk_cell BK239.out 0).trans rfl, (blk_cell BK239.out 1).trans rfl, (blk_cell BK239.out 2).trans rfl, (blk_cell BK239.out 3).trans rfl⟩ (fun hHeld => ?_); refine with_tabW cellarerlaw12_ChangeLast.tab17 cellarerlaw12_ChangeLast.bits17 (fun HT_ HW_ => ?_)
                        generalize w33.drew = w34 at HO_0 BK228 BK239 HB hHeld ⊢
                        refine pure_ (i := 1) (N := some 66) (v := ?_) (a' := ?_) #[false, true, false, false, false, false, false, false, false] rfl rfl (any_of HT_.out (by kernel_rfl)) (fun _ _ _ h => h) (Or.inl ⟨by rfl, ?_⟩) ?_ ?_
                        rotate_left
                        · intro w'
                          go_simp
                          with_reducible rfl
                        rotate_left
                        · simp only [Act.put, List.setIfInBounds_toArray, List.set_cons_zero, List.set_cons_succ, i64_w, i32_w]
                          rfl
                        refine pure_ (i := 6) (N := some 71) (v := ?_) (a' := ?_) #[false, true, false, false, false, false, true, false, false] rfl rfl (any_of HT_.out (by kernel_rfl)) (fun _ _ _ h => h) (Or.inl ⟨by rfl, ?_⟩) ?_ ?_
                        rotate_left
                        · intro w'
                          go_simp
                          with_reducible rfl
                        rotate_left
                        · simp only [Act.put, List.setIfInBounds_toArray, List.set_cons_zero, List.set_cons_succ, i64_w, i32_w]
                          rfl
                        refine take_ (i := 3) (N := some 68) (v := ?_) (a' := ?_) #[false, true, false, true, false, false, true, false, false] rfl rfl (take_ofW HT_.out HW_.out (by kernel_rfl)) (fun _ _ _ h => h) (Or.inl ⟨by rfl, ?_⟩) hHeld ?_ ?_
                        rotate_left
                        · rintro w' ⟨s0, s1, s2, s3⟩
                          go_simp
                          with_reducible rfl
                        rotate_left
                        · simp only [Act.put, List.setIfInBounds_toArray, List.set_cons_zero, List.set_cons_succ, i64_w, i32_w]
                          rfl
                        refine join_ (σ := Value × Value × Value) 3 #[true, true, true, true, true, false, true, false, false] (fun s_ => [(65, s_.1), (67, s_.2.1), (69, s_.2.2)]) (fun s_ w' => (w'.cell? ⟨gb239, 0, none⟩ = some (.int .u64 (IntKind.u64.wrap (t232 + 1))) ∧ w'.cell? ⟨gb239, 1, none⟩ = some (.string a1_0) ∧ w'.cell? ⟨gb239, 2, none⟩ = some (.string a1_1) ∧ w'.cell? ⟨gb239, 3, none⟩ = some (.bool a1_2)) ∧ (Kd.R k39 39 w' w.heap.size (fun k_ => some k_ ≠ (s_.2.2 : Value).ownBlock ∧ some k_ ≠ (.slice Ao8 t229.length co8 : Value).ownBlock ∧ k_ ≠ gb239) s_.2.1 y243) ∧ (Kd.R k39 39 w' w.heap.size (fun k_ => some k_ ≠ (s_.2.1 : Value).ownBlock ∧ some k_ ≠ (.slice Ao8 t229.length co8 : Value).ownBlock ∧ k_ ≠ gb239) s_.2.2 y246) ∧ (Kd.R k39 39 w' w.heap.size (fun k_ => some k_ ≠ (s_.2.1 : Value).ownBlock ∧ some k_ ≠ (s_.2.2 : Value).ownBlock ∧ k_ ≠ gb239) (.slice Ao8 t229.length co8) t229) ∧ (w'.heap[gb228]? = some (.cells #[.string a1_0, .string a1_1, .bool a1_2] 37 (0, 0))) ∧ (w'.heap[gb239]? = some (.cells #[.int .u64 (IntKind.u64.wrap (t232 + 1)), .string a1_0, .string a1_1, .bool a1_2] 39 (0, 0))) ∧ (Below w.heap.size w w')) ?_ ?_
                        rotate_left
                        · intro hCont
                          refine two_ (i := 0) (j := 4) (Ni := some 65) (Nj := some 69) #[true, true, false, true, false, false, true, false, false] #[false, true, false, true, true, false, true, false, false] rfl rfl rfl rfl (two_of HT_.out (by kernel_rfl)) (by decide) (by decide) (fun K hK => ?_) (fun K hK => ?_)
                          · skip
                            refine Kd.R_lit_step k39 _ 39 ?hg (N := 65) ?hd (xs := ([] : List (S39))) (inner := []) (ok := fun _ => True) (okp := fun _ => True) ?hr ?hp (fun _ hk => hk) trivial (Below.refl _ _) (Nat.le_refl _) (by simp) ?_; (case hd => rfl); (case hg => rfl); (case hr => first | (go_simp; done) | (go_simp; rfl)); (case hp => exact (Reps.none _ _))
                            intro v241 w35 ho36 hb hg_ hnew_
                            clear hg_ hnew_
                            (first | rw [← Ny240.out] at ho36 | (simp only [Int.reduceToNat] at ho36; rw [← Ny240.out] at ho36))
                            have n0_ := Aside0.mk (Kd.R_elder' (by (with_reducible repeat (first | apply Kd.R_alloc | apply Kd.R_drewN | apply Kd.R_drew)); exact HO_0.out) (Kd.R_base ho36) hb)
                            have n1_ := Aside0.mk (Kd.R_lower (Kd.R_newB (Kd.R_new' ho36 (Kd.R_lt (by (with_reducible repeat (first | apply Kd.R_alloc | apply Kd.R_drewN | apply Kd.R_drew)); exact HO_0.out))) (g := gb239) (o := .cells #[.int .u64 (IntKind.u64.wrap (t232 + 1)), .string a1_0, .string a1_1, .bool a1_2] 39 (0, 0)) (by (with_reducible repeat (first | refine blk_drewN ?_ _ | refine blk_drew ?_ | refine blk_alloc ?_ _)); exact BK239.out)) (below_size (by repeat (first | (with_reducible first | exact HB.out | apply below_alloc | apply pw_below_drewN | apply below_drew1 | refine below_set ?_ GE228.out | refine below_set ?_ GE239.out) | exact HB.out))))
                            have n2_ := Aside0.mk (blk_below (g := gb228) (o := .cells #[.string a1_0, .string a1_1, .bool a1_2] 37 (0, 0)) (by (with_reducible repeat (first | refine blk_drewN ?_ _ | refine blk_drew ?_ | refine blk_alloc ?_ _)); exact BK228.out) hb)
                            have n3_ := Aside0.mk (blk_below (g := gb239) (o := .cells #[.int .u64 (IntKind.u64.wrap (t232 + 1)), .string a1_0, .string a1_1, .bool a1_2] 39 (0, 0)) (by (with_reducible repeat (first | refine blk_drewN ?_ _ | refine blk_drew ?_ | refine blk_alloc ?_ _)); exact BK239.out) hb)
                            have n4_ := Aside0.mk (below_step (by repeat (first | (with_reducible first | exact HB.out | apply below_alloc | apply pw_below_drewN | apply below_drew1 | refine below_set ?_ GE228.out | refine below_set ?_ GE239.out) | exact HB.out)) hb)
                            clear HO_0
                            clear BK228
                            clear BK239
                            clear HB
                            have HO_0 := n0_
                            have HO242 := n1_
                            have BK228 := n2_
                            have BK239 := n3_
                            have HB := n4_
                            clear n0_ n1_ n2_ n3_ n4_
                            clear hb ho36
                            refine hK.out _ _ ⟨(blk_cell BK239.out 0).trans rfl, (blk_cell BK239.out 1).trans rfl, (blk_cell BK239.out 2).trans rfl, (blk_cell BK239.out 3).trans rfl⟩ (fun hHeld => ?_)
                            clear hK K
                            refine norm_ (a' := ?_) ?_ ?_
                            rotate_left
                            · show Act.put _ (some 65) _ = _
                              simp only [Act.put, List.setIfInBounds_toArray, List.set_cons_zero, List.set_cons_succ, i64_w, i32_w]
                              rfl
                            refine two_ (i := 2) (j := 4) (Ni := some 67) (Nj := some 69) #[true, true, true, true, false, false, true, false, false] #[true, true, false, true, true, false, true, false, false] rfl rfl rfl rfl (two_of HT_.out (by kernel_rfl)) (by decide) (by decide) (fun K hK => ?_) (fun K hK => ?_)
                            · skip
                              refine Kd.R_append_rows_step k39 (w0 := w) w.heap.size (by rfl) (.tmp 65) (.tmp 66) 22 39 (.agg #[(.int .u64 0), (.string ⟨#[]⟩), (.string ⟨#[]⟩), (.bool false)]) 48 rfl Try.underlying22 info39 rfl (by decide) (by omega) v241 y240 t229 _ _ _ (fun k_ => some k_ ≠ (.slice Ao8 t229.length co8 : Value).ownBlock ∧ k_ ≠ gb239) (fun _ => False) rfl rfl ?aO ?aR (fun _ _ h => h) (fun _ h => h.elim) ?aF ?aB ?aS ?aL ?_
                              (case aR => repeat (first | exact (Kd.R_reads' HO_0.out).2.2 | (with_reducible refine Kd.C_alloc ?_ _) | (with_reducible refine Kd.C_drewN ?_ _) | (with_reducible refine Kd.C_drew ?_)))
                              (case aB => exact (by repeat (first | (with_reducible first | exact HB.out | apply below_alloc | apply pw_below_drewN | apply below_drew1 | refine below_set ?_ GE228.out | refine below_set ?_ GE239.out) | exact HB.out)))
                              (case aF => exact (fun k_ hk => ⟨Kd.fresh' (Kd.R_lt (by (with_reducible repeat (first | apply Kd.R_alloc | apply Kd.R_drewN | apply Kd.R_drew)); exact HO_0.out)) k_ hk, Kd.freshB (g := gb239) (o := .cells #[.int .u64 (IntKind.u64.wrap (t232 + 1)), .string a1_0, .string a1_1, .bool a1_2] 39 (0, 0)) (by (with_reducible repeat (first | refine blk_drewN ?_ _ | refine blk_drew ?_ | refine blk_alloc ?_ _)); exact BK239.out) k_ hk⟩))
                              (case aO => exact (by (with_reducible repeat (first | apply Kd.R_alloc | apply Kd.R_drewN | apply Kd.R_drew)); exact Kd.R_mono HO242.out (fun _ hk => ⟨hk.1.2, hk.2⟩)))
                              (case aS => exact (below_size (by repeat (first | (with_reducible first | exact HB.out | apply below_alloc | apply pw_below_drewN | apply below_drew1 | refine below_set ?_ GE228.out | refine below_set ?_ GE239.out) | exact HB.out))))
                              (case aL => have := LMc26.out; omega)
                              intro v244 w37 ho hb hg hat
                              rw [← Ny243.out] at ho
                              have n0_ := Aside0.mk (Kd.R_after (ok := (fun k_ => k_ ≠ gb239)) (by (with_reducible repeat (first | apply Kd.R_alloc | apply Kd.R_drewN | apply Kd.R_drew)); exact HO_0.out) hg hat)
                              have n1_ := Aside0.mk (blk_grown (g := gb228) (o := .cells #[.string a1_0, .string a1_1, .bool a1_2] 37 (0, 0)) (by (with_reducible repeat (first | refine blk_drewN ?_ _ | refine blk_drew ?_ | refine blk_alloc ?_ _)); exact BK228.out) hg (Kd.R_ne HO242.out BK228.out (by decide)))
                              have n2_ := Aside0.mk (blk_grown (g := gb239) (o := .cells #[.int .u64 (IntKind.u64.wrap (t232 + 1)), .string a1_0, .string a1_1, .bool a1_2] 39 (0, 0)) (by (with_reducible repeat (first | refine blk_drewN ?_ _ | refine blk_drew ?_ | refine blk_alloc ?_ _)); exact BK239.out) hg (Kd.R_away HO242.out (fun _ hk => hk.2)))
                              have n3_ := Aside0.mk (hb)
                              have n4_ := Aside0.mk (ho)
                              clear HO_0
                              clear BK228
                              clear BK239
                              clear HB
                              clear HO242
                              have HO_0 := n0_
                              have BK228 := n1_
                              have BK239 := n2_
                              have HB := n3_
                              have HO245 := n4_
                              clear n0_ n1_ n2_ n3_ n4_
                              clear ho hb hg hat
                              refine hK.out _ _ ⟨(blk_cell BK239.out 0).trans rfl, (blk_cell BK239.out 1).trans rfl, (blk_cell BK239.out 2).trans rfl, (blk_cell BK239.out 3).trans rfl⟩ (fun hHeld => ?_)
                              clear hK K
                              refine norm_ (a' := ?_) ?_ ?_
                              rotate_left
                              · show Act.put _ (some 67) _ = _
                                simp only [Act.put, List.setIfInBounds_toArray, List.set_cons_zero, List.set_cons_succ, i64_w, i32_w]
                                rfl
                              refine one_ (i := 4) (N := some 69) #[true, true, true, true, true, false, true, false, false] rfl rfl (one_of HT_.out (by kernel_rfl)) (by decide) (fun K hK => ?_)
                              refine Kd.R_lit_step k39 _ 39 ?hg (N := 69) ?hd (xs := ([(⟨IntKind.u64.wrap (t232 + 1), (⟨a1_0, a1_1, a1_2⟩ : S37)⟩ : S39)] : List (S39))) (inner := [.int .u64 (IntKind.u64.wrap (t232 + 1)), .string a1_0, .string a1_1, .bool a1_2]) (ok := fun _ => True) (okp := fun _ => True) ?hr ?hp (fun _ hk => hk) trivial (Below.refl _ _) (Nat.le_refl _) (by simp) ?_; (case hd => rfl); (case hg => rfl); (case hr => first | (go_simp; done) | (go_simp; rfl)); (case hp => exact (Reps.c4 (show Kd.M k39 _ _ _ (⟨IntKind.u64.wrap (t232 + 1), (⟨a1_0, a1_1, a1_2⟩ : S37)⟩ : S39) [.int .u64 (IntKind.u64.wrap (t232 + 1)), .string a1_0, .string a1_1, .bool a1_2] from (k39_mkM _ _ _ (⟨IntKind.u64.wrap (t232 + 1), (⟨a1_0, a1_1, a1_2⟩ : S37)⟩ : S39) )) (Reps.none _ _)))
                              intro v247 w38 ho39 hb hg_ hnew_
                              clear hg_ hnew_
                              (first | rw [← Ny246.out] at ho39 | (simp only [Int.reduceToNat] at ho39; rw [← Ny246.out] at ho39))
                              have n0_ := Aside0.mk (Kd.R_elder' (by (with_reducible repeat (first | apply Kd.R_alloc | apply Kd.R_drewN | apply Kd.R_drew)); exact HO_0.out) (Kd.R_base ho39) hb)
                              have n1_ := Aside0.mk (Kd.R_elder' (by (with_reducible repeat (first | apply Kd.R_alloc | apply Kd.R_drewN | apply Kd.R_drew)); exact HO245.out) (Kd.R_base ho39) hb)
                              have n2_ := Aside0.mk (Kd.R_lower (Kd.R_newB (Kd.R_new' (Kd.R_new' ho39 (Kd.R_lt (by (with_reducible repeat (first | apply Kd.R_alloc | apply Kd.R_drewN | apply Kd.R_drew)); exact HO_0.out))) (Kd.R_lt (by (with_reducible repeat (first | apply Kd.R_alloc | apply Kd.R_drewN | apply Kd.R_drew)); exact HO245.out))) (g := gb239) (o := .cells #[.int .u64 (IntKind.u64.wrap (t232 + 1)), .string a1_0, .string a1_1, .bool a1_2] 39 (0, 0)) (by (with_reducible repeat (first | refine blk_drewN ?_ _ | refine blk_drew ?_ | refine blk_alloc ?_ _)); exact BK239.out)) (below_size (by repeat (first | (with_reducible first | exact HB.out | apply below_alloc | apply pw_below_drewN | apply below_drew1 | refine below_set ?_ GE228.out | refine below_set ?_ GE239.out) | exact HB.out))))
                              have n3_ := Aside0.mk (blk_below (g := gb228) (o := .cells #[.string a1_0, .string a1_1, .bool a1_2] 37 (0, 0)) (by (with_reducible repeat (first | refine blk_drewN ?_ _ | refine blk_drew ?_ | refine blk_alloc ?_ _)); exact BK228.out) hb)
                              have n4_ := Aside0.mk (blk_below (g := gb239) (o := .cells #[.int .u64 (IntKind.u64.wrap (t232 + 1)), .string a1_0, .string a1_1, .bool a1_2] 39 (0, 0)) (by (with_reducible repeat (first | refine blk_drewN ?_ _ | refine blk_drew ?_ | refine blk_alloc ?_ _)); exact BK239.out) hb)
                              have n5_ := Aside0.mk (below_step (by repeat (first | (with_reducible first | exact HB.out | apply below_alloc | apply pw_below_drewN | apply below_drew1 | refine below_set ?_ GE228.out | refine below_set ?_ GE239.out) | exact HB.out)) hb)
                              clear HO_0
                              clear HO245
                              clear BK228
                              clear BK239
                              clear HB
                              have HO_0 := n0_
                              have HO245 := n1_
                              have HO248 := n2_
                              have BK228 := n3_
                              have BK239 := n4_
                              have HB := n5_
                              clear n0_ n1_ n2_ n3_ n4_ n5_
                              clear hb ho39
                              refine hK.out _ _ ⟨(blk_cell BK239.out 0).trans rfl, (blk_cell BK239.out 1).trans rfl, (blk_cell BK239.out 2).trans rfl, (blk_cell BK239.out 3).trans rfl⟩ (fun hHeld => ?_)
                              clear hK K
                              refine norm_ (a' := ?_) ?_ ?_
                              rotate_left
                              · show Act.put _ (some 69) _ = _
                                simp only [Act.put, List.setIfInBounds_toArray, List.set_cons_zero, List.set_cons_succ, i64_w, i32_w]
                                rfl
                              exact norm_ (by simp only [putAll, Act.put, List.setIfInBounds_toArray, List.set_cons_zero, List.set_cons_succ]) (hCont (v241, v244, v247) _ ⟨hHeld, (by (with_reducible repeat (first | apply Kd.R_alloc | apply Kd.R_drewN | apply Kd.R_drew)); exact Kd.R_mono HO245.out (fun _ hk => ⟨hk.2, ⟨hk.1.1, hk.1.2⟩⟩)), (by (with_reducible repeat (first | apply Kd.R_alloc | apply Kd.R_drewN | apply Kd.R_drew)); exact Kd.R_mono HO248.out (fun _ hk => ⟨hk.1.2, ⟨hk.1.1.2, hk.2⟩⟩)), (by (with_reducible repeat (first | apply Kd.R_alloc | apply Kd.R_drewN | apply Kd.R_drew)); exact Kd.R_mono HO_0.out (fun _ hk => ⟨hk.1.2, ⟨hk.2, hk.1.1⟩⟩)), (by (with_reducible repeat (first | refine blk_drewN ?_ _ | refine blk_drew ?_ | refine blk_alloc ?_ _)); exact BK228.out), (by (with_reducible repeat (first | refine blk_drewN ?_ _ | refine blk_drew ?_ | refine blk_alloc ?_ _)); exact BK239.out), (by repeat (first | (with_reducible first | exact HB.out | apply below_alloc | apply pw_below_drewN | apply below_drew1 | refine below_set ?_ GE228.out | refine below_set ?_ GE239.out) | exact HB.out))⟩)
                            · skip
                              refine Kd.R_lit_step k39 _ 39 ?hg (N := 69) ?hd (xs := ([(⟨IntKind.u64.wrap (t232 + 1), (⟨a1_0, a1_1, a1_2⟩ : S37)⟩ : S39)] : List (S39))) (inner := [.int .u64 (IntKind.u64.wrap (t232 + 1)), .string a1_0, .string a1_1, .bool a1_2]) (ok := fun _ => True) (okp := fun _ => True) ?hr ?hp (fun _ hk => hk) trivial (Below.refl _ _) (Nat.le_refl _) (by simp) ?_; (case hd => rfl); (case hg => rfl); (case hr => first | (go_simp; done) | (go_simp; rfl)); (case hp => exact (Reps.c4 (show Kd.M k39 _ _ _ (⟨IntKind.u64.wrap (t232 + 1), (⟨a1_0, a1_1, a1_2⟩ : S37)⟩ : S39) [.int .u64 (IntKind.u64.wrap (t232 + 1)), .string a1_0, .string a1_1, .bool a1_2] from (k39_mkM _ _ _ (⟨IntKind.u64.wrap (t232 + 1), (⟨a1_0, a1_1, a1_2⟩ : S37)⟩ : S39) )) (Reps.none _ _)))
                              intro v247 w37 ho38 hb hg_ hnew_
                              clear hg_ hnew_
                              (first | rw [← Ny246.out] at ho38 | (simp only [Int.reduceToNat] at ho38; rw [← Ny246.out] at ho38))
                              have n0_ := Aside0.mk (Kd.R_elder' (by (with_reducible repeat (first | apply Kd.R_alloc | apply Kd.R_drewN | apply Kd.R_drew)); exact HO_0.out) (Kd.R_base ho38) hb)
                              have n1_ := Aside0.mk (Kd.R_elder' (by (with_reducible repeat (first | apply Kd.R_alloc | apply Kd.R_drewN | apply Kd.R_drew)); exact HO242.out) (Kd.R_base ho38) hb)
                              have n2_ := Aside0.mk (Kd.R_lower (Kd.R_newB (Kd.R_new' (Kd.R_new' ho38 (Kd.R_lt (by (with_reducible repeat (first | apply Kd.R_alloc | apply Kd.R_drewN | apply Kd.R_drew)); exact HO_0.out))) (Kd.R_lt (by (with_reducible repeat (first | apply Kd.R_alloc | apply Kd.R_drewN | apply Kd.R_drew)); exact HO242.out))) (g := gb239) (o := .cells #[.int .u64 (IntKind.u64.wrap (t232 + 1)), .string a1_0, .string a1_1, .bool a1_2] 39 (0, 0)) (by (with_reducible repeat (first | refine blk_drewN ?_ _ | refine blk_drew ?_ | refine blk_alloc ?_ _)); exact BK239.out)) (below_size (by repeat (first | (with_reducible first | exact HB.out | apply below_alloc | apply pw_below_drewN | apply below_drew1 | refine below_set ?_ GE228.out | refine below_set ?_ GE239.out) | exact HB.out))))
                              have n3_ := Aside0.mk (blk_below (g := gb228) (o := .cells #[.string a1_0, .string a1_1, .bool a1_2] 37 (0, 0)) (by (with_reducible repeat (first | refine blk_drewN ?_ _ | refine blk_drew ?_ | refine blk_alloc ?_ _)); exact BK228.out) hb)
                              have n4_ := Aside0.mk (blk_below (g := gb239) (o := .cells #[.int .u64 (IntKind.u64.wrap (t232 + 1)), .string a1_0, .string a1_1, .bool a1_2] 39 (0, 0)) (by (with_reducible repeat (first | refine blk_drewN ?_ _ | refine blk_drew ?_ | refine blk_alloc ?_ _)); exact BK239.out) hb)
                              have n5_ := Aside0.mk (below_step (by repeat (first | (with_reducible first | exact HB.out | apply below_alloc | apply pw_below_drewN | apply below_drew1 | refine below_set ?_ GE228.out | refine below_set ?_ GE239.out) | exact HB.out)) hb)
                              clear HO_0
                              clear HO242
                              clear BK228
                              clear BK239
                              clear HB
                              have HO_0 := n0_
                              have HO242 := n1_
                              have HO248 := n2_
                              have BK228 := n3_
                              have BK239 := n4_
                              have HB := n5_
                              clear n0_ n1_ n2_ n3_ n4_ n5_
                              clear hb ho38
                              refine hK.out _ _ ⟨(blk_cell BK239.out 0).trans rfl, (blk_cell BK239.out 1).trans rfl, (blk_cell BK239.out 2).trans rfl, (blk_cell BK239.out 3).trans rfl⟩ (fun hHeld => ?_)
                              clear hK K
                              refine norm_ (a' := ?_) ?_ ?_
                              rotate_left
                              · show Act.put _ (some 69) _ = _
                                simp only [Act.put, List.setIfInBounds_toArray, List.set_cons_zero, List.set_cons_succ, i64_w, i32_w]
                                rfl
                              refine one_ (i := 2) (N := some 67) #[true, true, true, true, true, false, true, false, false] rfl rfl (one_of HT_.out (by kernel_rfl)) (by decide) (fun K hK => ?_)
                              refine Kd.R_append_rows_step k39 (w0 := w) w.heap.size (by rfl) (.tmp 65) (.tmp 66) 22 39 (.agg #[(.int .u64 0), (.string ⟨#[]⟩), (.string ⟨#[]⟩), (.bool false)]) 48 rfl Try.underlying22 info39 rfl (by decide) (by omega) v241 y240 t229 _ _ _ (fun k_ => some k_ ≠ (.slice Ao8 t229.length co8 : Value).ownBlock ∧ some k_ ≠ (v247 : Value).ownBlock ∧ k_ ≠ gb239) (fun _ => False) rfl rfl ?aO ?aR (fun _ _ h => h) (fun _ h => h.elim) ?aF ?aB ?aS ?aL ?_
                              (case aR => repeat (first | exact (Kd.R_reads' HO_0.out).2.2 | (with_reducible refine Kd.C_alloc ?_ _) | (with_reducible refine Kd.C_drewN ?_ _) | (with_reducible refine Kd.C_drew ?_)))
                              (case aB => exact (by repeat (first | (with_reducible first | exact HB.out | apply below_alloc | apply pw_below_drewN | apply below_drew1 | refine below_set ?_ GE228.out | refine below_set ?_ GE239.out) | exact HB.out)))
                              (case aF => exact (fun k_ hk => ⟨Kd.fresh' (Kd.R_lt (by (with_reducible repeat (first | apply Kd.R_alloc | apply Kd.R_drewN | apply Kd.R_drew)); exact HO_0.out)) k_ hk, Kd.fresh' (Kd.R_lt (by (with_reducible repeat (first | apply Kd.R_alloc | apply Kd.R_drewN | apply Kd.R_drew)); exact HO248.out)) k_ hk, Kd.freshB (g := gb239) (o := .cells #[.int .u64 (IntKind.u64.wrap (t232 + 1)), .string a1_0, .string a1_1, .bool a1_2] 39 (0, 0)) (by (with_reducible repeat (first | refine blk_drewN ?_ _ | refine blk_drew ?_ | refine blk_alloc ?_ _)); exact BK239.out) k_ hk⟩))
                              (case aO => exact (by (with_reducible repeat (first | apply Kd.R_alloc | apply Kd.R_drewN | apply Kd.R_drew)); exact Kd.R_mono HO242.out (fun _ hk => ⟨hk.1.1.2, ⟨hk.2, hk.1.2⟩⟩)))
                              (case aS => exact (below_size (by repeat (first | (with_reducible first | exact HB.out | apply below_alloc | apply pw_below_drewN | apply below_drew1 | refine below_set ?_ GE228.out | refine below_set ?_ GE239.out) | exact HB.out))))
                              (case aL => have := LMc26.out; omega)
                              intro v244 w39 ho hb hg hat
                              rw [← Ny243.out] at ho
                              have n0_ := Aside0.mk (Kd.R_after (ok := (fun k_ => some k_ ≠ (v247 : Value).ownBlock ∧ k_ ≠ gb239)) (by (with_reducible repeat (first | apply Kd.R_alloc | apply Kd.R_drewN | apply Kd.R_drew)); exact Kd.R_mono HO_0.out (fun _ hk => ⟨⟨hk.2, hk.1.1⟩, hk.1.2⟩)) hg hat)
                              have n1_ := Aside0.mk (blk_grown (g := gb228) (o := .cells #[.string a1_0, .string a1_1, .bool a1_2] 37 (0, 0)) (by (with_reducible repeat (first | refine blk_drewN ?_ _ | refine blk_drew ?_ | refine blk_alloc ?_ _)); exact BK228.out) hg (Kd.R_ne HO242.out BK228.out (by decide)))
                              have n2_ := Aside0.mk (blk_grown (g := gb239) (o := .cells #[.int .u64 (IntKind.u64.wrap (t232 + 1)), .string a1_0, .string a1_1, .bool a1_2] 39 (0, 0)) (by (with_reducible repeat (first | refine blk_drewN ?_ _ | refine blk_drew ?_ | refine blk_alloc ?_ _)); exact BK239.out) hg (Kd.R_away HO242.out (fun _ hk => hk.1.2)))
                              have n3_ := Aside0.mk (Kd.R_after (ok := (fun k_ => some k_ ≠ (.slice Ao8 t229.length co8 : Value).ownBlock ∧ k_ ≠ gb239)) (by (with_reducible repeat (first | apply Kd.R_alloc | apply Kd.R_drewN | apply Kd.R_drew)); exact Kd.R_mono HO248.out (fun _ hk => ⟨⟨hk.1.1.2, hk.2⟩, hk.1.2⟩)) hg hat)
                              have n4_ := Aside0.mk (hb)
                              have n5_ := Aside0.mk (ho)
                              clear HO_0
                              clear BK228
                              clear BK239
                              clear HO248
                              clear HB
                              clear HO242
                              have HO_0 := n0_
                              have BK228 := n1_
                              have BK239 := n2_
                              have HO248 := n3_
                              have HB := n4_
                              have HO245 := n5_
                              clear n0_ n1_ n2_ n3_ n4_ n5_
                              clear ho hb hg hat
                              refine hK.out _ _ ⟨(blk_cell BK239.out 0).trans rfl, (blk_cell BK239.out 1).trans rfl, (blk_cell BK239.out 2).trans rfl, (blk_cell BK239.out 3).trans rfl⟩ (fun hHeld => ?_)
                              clear hK K
                              refine norm_ (a' := ?_) ?_ ?_
                              rotate_left
                              · show Act.put _ (some 67) _ = _
                                simp only [Act.put, List.setIfInBounds_toArray, List.set_cons_zero, List.set_cons_succ, i64_w, i32_w]
                                rfl
                              exact norm_ (by simp only [putAll, Act.put, List.setIfInBounds_toArray, List.set_cons_zero, List.set_cons_succ]) (hCont (v241, v244, v247) _ ⟨hHeld, (by (with_reducible repeat (first | apply Kd.R_alloc | apply Kd.R_drewN | apply Kd.R_drew)); exact Kd.R_mono HO245.out (fun _ hk => ⟨hk.2.1, ⟨hk.1, hk.2.2⟩⟩)), (by (with_reducible repeat (first | apply Kd.R_alloc | apply Kd.R_drewN | apply Kd.R_drew)); exact Kd.R_mono HO248.out (fun _ hk => ⟨hk.2, ⟨hk.1.1, hk.1.2⟩⟩)), (by (with_reducible repeat (first | apply Kd.R_alloc | apply Kd.R_drewN | apply Kd.R_drew)); exact Kd.R_mono HO_0.out (fun _ hk => ⟨hk.2, ⟨hk.1.1, hk.1.2⟩⟩)), (by (with_reducible repeat (first | refine blk_drewN ?_ _ | refine blk_drew ?_ | refine blk_alloc ?_ _)); exact BK228.out), (by (with_reducible repeat (first | refine blk_drewN ?_ _ | refine blk_drew ?_ | refine blk_alloc ?_ _)); exact BK239.out), (by repeat (first | (with_reducible first | exact HB.out | apply below_alloc | apply pw_below_drewN | apply below_drew1 | refine below_set ?_ GE228.out | refine below_set ?_ GE239.out) | exact HB.out))⟩)
                          · skip
                            refine Kd.R_lit_step k39 _ 39 ?hg (N := 69) ?hd (xs := ([(⟨IntKind.u64.wrap (t232 + 1), (⟨a1_0, a1_1, a1_2⟩ : S37)⟩ : S39)] : List (S39))) (inner := [.int .u64 (IntKind.u64.wrap (t232 + 1)), .string a1_0, .string a1_1, .bool a1_2]) (ok := fun _ => True) (okp := fun _ => True) ?hr ?hp (fun _ hk => hk) trivial (Below.refl _ _) (Nat.le_refl _) (by simp) ?_; (case hd => rfl); (case hg => rfl); (case hr => first | (go_simp; done) | (go_simp; rfl)); (case hp => exact (Reps.c4 (show Kd.M k39 _ _ _ (⟨IntKind.u64.wrap (t232 + 1), (⟨a1_0, a1_1, a1_2⟩ : S37)⟩ : S39) [.int .u64 (IntKind.u64.wrap (t232 + 1)), .string a1_0, .string a1_1, .bool a1_2] from (k39_mkM _ _ _ (⟨IntKind.u64.wrap (t232 + 1), (⟨a1_0, a1_1, a1_2⟩ : S37)⟩ : S39) )) (Reps.none _ _)))
                            intro v247 w35 ho36 hb hg_ hnew_
                            clear hg_ hnew_
                            (first | rw [← Ny246.out] at ho36 | (simp only [Int.reduceToNat] at ho36; rw [← Ny246.out] at ho36))
                            have n0_ := Aside0.mk (Kd.R_elder' (by (with_reducible repeat (first | apply Kd.R_alloc | apply Kd.R_drewN | apply Kd.R_drew)); exact HO_0.out) (Kd.R_base ho36) hb)
                            have n1_ := Aside0.mk (Kd.R_lower (Kd.R_newB (Kd.R_new' ho36 (Kd.R_lt (by (with_reducible repeat (first | apply Kd.R_alloc | apply Kd.R_drewN | apply Kd.R_drew)); exact HO_0.out))) (g := gb239) (o := .cells #[.int .u64 (IntKind.u64.wrap (t232 + 1)), .string a1_0, .string a1_1, .bool a1_2] 39 (0, 0)) (by (with_reducible repeat (first | refine blk_drewN ?_ _ | refine blk_drew ?_ | refine blk_alloc ?_ _)); exact BK239.out)) (below_size (by repeat (first | (with_reducible first | exact HB.out | apply below_alloc | apply pw_below_drewN | apply below_drew1 | refine below_set ?_ GE228.out | refine below_set ?_ GE239.out) | exact HB.out))))
                            have n2_ := Aside0.mk (blk_below (g := gb228) (o := .cells #[.string a1_0, .string a1_1, .bool a1_2] 37 (0, 0)) (by (with_reducible repeat (first | refine blk_drewN ?_ _ | refine blk_drew ?_ | refine blk_alloc ?_ _)); exact BK228.out) hb)
                            have n3_ := Aside0.mk (blk_below (g := gb239) (o := .cells #[.int .u64 (IntKind.u64.wrap (t232 + 1)), .string a1_0, .string a1_1, .bool a1_2] 39 (0, 0)) (by (with_reducible repeat (first | refine blk_drewN ?_ _ | refine blk_drew ?_ | refine blk_alloc ?_ _)); exact BK239.out) hb)
                            have n4_ := Aside0.mk (below_step (by repeat (first | (with_reducible first | exact HB.out | apply below_alloc | apply pw_below_drewN | apply below_drew1 | refine below_set ?_ GE228.out | refine below_set ?_ GE239.out) | exact HB.out)) hb)
                            clear HO_0
                            clear BK228
                            clear BK239
                            clear HB
                            have HO_0 := n0_
                            have HO248 := n1_
                            have BK228 := n2_
                            have BK239 := n3_
                            have HB := n4_
                            clear n0_ n1_ n2_ n3_ n4_
                            clear hb ho36
                            refine hK.out _ _ ⟨(blk_cell BK239.out 0).trans rfl, (blk_cell BK239.out 1).trans rfl, (blk_cell BK239.out 2).trans rfl, (blk_cell BK239.out 3).trans rfl⟩ (fun hHeld => ?_)
                            clear hK K
                            refine norm_ (a' := ?_) ?_ ?_
                            rotate_left
                            · show Act.put _ (some 69) _ = _
                              simp only [Act.put, List.setIfInBounds_toArray, List.set_cons_zero, List.set_cons_succ, i64_w, i32_w]
                              rfl
                            refine one_ (i := 0) (N := some 65) #[true, true, false, true, true, false, true, false, false] rfl rfl (one_of HT_.out (by kernel_rfl)) (by decide) (fun K hK => ?_)
                            refine Kd.R_lit_step k39 _ 39 ?hg (N := 65) ?hd (xs := ([] : List (S39))) (inner := []) (ok := fun _ => True) (okp := fun _ => True) ?hr ?hp (fun _ hk => hk) trivial (Below.refl _ _) (Nat.le_refl _) (by simp) ?_; (case hd => rfl); (case hg => rfl); (case hr => first | (go_simp; done) | (go_simp; rfl)); (case hp => exact (Reps.none _ _))
                            intro v241 w37 ho38 hb hg_ hnew_
                            clear hg_ hnew_
                            (first | rw [← Ny240.out] at ho38 | (simp only [Int.reduceToNat] at ho38; rw [← Ny240.out] at ho38))
                            have n0_ := Aside0.mk (Kd.R_elder' (by (with_reducible repeat (first | apply Kd.R_alloc | apply Kd.R_drewN | apply Kd.R_drew)); exact HO_0.out) (Kd.R_base ho38) hb)
                            have n1_ := Aside0.mk (Kd.R_elder' (by (with_reducible repeat (first | apply Kd.R_alloc | apply Kd.R_drewN | apply Kd.R_drew)); exact HO248.out) (Kd.R_base ho38) hb)
                            have n2_ := Aside0.mk (Kd.R_lower (Kd.R_newB (Kd.R_new' (Kd.R_new' ho38 (Kd.R_lt (by (with_reducible repeat (first | apply Kd.R_alloc | apply Kd.R_drewN | apply Kd.R_drew)); exact HO_0.out))) (Kd.R_lt (by (with_reducible repeat (first | apply Kd.R_alloc | apply Kd.R_drewN | apply Kd.R_drew)); exact HO248.out))) (g := gb239) (o := .cells #[.int .u64 (IntKind.u64.wrap (t232 + 1)), .string a1_0, .string a1_1, .bool a1_2] 39 (0, 0)) (by (with_reducible repeat (first | refine blk_drewN ?_ _ | refine blk_drew ?_ | refine blk_alloc ?_ _)); exact BK239.out)) (below_size (by repeat (first | (with_reducible first | exact HB.out | apply below_alloc | apply pw_below_drewN | apply below_drew1 | refine below_set ?_ GE228.out | refine below_set ?_ GE239.out) | exact HB.out))))
                            have n3_ := Aside0.mk (blk_below (g := gb228) (o := .cells #[.string a1_0, .string a1_1, .bool a1_2] 37 (0, 0)) (by (with_reducible repeat (first | refine blk_drewN ?_ _ | refine blk_drew ?_ | refine blk_alloc ?_ _)); exact BK228.out) hb)
                            have n4_ := Aside0.mk (blk_below (g := gb239) (o := .cells #[.int .u64 (IntKind.u64.wrap (t232 + 1)), .string a1_0, .string a1_1, .bool a1_2] 39 (0, 0)) (by (with_reducible repeat (first | refine blk_drewN ?_ _ | refine blk_drew ?_ | refine blk_alloc ?_ _)); exact BK239.out) hb)
                            have n5_ := Aside0.mk (below_step (by repeat (first | (with_reducible first | exact HB.out | apply below_alloc | apply pw_below_drewN | apply below_drew1 | refine below_set ?_ GE228.out | refine below_set ?_ GE239.out) | exact HB.out)) hb)
                            clear HO_0
                            clear HO248
                            clear BK228
                            clear BK239
                            clear HB
                            have HO_0 := n0_
                            have HO248 := n1_
                            have HO242 := n2_
                            have BK228 := n3_
                            have BK239 := n4_
                            have HB := n5_
                            clear n0_ n1_ n2_ n3_ n4_ n5_
                            clear hb ho38
                            refine hK.out _ _ ⟨(blk_cell BK239.out 0).trans rfl, (blk_cell BK239.out 1).trans rfl, (blk_cell BK239.out 2).trans rfl, (blk_cell BK239.out 3).trans rfl⟩ (fun hHeld => ?_)
                            clear hK K
                            refine norm_ (a' := ?_) ?_ ?_
                            rotate_left
                            · show Act.put _ (some 65) _ = _
                              simp only [Act.put, List.setIfInBounds_toArray, List.set_cons_zero, List.set_cons_succ, i64_w, i32_w]
                              rfl
                            refine one_ (i := 2) (N := some 67) #[true, true, true, true, true, false, true, false, false] rfl rfl (one_of HT_.out (by kernel_rfl)) (by decide) (fun K hK => ?_)
                            refine Kd.R_append_rows_step k39 (w0 := w) w.heap.size (by rfl) (.tmp 65) (.tmp 66) 22 39 (.agg #[(.int .u64 0), (.string ⟨#[]⟩), (.string ⟨#[]⟩), (.bool false)]) 48 rfl Try.underlying22 info39 rfl (by decide) (by omega) v241 y240 t229 _ _ _ (fun k_ => some k_ ≠ (.slice Ao8 t229.length co8 : Value).ownBlock ∧ some k_ ≠ (v247 : Value).ownBlock ∧ k_ ≠ gb239) (fun _ => False) rfl rfl ?aO ?aR (fun _ _ h => h) (fun _ h => h.elim) ?aF ?aB ?aS ?aL ?_
                            (case aR => repeat (first | exact (Kd.R_reads' HO_0.out).2.2 | (with_reducible refine Kd.C_alloc ?_ _) | (with_reducible refine Kd.C_drewN ?_ _) | (with_reducible refine Kd.C_drew ?_)))
                            (case aB => exact (by repeat (first | (with_reducible first | exact HB.out | apply below_alloc | apply pw_below_drewN | apply below_drew1 | refine below_set ?_ GE228.out | refine below_set ?_ GE239.out) | exact HB.out)))
                            (case aF => exact (fun k_ hk => ⟨Kd.fresh' (Kd.R_lt (by (with_reducible repeat (first | apply Kd.R_alloc | apply Kd.R_drewN | apply Kd.R_drew)); exact HO_0.out)) k_ hk, Kd.fresh' (Kd.R_lt (by (with_reducible repeat (first | apply Kd.R_alloc | apply Kd.R_drewN | apply Kd.R_drew)); exact HO248.out)) k_ hk, Kd.freshB (g := gb239) (o := .cells #[.int .u64 (IntKind.u64.wrap (t232 + 1)), .string a1_0, .string a1_1, .bool a1_2] 39 (0, 0)) (by (with_reducible repeat (first | refine blk_drewN ?_ _ | refine blk_drew ?_ | refine blk_alloc ?_ _)); exact BK239.out) k_ hk⟩))
                            (case aO => exact (by (with_reducible repeat (first | apply Kd.R_alloc | apply Kd.R_drewN | apply Kd.R_drew)); exact Kd.R_mono HO242.out (fun _ hk => ⟨hk.1.1.2, ⟨hk.1.2, hk.2⟩⟩)))
                            (case aS => exact (below_size (by repeat (first | (with_reducible first | exact HB.out | apply below_alloc | apply pw_below_drewN | apply below_drew1 | refine below_set ?_ GE228.out | refine below_set ?_ GE239.out) | exact HB.out))))
                            (case aL => have := LMc26.out; omega)
                            intro v244 w39 ho hb hg hat
                            rw [← Ny243.out] at ho
                            have n0_ := Aside0.mk (Kd.R_after (ok := (fun k_ => some k_ ≠ (v247 : Value).ownBlock ∧ k_ ≠ gb239)) (by (with_reducible repeat (first | apply Kd.R_alloc | apply Kd.R_drewN | apply Kd.R_drew)); exact Kd.R_mono HO_0.out (fun _ hk => ⟨⟨hk.1.2, hk.1.1⟩, hk.2⟩)) hg hat)
                            have n1_ := Aside0.mk (blk_grown (g := gb228) (o := .cells #[.string a1_0, .string a1_1, .bool a1_2] 37 (0, 0)) (by (with_reducible repeat (first | refine blk_drewN ?_ _ | refine blk_drew ?_ | refine blk_alloc ?_ _)); exact BK228.out) hg (Kd.R_ne HO242.out BK228.out (by decide)))
                            have n2_ := Aside0.mk (blk_grown (g := gb239) (o := .cells #[.int .u64 (IntKind.u64.wrap (t232 + 1)), .string a1_0, .string a1_1, .bool a1_2] 39 (0, 0)) (by (with_reducible repeat (first | refine blk_drewN ?_ _ | refine blk_drew ?_ | refine blk_alloc ?_ _)); exact BK239.out) hg (Kd.R_away HO242.out (fun _ hk => hk.2)))
                            have n3_ := Aside0.mk (Kd.R_after (ok := (fun k_ => some k_ ≠ (.slice Ao8 t229.length co8 : Value).ownBlock ∧ k_ ≠ gb239)) (by (with_reducible repeat (first | apply Kd.R_alloc | apply Kd.R_drewN | apply Kd.R_drew)); exact Kd.R_mono HO248.out (fun _ hk => ⟨⟨hk.1.1.2, hk.1.2⟩, hk.2⟩)) hg hat)
                            have n4_ := Aside0.mk (hb)
                            have n5_ := Aside0.mk (ho)
                            clear HO_0
                            clear BK228
                            clear BK239
                            clear HO248
                            clear HB
                            clear HO242
                            have HO_0 := n0_
                            have BK228 := n1_
                            have BK239 := n2_
                            have HO248 := n3_
                            have HB := n4_
                            have HO245 := n5_
                            clear n0_ n1_ n2_ n3_ n4_ n5_
                            clear ho hb hg hat
                            refine hK.out _ _ ⟨(blk_cell BK239.out 0).trans rfl, (blk_cell BK239.out 1).trans rfl, (blk_cell BK239.out 2).trans rfl, (blk_cell BK239.out 3).trans rfl⟩ (fun hHeld => ?_)
                            clear hK K
                            refine norm_ (a' := ?_) ?_ ?_
                            rotate_left
                            · show Act.put _ (some 67) _ = _
                              simp only [Act.put, List.setIfInBounds_toArray, List.set_cons_zero, List.set_cons_succ, i64_w, i32_w]
                              rfl
                            exact norm_ (by simp only [putAll, Act.put, List.setIfInBounds_toArray, List.set_cons_zero, List.set_cons_succ]) (hCont (v241, v244, v247) _ ⟨hHeld, (by (with_reducible repeat (first | apply Kd.R_alloc | apply Kd.R_drewN | apply Kd.R_drew)); exact Kd.R_mono HO245.out (fun _ hk => ⟨hk.2.1, ⟨hk.1, hk.2.2⟩⟩)), (by (with_reducible repeat (first | apply Kd.R_alloc | apply Kd.R_drewN | apply Kd.R_drew)); exact Kd.R_mono HO248.out (fun _ hk => ⟨hk.2, ⟨hk.1.1, hk.1.2⟩⟩)), (by (with_reducible repeat (first | apply Kd.R_alloc | apply Kd.R_drewN | apply Kd.R_drew)); exact Kd.R_mono HO_0.out (fun _ hk => ⟨hk.2, ⟨hk.1.1, hk.1.2⟩⟩)), (by (with_reducible repeat (first | refine blk_drewN ?_ _ | refine blk_drew ?_ | refine blk_alloc ?_ _)); exact BK228.out), (by (with_reducible repeat (first | refine blk_drewN ?_ _ | refine blk_drew ?_ | refine blk_alloc ?_ _)); exact BK239.out), (by repeat (first | (with_reducible first | exact HB.out | apply below_alloc | apply pw_below_drewN | apply below_drew1 | refine below_set ?_ GE228.out | refine below_set ?_ GE239.out) | exact HB.out))⟩)
                        rintro ⟨v241, v244, v247⟩ w40 ⟨hS_, h0_, h1_, h2_, h3_, h4_, h5_⟩
                        have n0_ : Aside0 (Kd.R k39 39 w40 w.heap.size (fun k_ => some k_ ≠ (v247 : Value).ownBlock ∧ some k_ ≠ (.slice Ao8 t229.length co8 : Value).ownBlock ∧ k_ ≠ gb239) v244 y243) := ⟨h0_⟩
                        have n1_ : Aside0 (Kd.R k39 39 w40 w.heap.size (fun k_ => some k_ ≠ (v244 : Value).ownBlock ∧ some k_ ≠ (.slice Ao8 t229.length co8 : Value).ownBlock ∧ k_ ≠ gb239) v247 y246) := ⟨h1_⟩
                        have n2_ : Aside0 (Kd.R k39 39 w40 w.heap.size (fun k_ => some k_ ≠ (v244 : Value).ownBlock ∧ some k_ ≠ (v247 : Value).ownBlock ∧ k_ ≠ gb239) (.slice Ao8 t229.length co8) t229) := ⟨h2_⟩
                        have n3_ : Aside0 (w40.heap[gb228]? = some (.cells #[.string a1_0, .string a1_1, .bool a1_2] 37 (0, 0))) := ⟨h3_⟩
                        have n4_ : Aside0 (w40.heap[gb239]? = some (.cells #[.int .u64 (IntKind.u64.wrap (t232 + 1)), .string a1_0, .string a1_1, .bool a1_2] 39 (0, 0))) := ⟨h4_⟩
                        have n5_ : Aside0 (Below w.heap.size w w40) := ⟨h5_⟩
                        clear HO_0
                        clear BK228
                        clear BK239
                        clear HB
                        clear h0_ h1_ h2_ h3_ h4_ h5_
                        have HO245 := n0_
                        have HO248 := n1_
                        have HO_0 := n2_
                        have BK228 := n3_
                        have BK239 := n4_
                        have HB := n5_
                        clear n0_ n1_ n2_ n3_ n4_ n5_
                        have hHeld : w40.cell? ⟨gb239, 0, none⟩ = some (.int .u64 (IntKind.u64.wrap (t232 + 1))) ∧ w40.cell? ⟨gb239, 1, none⟩ = some (.string a1_0) ∧ w40.cell? ⟨gb239, 2, none⟩ = some (.string a1_1) ∧ w40.cell? ⟨gb239, 3, none⟩ = some (.bool a1_2) := hS_
                        obtain ⟨Ao42, co42, eo42⟩ := Kd.R_slice HO248.out
                        (first | subst eo42 | (injection eo42 with f1_ f2_ f3_; have f4_ := f1_.symm; have f5_ := f3_.symm; clear f1_ f2_ f3_; subst f4_; subst f5_))
                        refine norm_ (a' := ?_) ?_ ?_
                        rotate_left
                        · simp only [putAll, Act.put, List.setIfInBounds_toArray, List.set_cons_zero, List.set_cons_succ]
                          rfl
                        refine one_ (i := 5) (N := some 70) #[true, true, true, true, true, true, true, false, false] rfl rfl (one_of HT_.out (by kernel_rfl)) (by decide) (fun K hK => ?_)
                        refine Kd.R_append_rows_step k39 (w0 := w) w.heap.size (by rfl) (.tmp 67) (.tmp 69) 22 39 (.agg #[(.int .u64 0), (.string ⟨#[]⟩), (.string ⟨#[]⟩), (.bool false)]) 48 rfl Try.underlying22 info39 rfl (by decide) (by omega) v244 y243 y246 _ _ _ (fun k_ => some k_ ≠ (.slice Ao8 t229.length co8 : Value).ownBlock ∧ some k_ ≠ (.slice Ao42 y246.length co42 : Value).ownBlock ∧ k_ ≠ gb239) (fun _ => False) rfl rfl ?aO ?aR (fun _ _ h => h) (fun _ h => h.elim) ?aF ?aB ?aS ?aL ?_
                        (case aR => repeat (first | exact (Kd.R_reads' HO248.out).2.2 | (with_reducible refine Kd.C_alloc ?_ _) | (with_reducible refine Kd.C_drewN ?_ _) | (with_reducible refine Kd.C_drew ?_)))
                        (case aB => exact (by repeat (first | (with_reducible first | exact HB.out | apply below_alloc | apply pw_below_drewN | apply below_drew1 | refine below_set ?_ GE228.out | refine below_set ?_ GE239.out) | exact HB.out)))
                        (case aF => exact (fun k_ hk => ⟨Kd.fresh' (Kd.R_lt (by (with_reducible repeat (first | apply Kd.R_alloc | apply Kd.R_drewN | apply Kd.R_drew)); exact HO_0.out)) k_ hk, Kd.fresh' (Kd.R_lt (by (with_reducible repeat (first | apply Kd.R_alloc | apply Kd.R_drewN | apply Kd.R_drew)); exact HO248.out)) k_ hk, Kd.freshB (g := gb239) (o := .cells #[.int .u64 (IntKind.u64.wrap (t232 + 1)), .string a1_0, .string a1_1, .bool a1_2] 39 (0, 0)) (by (with_reducible repeat (first | refine blk_drewN ?_ _ | refine blk_drew ?_ | refine blk_alloc ?_ _)); exact BK239.out) k_ hk⟩))
                        (case aO => exact (by (with_reducible repeat (first | apply Kd.R_alloc | apply Kd.R_drewN | apply Kd.R_drew)); exact Kd.R_mono HO245.out (fun _ hk => ⟨hk.2.1, ⟨hk.1, hk.2.2⟩⟩)))
                        (case aS => exact (below_size (by repeat (first | (with_reducible first | exact HB.out | apply below_alloc | apply pw_below_drewN | apply below_drew1 | refine below_set ?_ GE228.out | refine below_set ?_ GE239.out) | exact HB.out))))
                        (case aL => have := LMc27.out; omega)
                        intro v250 w41 ho hb hg hat
                        rw [← Ny249.out] at ho
                        have n0_ := Aside0.mk (Kd.R_after (ok := (fun k_ => some k_ ≠ (.slice Ao42 y246.length co42 : Value).ownBlock ∧ k_ ≠ gb239)) (by (with_reducible repeat (first | apply Kd.R_alloc | apply Kd.R_drewN | apply Kd.R_drew)); exact Kd.R_mono HO_0.out (fun _ hk => ⟨⟨hk.2.1, hk.2.2⟩, hk.1⟩)) hg hat)
                        have n1_ := Aside0.mk (blk_grown (g := gb228) (o := .cells #[.string a1_0, .string a1_1, .bool a1_2] 37 (0, 0)) (by (with_reducible repeat (first | refine blk_drewN ?_ _ | refine blk_drew ?_ | refine blk_alloc ?_ _)); exact BK228.out) hg (Kd.R_ne HO245.out BK228.out (by decide)))
                        have n2_ := Aside0.mk (blk_grown (g := gb239) (o := .cells #[.int .u64 (IntKind.u64.wrap (t232 + 1)), .string a1_0, .string a1_1, .bool a1_2] 39 (0, 0)) (by (with_reducible repeat (first | refine blk_drewN ?_ _ | refine blk_drew ?_ | refine blk_alloc ?_ _)); exact BK239.out) hg (Kd.R_away HO245.out (fun _ hk => hk.2.2)))
                        have n3_ := Aside0.mk (Kd.R_after (ok := (fun k_ => some k_ ≠ (.slice Ao8 t229.length co8 : Value).ownBlock ∧ k_ ≠ gb239)) (by (with_reducible repeat (first | apply Kd.R_alloc | apply Kd.R_drewN | apply Kd.R_drew)); exact Kd.R_mono HO248.out (fun _ hk => ⟨⟨hk.2.1, hk.2.2⟩, hk.1⟩)) hg hat)
                        have n4_ := Aside0.mk (hb)
                        have n5_ := Aside0.mk (ho)
                        clear HO_0
                        clear BK228
                        clear BK239
                        clear HO248
                        clear HB
                        clear HO245
                        have HO_0 := n0_
                        have BK228 := n1_
                        have BK239 := n2_
                        have HO248 := n3_
                        have HB := n4_
                        have HO251 := n5_
                        clear n0_ n1_ n2_ n3_ n4_ n5_
                        clear ho hb hg hat
                        obtain ⟨Ao43, co43, eo43⟩ := Kd.R_slice HO251.out
                        (first | subst eo43 | (injection eo43 with f1_ f2_ f3_; have f4_ := f1_.symm; have f5_ := f3_.symm; clear f1_ f2_ f3_; subst f4_; subst f5_))
                        refine hK.out _ _ ⟨(blk_cell BK239.out 0).trans rfl, (blk_cell BK239.out 1).trans rfl, (blk_cell BK239.out 2).trans rfl, (blk_cell BK239.out 3).trans rfl⟩ (fun hHeld => ?_)
                        clear hK K
                        refine norm_ (a' := ?_) ?_ ?_
                        rotate_left
                        · show Act.put _ (some 70) _ = _
                          simp only [Act.put, List.setIfInBounds_toArray, List.set_cons_zero, List.set_cons_succ, i64_w, i32_w]
                          rfl
                        refine one_ (i := 7) (N := some 72) #[true, true, true, true, true, true, true, true, false] rfl rfl (one_of HT_.out (by kernel_rfl)) (by decide) (fun K hK => ?_)
                        refine goes_ Try.func20 (by kernel_rfl) rfl #[.slice Ao43 y249.length co43, .slice Ao8 t229.length co8] (by rfl) rfl rfl (by (try simp only [List.map_toArray, List.map_cons, List.map_nil]); first | done | rfl | (simp only [List.length_drop, List.length_take]; rfl)) ?_
                        with_reducible refine (change_Live.calls _ _ y249 _ _ t229 t252 _ ?side1 ?side2 ?side3 ?side4 A28.out).mono ?_
                        (case side1 => repeat (first | exact (Kd.R_reads' HO251.out).2.2 | (with_reducible refine Kd.C_alloc ?_ _) | (with_reducible refine Kd.C_drewN ?_ _) | (with_reducible refine Kd.C_drew ?_)))
                        (case side2 => exact (Kd.R_reads' HO251.out).2.1)
                        (case side3 => repeat (first | exact (Kd.R_reads' HO_0.out).2.2 | (with_reducible refine Kd.C_alloc ?_ _) | (with_reducible refine Kd.C_drewN ?_ _) | (with_reducible refine Kd.C_drew ?_)))
                        (case side4 => exact (Kd.R_reads' HO_0.out).2.1)
                        rintro e w44 ⟨v253, rfl, ho0, hb⟩
                        refine ⟨_, rfl, ?_⟩
                        have n0_ := Aside0.mk (Kd.R_elder' (by (with_reducible repeat (first | apply Kd.R_alloc | apply Kd.R_drewN | apply Kd.R_drew)); exact HO_0.out) (Kd.R_base ho0) hb)
                        have n1_ := Aside0.mk (Kd.R_elder' (by (with_reducible repeat (first | apply Kd.R_alloc | apply Kd.R_drewN | apply Kd.R_drew)); exact HO248.out) (Kd.R_base ho0) hb)
                        have n2_ := Aside0.mk (Kd.R_elder' (by (with_reducible repeat (first | apply Kd.R_alloc | apply Kd.R_drewN | apply Kd.R_drew)); exact HO251.out) (Kd.R_base ho0) hb)
                        have n3_ := Aside0.mk (Kd.R_lower (Kd.R_newB (Kd.R_new' (Kd.R_new' (Kd.R_new' ho0 (Kd.R_lt (by (with_reducible repeat (first | apply Kd.R_alloc | apply Kd.R_drewN | apply Kd.R_drew)); exact HO_0.out))) (Kd.R_lt (by (with_reducible repeat (first | apply Kd.R_alloc | apply Kd.R_drewN | apply Kd.R_drew)); exact HO248.out))) (Kd.R_lt (by (with_reducible repeat (first | apply Kd.R_alloc | apply Kd.R_drewN | apply Kd.R_drew)); exact HO251.out))) (g := gb239) (o := .cells #[.int .u64 (IntKind.u64.wrap (t232 + 1)), .string a1_0, .string a1_1, .bool a1_2] 39 (0, 0)) (by (with_reducible repeat (first | refine blk_drewN ?_ _ | refine blk_drew ?_ | refine blk_alloc ?_ _)); exact BK239.out)) (below_size (by repeat (first | (with_reducible first | exact HB.out | apply below_alloc | apply pw_below_drewN | apply below_drew1 | refine below_set ?_ GE228.out | refine below_set ?_ GE239.out) | exact HB.out))))
                        have n4_ := Aside0.mk (blk_below (g := gb228) (o := .cells #[.string a1_0, .string a1_1, .bool a1_2] 37 (0, 0)) (by (with_reducible repeat (first | refine blk_drewN ?_ _ | refine blk_drew ?_ | refine blk_alloc ?_ _)); exact BK228.out) hb)
                        have n5_ := Aside0.mk (blk_below (g := gb239) (o := .cells #[.int .u64 (IntKind.u64.wrap (t232 + 1)), .string a1_0, .string a1_1, .bool a1_2] 39 (0, 0)) (by (with_reducible repeat (first | refine blk_drewN ?_ _ | refine blk_drew ?_ | refine blk_alloc ?_ _)); exact BK239.out) hb)
                        have n6_ := Aside0.mk (below_step (by repeat (first | (with_reducible first | exact HB.out | apply below_alloc | apply pw_below_drewN | apply below_drew1 | refine below_set ?_ GE228.out | refine below_set ?_ GE239.out) | exact HB.out)) hb)
                        clear HO_0
                        clear HO248
                        clear HO251
                        clear BK228
                        clear BK239
                        clear HB
                        have HO_0 := n0_
                        have HO248 := n1_
                        have HO251 := n2_
                        have HO254 := n3_
                        have BK228 := n4_
                        have BK239 := n5_
                        have HB := n6_
                        clear n0_ n1_ n2_ n3_ n4_ n5_ n6_
                        (try clear hb)
                        (try clear hb2)
                        (try clear hk)
                        (try clear hi)
                        (try clear ho0)
                        refine hK.out _ _ ⟨(blk_cell BK239.out 0).trans rfl, (blk_cell BK239.out 1).trans rfl, (blk_cell BK239.out 2).trans rfl, (blk_cell BK239.out 3).trans rfl⟩ (fun hHeld => ?_)
                        clear hK K
                        refine norm_ (a' := ?_) ?_ ?_
                        rotate_left
                        · show Act.put _ (some 72) _ = _
                          simp only [Act.put, List.setIfInBounds_toArray, List.set_cons_zero, List.set_cons_succ, i64_w, i32_w]
                          rfl
                        refine pure_ (i := 8) (N := some 11) (v := ?_) (a' := ?_) #[true, true, true, true, true, true, true, true, true] rfl rfl (any_of HT_.out (by kernel_rfl)) (fun _ _ _ h => h) (Or.inl ⟨by rfl, ?_⟩) ?_ ?_
                        rotate_left
                        · intro w'
                          go_simp
                          with_reducible rfl
                        rotate_left
                        · simp only [Act.put, List.setIfInBounds_toArray, List.set_cons_zero, List.set_cons_succ, i64_w, i32_w]
                          rfl
                        refine done_ (done_of HT_.out (by kernel_rfl)) ?_
                        try go_wp2
                        go_loopg [12] kj18 (fun kq v12 w' => ∃ (x12_4 : Int), v12 = .int .i64 x12_4 ∧ Aside0 (cellarerlaw12_ChangeLast.l2 kq t252 x12_4 a1_0 a1_1 a1_2 = some r) ∧ Aside0 (kq ≤ kj18) ∧ Aside0 (Kd.R k39 39 w' w.heap.size (fun k_ => k_ ≠ gb239) v253 t252) ∧ Aside0 (w'.heap[gb228]? = some (.cells #[.string a1_0, .string a1_1, .bool a1_2] 37 (0, 0))) ∧ Aside0 (w'.heap[gb239]? = some (.cells #[.int .u64 (IntKind.u64.wrap (t232 + 1)), .string a1_0, .string a1_1, .bool a1_2] 39 (0, 0))) ∧ Aside0 (Below w.heap.size w w'))
                        case atStart => exact ⟨(0), (by first | rfl | (simp; done) | (simp [*]; done)), H', ⟨Nat.le_refl _⟩, ⟨by (with_reducible repeat (first | apply Kd.R_alloc | apply Kd.R_drewN | apply Kd.R_drew)); exact Kd.R_mono HO254.out (fun _ hk => hk.2)⟩, ⟨by (with_reducible repeat (first | refine blk_drewN ?_ _ | refine blk_drew ?_ | refine blk_alloc ?_ _)); exact BK228.out⟩, ⟨by (with_reducible repeat (first | refine blk_drewN ?_ _ | refine blk_drew ?_ | refine blk_alloc ?_ _)); exact BK239.out⟩, ⟨by repeat (first | (with_reducible first | exact HB.out | apply below_alloc | apply pw_below_drewN | apply below_drew1 | refine below_set ?_ GE228.out | refine below_set ?_ GE239.out) | exact HB.out)⟩⟩
                        case round =>
                          clear H'
                          try clear c1
                          try clear c2
                          try clear p2
                          try clear q2
                          try clear hx2
                          try clear c3
                          try clear c4
                          try clear p6
                          try clear c7
                          try clear c10
                          try clear c11
                          try clear c11b0
                          try clear c12
                          try clear c12b0
                          try clear c13
                          try clear c13b0
                          try clear c14
                          try clear c14b0
                          try clear c15
                          try clear c17
                          try clear c17b0
                          try clear c19
                          try clear c20
                          try clear c21
                          try clear c22
                          try clear c23
                          try clear p23
                          try clear q23
                          try clear hx23
                          try clear c26
                          try clear c27
                          try clear c31
                          try clear hcz29_0
                          try clear hcz29_1
                          try clear hcz29_2
                          try clear hcz32_0
                          try clear hcz32_1
                          try clear hcz32_2
                          try clear hcz32_3
                          try clear hfz29_0
                          try clear hfz29_1
                          try clear hfz29_2
                          try clear hfz32_0
                          try clear hfz32_1
                          try clear hfz32_2
                          try clear hfz32_3
                          try clear hx236_0
                          try clear hx236_1
                          try clear hx236_2
                          try clear hx236_3
                          try clear hx237_0
                          try clear hx237_1
                          try clear hx237_2
                          try clear hx237_3
                          try clear p2
                          try clear p236
                          try clear p237
                          try clear p6
                          try clear q2
                          try clear q236
                          try clear q237
                          obtain ⟨x12_4, rfl, HA, HK4, HO_11, BK228, BK239, HB⟩ := hrel
                          cases gk with
                          | zero => exact absurd HA.out (by simp [cellarerlaw12_ChangeLast.l2])
                          | succ k4 =>
                            have H := HA.out
                            clear HA
                            simp only [cellarerlaw12_ChangeLast.l2] at H
                            by_cases c45 : x12_4 < (t252.length : Int)
                            · rw [if_pos c45] at H
                              have c45b0 : decide (x12_4 < (t252.length : Int)) = true := decide_eq_true c45
                              clear c45
                              by_cases c46 : 0 ≤ x12_4
                              · rw [if_pos c46] at H
                                have c46b0 : decide (0 ≤ x12_4) = true := decide_eq_true c46
                                clear c46
                                by_cases c47 : ((rd_T39 t252 x12_4).f1.f0).toList = a1_0.toList
                                · rw [if_pos c47] at H
                                  have c47b0 : (((rd_T39 t252 x12_4).f1.f0).toList == a1_0.toList) = true := beq_iff_eq.mpr c47
                                  have c47b1 : (((rd_T39 t252 x12_4).f1.f0).toList != a1_0.toList) = false := bne_eq_false_iff_eq.mpr c47
                                  clear c47
                                  obtain rfl := Option.some.inj H
                                  obtain ⟨Ao48, co48, eo48⟩ := Kd.R_slice HO_11.out
                                  subst eo48
                                  try go_wp2
                                  have n0_ := Aside0.mk (Kd.R_drew HO_11.out)
                                  have n1_ := Aside0.mk (blk_drew BK228.out)
                                  have n2_ := Aside0.mk (blk_drew BK239.out)
                                  have n3_ := Aside0.mk (below_drew1 HB.out)
                                  clear HO_11
                                  clear BK228
                                  clear BK239
                                  clear HB
                                  have HO_11 := n0_
                                  have BK228 := n1_
                                  have BK239 := n2_
                                  have HB := n3_
                                  clear n0_ n1_ n2_ n3_
                                  have p255 : 0 ≤ (x12_4 : Int) := of_decide_eq_true (by first | (with_reducible assumption) | assumption)
                                  have q255 : x12_4 < (t252.length : Int) := of_decide_eq_true (by first | (with_reducible assumption) | assumption)
                                  obtain ⟨ad255, e255, hx255_0, hx255_1, hx255_2, hx255_3⟩ := at_T39 (Kd.R_reads' HO_11.out).2.2 x12_4 p255 q255
                                  cases e255
                                  replace p255 := eq_true p255
                                  replace q255 := eq_true q255
                                  refine start_ (n := 9) (S := fun w' => w'.cell? ⟨gb228, 0, none⟩ = some (.string a1_0) ∧ w'.cell? ⟨gb228, 1, none⟩ = some (.string a1_1) ∧ w'.cell? ⟨gb228, 2, none⟩ = some (.bool a1_2) ∧ w'.cell? (ad255.add ((x12_4).toNat * 4)) = some (.int .u64 ((rd_T39 t252 x12_4).f0)) ∧ w'.cell? ⟨(ad255.add ((x12_4).toNat * 4)).block, (ad255.add ((x12_4).toNat * 4)).off + 1, none⟩ = some (.string ((rd_T39 t252 x12_4).f1.f0)) ∧ w'.cell? ⟨(ad255.add ((x12_4).toNat * 4)).block, (ad255.add ((x12_4).toNat * 4)).off + 2, none⟩ = some (.string ((rd_T39 t252 x12_4).f1.f1)) ∧ w'.cell? ⟨(ad255.add ((x12_4).toNat * 4)).block, (ad255.add ((x12_4).toNat * 4)).off + 3, none⟩ = some (.bool ((rd_T39 t252 x12_4).f1.f2))) (ds := []) #[false, false, false, false, false, false, false, false, false] (by kernel_rfl) rfl rfl ⟨(blk_cell BK228.out 0).trans rfl, (blk_cell BK228.out 1).trans rfl, (blk_cell BK228.out 2).trans rfl, hx255_0, hx255_1, hx255_2, hx255_3⟩ (fun hHeld => ?_); refine with_tabW cellarerlaw12_ChangeLast.tab21 cellarerlaw12_ChangeLast.bits21 (fun HT_ HW_ => ?_)
                                  generalize wr.drew = w49 at HO_11 BK228 BK239 HB hx255_0 hx255_1 hx255_2 hx255_3 hHeld ⊢
                                  refine pure_ (i := 0) (N := some 79) (v := ?_) (a' := ?_) #[true, false, false, false, false, false, false, false, false] rfl rfl (any_of HT_.out (by kernel_rfl)) (fun _ _ _ h => h) (Or.inl ⟨by rfl, ?_⟩) ?_ ?_
                                  rotate_left
                                  · intro w'
                                    go_simp
                                    with_reducible rfl
                                  rotate_left
                                  · simp only [Act.put, List.setIfInBounds_toArray, List.set_cons_zero, List.set_cons_succ, i64_w, i32_w]
                                    rfl
                                  refine pure_ (i := 1) (N := some 80) (v := ?_) (a' := ?_) #[true, true, false, false, false, false, false, false, false] rfl rfl (any_of HT_.out (by kernel_rfl)) (fun _ _ _ h => h) (Or.inl ⟨by rfl, ?_⟩) ?_ ?_
                                  rotate_left
                                  · intro w'
                                    go_simp
                                    with_reducible rfl
                                  rotate_left
                                  · simp only [Act.put, List.setIfInBounds_toArray, List.set_cons_zero, List.set_cons_succ, i64_w, i32_w]
                                    rfl
                                  refine pure_ (i := 2) (N := some 81) (v := ?_) (a' := ?_) #[true, true, true, false, false, false, false, false, false] rfl rfl (any_of HT_.out (by kernel_rfl)) (fun _ _ _ h => h) (Or.inl ⟨by rfl, ?_⟩) ?_ ?_
                                  rotate_left
                                  · intro w'
                                    go_simp
                                    with_reducible rfl
                                  rotate_left
                                  · simp only [Act.put, List.setIfInBounds_toArray, List.set_cons_zero, List.set_cons_succ, i64_w, i32_w]
                                    rfl
                                  refine pure_ (i := 3) (N := some 82) (v := ?_) (a' := ?_) #[true, true, true, true, false, false, false, false, false] rfl rfl (any_of HT_.out (by kernel_rfl)) (fun _ _ _ h => h) (Or.inl ⟨by rfl, ?_⟩) ?_ ?_
                                  rotate_left
                                  · intro w'
                                    go_simp
                                    with_reducible rfl
                                  rotate_left
                                  · simp only [Act.put, List.setIfInBounds_toArray, List.set_cons_zero, List.set_cons_succ, i64_w, i32_w]
                                    rfl
                                  refine pure_ (i := 4) (N := some 83) (v := ?_) (a' := ?_) #[true, true, true, true, true, false, false, false, false] rfl rfl (any_of HT_.out (by kernel_rfl)) (fun _ _ _ h => h) (Or.inl ⟨by rfl, ?_⟩) ?_ ?_
                                  rotate_left
                                  · intro w'
                                    go_simp
                                    with_reducible rfl
                                  rotate_left
                                  · simp only [Act.put, List.setIfInBounds_toArray, List.set_cons_zero, List.set_cons_succ, i64_w, i32_w]
                                    rfl
                                  refine pure_ (i := 6) (N := some 85) (v := ?_) (a' := ?_) #[true, true, true, true, true, false, true, false, false] rfl rfl (any_of HT_.out (by kernel_rfl)) (fun _ _ _ h => h) (Or.inl ⟨by rfl, ?_⟩) ?_ ?_
                                  rotate_left
                                  · intro w'
                                    go_simp
                                    with_reducible rfl
                                  rotate_left
                                  · simp only [Act.put, List.setIfInBounds_toArray, List.set_cons_zero, List.set_cons_succ, i64_w, i32_w]
                                    rfl
                                  refine take_ (i := 5) (N := some 84) (v := ?_) (a' := ?_) #[true, true, true, true, true, true, true, false, false] rfl rfl (take_ofW HT_.out HW_.out (by kernel_rfl)) (fun _ _ _ h => h) (Or.inl ⟨by rfl, ?_⟩) hHeld ?_ ?_
                                  rotate_left
                                  · rintro w' ⟨s0, s1, s2, s3, s4, s5, s6⟩
                                    go_simp
                                    with_reducible rfl
                                  rotate_left
                                  · simp only [Act.put, List.setIfInBounds_toArray, List.set_cons_zero, List.set_cons_succ, i64_w, i32_w]
                                    rfl
                                  refine take_ (i := 7) (N := some 86) (v := ?_) (a' := ?_) #[true, true, true, true, true, true, true, true, false] rfl rfl (take_ofW HT_.out HW_.out (by kernel_rfl)) (fun _ _ _ h => h) (Or.inl ⟨by rfl, ?_⟩) hHeld ?_ ?_
                                  rotate_left
                                  · rintro w' ⟨s0, s1, s2, s3, s4, s5, s6⟩
                                    go_simp
                                    with_reducible rfl
                                  rotate_left
                                  · simp only [Act.put, List.setIfInBounds_toArray, List.set_cons_zero, List.set_cons_succ, i64_w, i32_w]
                                    rfl
                                  refine pure_ (i := 8) (N := some 87) (v := ?_) (a' := ?_) #[true, true, true, true, true, true, true, true, true] rfl rfl (any_of HT_.out (by kernel_rfl)) (fun _ _ _ h => h) (Or.inl ⟨by rfl, ?_⟩) ?_ ?_
                                  rotate_left
                                  · intro w'
                                    go_simp
                                    with_reducible rfl
                                  rotate_left
                                  · simp only [Act.put, List.setIfInBounds_toArray, List.set_cons_zero, List.set_cons_succ, i64_w, i32_w]
                                    rfl
                                  refine done_ (done_of HT_.out (by kernel_rfl)) ?_
                                  try go_wp2
                                  go_ret
                                  exact ⟨by first | rfl | (simp [errW_none, errW_some] <;> rfl) | (simp [*, errW_none, errW_some] <;> rfl), by repeat (first | (with_reducible first | exact HB.out | apply below_alloc | apply pw_below_drewN | apply below_drew1 | refine below_set ?_ GE228.out | refine below_set ?_ GE239.out) | exact HB.out)⟩
                                · rw [if_neg c47] at H
                                  have c47b0 : (((rd_T39 t252 x12_4).f1.f0).toList == a1_0.toList) = false := beq_eq_false_iff_ne.mpr c47
                                  have c47b1 : (((rd_T39 t252 x12_4).f1.f0).toList != a1_0.toList) = true := bne_iff_ne.mpr c47
                                  have H' := Aside0.mk H
                                  clear H
                                  obtain ⟨Ao50, co50, eo50⟩ := Kd.R_slice HO_11.out
                                  subst eo50
                                  try go_wp2
                                  have n0_ := Aside0.mk (Kd.R_drew HO_11.out)
                                  have n1_ := Aside0.mk (blk_drew BK228.out)
                                  have n2_ := Aside0.mk (blk_drew BK239.out)
                                  have n3_ := Aside0.mk (below_drew1 HB.out)
                                  clear HO_11
                                  clear BK228
                                  clear BK239
                                  clear HB
                                  have HO_11 := n0_
                                  have BK228 := n1_
                                  have BK239 := n2_
                                  have HB := n3_
                                  clear n0_ n1_ n2_ n3_
                                  have p255 : 0 ≤ (x12_4 : Int) := of_decide_eq_true (by first | (with_reducible assumption) | assumption)
                                  have q255 : x12_4 < (t252.length : Int) := of_decide_eq_true (by first | (with_reducible assumption) | assumption)
                                  obtain ⟨ad255, e255, hx255_0, hx255_1, hx255_2, hx255_3⟩ := at_T39 (Kd.R_reads' HO_11.out).2.2 x12_4 p255 q255
                                  cases e255
                                  replace p255 := eq_true p255
                                  replace q255 := eq_true q255
                                  refine start_ (n := 9) (S := fun w' => w'.cell? ⟨gb228, 0, none⟩ = some (.string a1_0) ∧ w'.cell? ⟨gb228, 1, none⟩ = some (.string a1_1) ∧ w'.cell? ⟨gb228, 2, none⟩ = some (.bool a1_2) ∧ w'.cell? (ad255.add ((x12_4).toNat * 4)) = some (.int .u64 ((rd_T39 t252 x12_4).f0)) ∧ w'.cell? ⟨(ad255.add ((x12_4).toNat * 4)).block, (ad255.add ((x12_4).toNat * 4)).off + 1, none⟩ = some (.string ((rd_T39 t252 x12_4).f1.f0)) ∧ w'.cell? ⟨(ad255.add ((x12_4).toNat * 4)).block, (ad255.add ((x12_4).toNat * 4)).off + 2, none⟩ = some (.string ((rd_T39 t252 x12_4).f1.f1)) ∧ w'.cell? ⟨(ad255.add ((x12_4).toNat * 4)).block, (ad255.add ((x12_4).toNat * 4)).off + 3, none⟩ = some (.bool ((rd_T39 t252 x12_4).f1.f2))) (ds := []) #[false, false, false, false, false, false, false, false, false] (by kernel_rfl) rfl rfl ⟨(blk_cell BK228.out 0).trans rfl, (blk_cell BK228.out 1).trans rfl, (blk_cell BK228.out 2).trans rfl, hx255_0, hx255_1, hx255_2, hx255_3⟩ (fun hHeld => ?_); refine with_tabW cellarerlaw12_ChangeLast.tab21 cellarerlaw12_ChangeLast.bits21 (fun HT_ HW_ => ?_)
                                  generalize wr.drew = w51 at HO_11 BK228 BK239 HB hx255_0 hx255_1 hx255_2 hx255_3 hHeld ⊢
                                  refine pure_ (i := 0) (N := some 79) (v := ?_) (a' := ?_) #[true, false, false, false, false, false, false, false, false] rfl rfl (any_of HT_.out (by kernel_rfl)) (fun _ _ _ h => h) (Or.inl ⟨by rfl, ?_⟩) ?_ ?_
                                  rotate_left
                                  · intro w'
                                    go_simp
                                    with_reducible rfl
                                  rotate_left
                                  · simp only [Act.put, List.setIfInBounds_toArray, List.set_cons_zero, List.set_cons_succ, i64_w, i32_w]
                                    rfl
                                  refine pure_ (i := 1) (N := some 80) (v := ?_) (a' := ?_) #[true, true, false, false, false, false, false, false, false] rfl rfl (any_of HT_.out (by kernel_rfl)) (fun _ _ _ h => h) (Or.inl ⟨by rfl, ?_⟩) ?_ ?_
                                  rotate_left
                                  · intro w'
                                    go_simp
                                    with_reducible rfl
                                  rotate_left
                                  · simp only [Act.put, List.setIfInBounds_toArray, List.set_cons_zero, List.set_cons_succ, i64_w, i32_w]
                                    rfl
                                  refine pure_ (i := 2) (N := some 81) (v := ?_) (a' := ?_) #[true, true, true, false, false, false, false, false, false] rfl rfl (any_of HT_.out (by kernel_rfl)) (fun _ _ _ h => h) (Or.inl ⟨by rfl, ?_⟩) ?_ ?_
                                  rotate_left
                                  · intro w'
                                    go_simp
                                    with_reducible rfl
                                  rotate_left
                                  · simp only [Act.put, List.setIfInBounds_toArray, List.set_cons_zero, List.set_cons_succ, i64_w, i32_w]
                                    rfl
                                  refine pure_ (i := 3) (N := some 82) (v := ?_) (a' := ?_) #[true, true, true, true, false, false, false, false, false] rfl rfl (any_of HT_.out (by kernel_rfl)) (fun _ _ _ h => h) (Or.inl ⟨by rfl, ?_⟩) ?_ ?_
                                  rotate_left
                                  · intro w'
                                    go_simp
                                    with_reducible rfl
                                  rotate_left
                                  · simp only [Act.put, List.setIfInBounds_toArray, List.set_cons_zero, List.set_cons_succ, i64_w, i32_w]
                                    rfl
                                  refine pure_ (i := 4) (N := some 83) (v := ?_) (a' := ?_) #[true, true, true, true, true, false, false, false, false] rfl rfl (any_of HT_.out (by kernel_rfl)) (fun _ _ _ h => h) (Or.inl ⟨by rfl, ?_⟩) ?_ ?_
                                  rotate_left
                                  · intro w'
                                    go_simp
                                    with_reducible rfl
                                  rotate_left
                                  · simp only [Act.put, List.setIfInBounds_toArray, List.set_cons_zero, List.set_cons_succ, i64_w, i32_w]
                                    rfl
                                  refine pure_ (i := 6) (N := some 85) (v := ?_) (a' := ?_) #[true, true, true, true, true, false, true, false, false] rfl rfl (any_of HT_.out (by kernel_rfl)) (fun _ _ _ h => h) (Or.inl ⟨by rfl, ?_⟩) ?_ ?_
                                  rotate_left
                                  · intro w'
                                    go_simp
                                    with_reducible rfl
                                  rotate_left
                                  · simp only [Act.put, List.setIfInBounds_toArray, List.set_cons_zero, List.set_cons_succ, i64_w, i32_w]
                                    rfl
                                  refine take_ (i := 5) (N := some 84) (v := ?_) (a' := ?_) #[true, true, true, true, true, true, true, false, false] rfl rfl (take_ofW HT_.out HW_.out (by kernel_rfl)) (fun _ _ _ h => h) (Or.inl ⟨by rfl, ?_⟩) hHeld ?_ ?_
                                  rotate_left
                                  · rintro w' ⟨s0, s1, s2, s3, s4, s5, s6⟩
                                    go_simp
                                    with_reducible rfl
                                  rotate_left
                                  · simp only [Act.put, List.setIfInBounds_toArray, List.set_cons_zero, List.set_cons_succ, i64_w, i32_w]
                                    rfl
                                  refine take_ (i := 7) (N := some 86) (v := ?_) (a' := ?_) #[true, true, true, true, true, true, true, true, false] rfl rfl (take_ofW HT_.out HW_.out (by kernel_rfl)) (fun _ _ _ h => h) (Or.inl ⟨by rfl, ?_⟩) hHeld ?_ ?_
                                  rotate_left
                                  · rintro w' ⟨s0, s1, s2, s3, s4, s5, s6⟩
                                    go_simp
                                    with_reducible rfl
                                  rotate_left
                                  · simp only [Act.put, List.setIfInBounds_toArray, List.set_cons_zero, List.set_cons_succ, i64_w, i32_w]
                                    rfl
                                  refine pure_ (i := 8) (N := some 87) (v := ?_) (a' := ?_) #[true, true, true, true, true, true, true, true, true] rfl rfl (any_of HT_.out (by kernel_rfl)) (fun _ _ _ h => h) (Or.inl ⟨by rfl, ?_⟩) ?_ ?_
                                  rotate_left
                                  · intro w'
                                    go_simp
                                    with_reducible rfl
                                  rotate_left
                                  · simp only [Act.put, List.setIfInBounds_toArray, List.set_cons_zero, List.set_cons_succ, i64_w, i32_w]
                                    rfl
                                  refine done_ (done_of HT_.out (by kernel_rfl)) ?_
                                  try go_wp2
                                  go_roundg k4
                                  case measure => have := HK1.out; have := HK2.out; have := HJ18.out; have := HK4.out; omega
                                  case rel => exact ⟨(wrap64 (x12_4 + 1)), (by first | rfl | (simp; done) | (simp [*]; done)), H', ⟨by have := HK1.out; have := HK2.out; have := HJ18.out; have := HK4.out; omega⟩, ⟨by (with_reducible repeat (first | apply Kd.R_alloc | apply Kd.R_drewN | apply Kd.R_drew)); exact HO_11.out⟩, ⟨by (with_reducible repeat (first | refine blk_drewN ?_ _ | refine blk_drew ?_ | refine blk_alloc ?_ _)); exact BK228.out⟩, ⟨by (with_reducible repeat (first | refine blk_drewN ?_ _ | refine blk_drew ?_ | refine blk_alloc ?_ _)); exact BK239.out⟩, ⟨by repeat (first | (with_reducible first | exact HB.out | apply below_alloc | apply pw_below_drewN | apply below_drew1 | refine below_set ?_ GE228.out | refine below_set ?_ GE239.out) | exact HB.out)⟩⟩
                              · rw [if_neg c46] at H
                                exact absurd H (by simp)
                            · rw [if_neg c45] at H
                              have c45b0 : decide (x12_4 < (t252.length : Int)) = false := decide_eq_false c45
                              clear c45
                              replace H := Option.bind_eq_some_iff.mp H
                              obtain ⟨t256, A520, H⟩ := H
                              replace H : (some t256) = some r := H
                              have A52 := Aside0.mk A520
                              clear A520
                              obtain rfl := Option.some.inj H
                              obtain ⟨Ao53, co53, eo53⟩ := Kd.R_slice HO_11.out
                              subst eo53
                              go_wp2_with (first | ((with_reducible refine gate_callee (f := 18) rfl ?_); refine goesL_ (some 88) rfl rfl Try.func18 (by kernel_rfl) rfl #[] rfl (by (try simp only [List.map_toArray, List.map_cons, List.map_nil]); first | done | rfl | (simp only [List.length_drop, List.length_take]; rfl)) ?_; (with_reducible refine (cellarerlaw12_awake.calls  t256 _ A52.out).mono ?_); rintro e w54 ⟨rfl, hb⟩; refine ⟨_, rfl, ?_⟩; have n0_ := Aside0.mk (Kd.R_below (by (with_reducible repeat (first | apply Kd.R_alloc | apply Kd.R_drewN | apply Kd.R_drew)); exact HO_11.out) hb); have n1_ := Aside0.mk (blk_below (g := gb228) (o := .cells #[.string a1_0, .string a1_1, .bool a1_2] 37 (0, 0)) (by (with_reducible repeat (first | refine blk_drewN ?_ _ | refine blk_drew ?_ | refine blk_alloc ?_ _)); exact BK228.out) hb); have n2_ := Aside0.mk (blk_below (g := gb239) (o := .cells #[.int .u64 (IntKind.u64.wrap (t232 + 1)), .string a1_0, .string a1_1, .bool a1_2] 39 (0, 0)) (by (with_reducible repeat (first | refine blk_drewN ?_ _ | refine blk_drew ?_ | refine blk_alloc ?_ _)); exact BK239.out) hb); have n3_ := Aside0.mk (below_step (by repeat (first | (with_reducible first | exact HB.out | apply below_alloc | apply pw_below_drewN | apply below_drew1 | refine below_set ?_ GE228.out | refine below_set ?_ GE239.out) | exact HB.out)) hb); clear HO_11; clear BK228; clear BK239; clear HB; have HO_11 := n0_; have BK228 := n1_; have BK239 := n2_; have HB := n3_; clear n0_ n1_ n2_ n3_; (try clear hb); (try clear hb2); (try clear hk); (try clear hi)))
                              go_ret
                              exact ⟨by first | rfl | (simp [errW_none, errW_some] <;> rfl) | (simp [*, errW_none, errW_some] <;> rfl), by repeat (first | (with_reducible first | exact HB.out | apply below_alloc | apply pw_below_drewN | apply below_drew1 | refine below_set ?_ GE228.out | refine below_set ?_ GE239.out) | exact HB.out)⟩
                      · rw [if_neg c27] at H
                        exact absurd H (by simp)
                    · rw [if_neg c26] at H
                      exact absurd H (by simp)

end Go.Proofs.Ytipahpkdddijmaa.Q

-- D2
namespace Go.Proofs.Ytipahpkdddijmaa.Q
open Go.RowKit Go.Proofs.YtipahpkdddijmaaW.PrintWords Go.Proofs.YtipahpkdddijmaaW.PrintLast Go.Proofs.YtipahpkdddijmaaW.PrintMore
set_option linter.unusedVariables false
set_option linter.unusedSimpArgs false

/-! ### plain laws: the greatest stamp -/
def wfN (n : S39) : Prop := 0 ≤ n.f0 ∧ n.f0 ≤ 18446744073709551615
theorem fewN_wf {l : List S39} (h : ∀ n ∈ l, wfN n) : ∀ n ∈ fewN l, wfN n := by
  intro n hn
  obtain ⟨m, hm, rfl⟩ := List.mem_map.1 hn
  exact h m (List.mem_of_mem_take hm)
theorem last_spec (l : List S39) (h : ∀ n ∈ l, wfN n) : (∀ n ∈ l, n.f0 ≤ lastN l) ∧ 0 ≤ lastN l ∧ lastN l ≤ 18446744073709551615 ∧ (l ≠ [] → ∃ m ∈ l, m.f0 = lastN l) := by
  have gen : ∀ (l : List S39) (a : Int), (∀ n ∈ l, wfN n) → 0 ≤ a → a ≤ 18446744073709551615 →
      (∀ n ∈ l, n.f0 ≤ l.foldl (fun a n => if a < n.f0 then n.f0 else a) a) ∧ a ≤ l.foldl (fun a n => if a < n.f0 then n.f0 else a) a ∧ l.foldl (fun a n => if a < n.f0 then n.f0 else a) a ≤ 18446744073709551615 ∧
      (l.foldl (fun a n => if a < n.f0 then n.f0 else a) a = a ∨ ∃ m ∈ l, m.f0 = l.foldl (fun a n => if a < n.f0 then n.f0 else a) a) := by
    intro l
    induction l with
    | nil => intro a _ h0 h1; exact ⟨fun n hn => (by cases hn), Int.le_refl _, h1, Or.inl rfl⟩
    | cons x l ih =>
      intro a hw h0 h1
      have hx := hw x List.mem_cons_self
      unfold wfN at hx
      obtain ⟨p1, p2, p3, p4⟩ := ih (if a < x.f0 then x.f0 else a) (fun n hn => hw n (List.mem_cons_of_mem _ hn)) (by split <;> omega) (by split <;> omega)
      rw [List.foldl_cons]
      generalize hz : l.foldl (fun a n => if a < n.f0 then n.f0 else a) (if a < x.f0 then x.f0 else a) = z at *
      refine ⟨fun n hn => ?_, ?_, p3, ?_⟩
      · rcases List.mem_cons.1 hn with rfl | hn
        · split at p2 <;> omega
        · exact p1 n hn
      · split at p2 <;> omega
      · rcases p4 with p4 | ⟨m, hm, p4⟩
        · split at p4
          · exact Or.inr ⟨x, List.mem_cons_self, p4.symm⟩
          · exact Or.inl p4
        · exact Or.inr ⟨m, List.mem_cons_of_mem _ hm, p4⟩
  obtain ⟨p1, p2, p3, p4⟩ := gen l 0 h (Int.le_refl _) (by decide)
  refine ⟨p1, p2, p3, fun hn => ?_⟩
  rcases p4 with p4 | p4
  · cases l with
    | nil => exact absurd rfl hn
    | cons x l =>
      refine ⟨x, List.mem_cons_self, ?_⟩
      have h1 := p1 x List.mem_cons_self
      have h2 := (h x List.mem_cons_self).1
      unfold lastN
      omega
  · exact p4
theorem last_f {l : List S39} (h1 : l.length ≤ 1000000) (h : ∀ n ∈ l, wfN n) : change_Last.f l = some (lastN l) := by
  unfold change_Last.f
  rw [if_pos h1, if_pos (List.all_eq_true.2 fun n hn => decide_eq_true (h n hn).1)]
theorem cnt_ge {l : List S39} {nm : ByteArray} {c : S39} (h : cnt l nm = some c) : ∀ n ∈ l, n.f1.f0 = nm → n.f0 ≤ c.f0 := by
  have gen : ∀ (l : List S39) (a : Option S39), ∀ c, l.foldl (cntStep nm) a = some c → (∀ o, a = some o → o.f0 ≤ c.f0) ∧ ∀ n ∈ l, n.f1.f0 = nm → n.f0 ≤ c.f0 := by
    intro l
    induction l with
    | nil => intro a c h; exact ⟨fun o ho => by have e : a = some c := h; rw [e] at ho; injection ho with ho; rw [ho]; exact Int.le_refl _, fun n hn => by cases hn⟩
    | cons x l ih =>
      intro a c h
      obtain ⟨h1, h2⟩ := ih _ c h
      by_cases hx : x.f1.f0 = nm
      · have e : cntStep nm a x = upd x a := if_pos hx
        rw [e] at h1
        cases a with
        | none =>
          have h3 := h1 x rfl
          exact ⟨fun o ho => (by cases ho), fun n hn en => by rcases List.mem_cons.1 hn with rfl | hn; exact h3; exact h2 n hn en⟩
        | some o =>
          unfold upd at h1
          simp only at h1
          split at h1
          · have h3 := h1 x rfl
            exact ⟨fun o' ho => by injection ho with ho; subst ho; omega, fun n hn en => by rcases List.mem_cons.1 hn with rfl | hn; exact h3; exact h2 n hn en⟩
          · have h3 := h1 o rfl
            exact ⟨fun o' ho => by injection ho with ho; subst ho; exact h3, fun n hn en => by rcases List.mem_cons.1 hn with rfl | hn; omega; exact h2 n hn en⟩
      · have e : cntStep nm a x = a := if_neg hx
        rw [e] at h1
        exact ⟨h1, fun n hn en => by rcases List.mem_cons.1 hn with rfl | hn; exact absurd en hx; exact h2 n hn en⟩
  exact (gen l none c h).2
theorem cnt_later {l : List S39} {n : S39} (h : ∀ m ∈ l, m.f0 ≤ n.f0) : cnt (l ++ [n]) n.f1.f0 = some n := by
  rw [cnt_snoc]
  unfold cntStep
  rw [if_pos rfl]
  cases hc : cnt l n.f1.f0 with
  | none => rfl
  | some o => unfold upd; simp only; rw [if_pos (h o (cnt_mem hc))]
theorem cnt_other {l : List S39} {n : S39} {nm : ByteArray} (h : n.f1.f0 ≠ nm) : cnt (l ++ [n]) nm = cnt l nm := by
  rw [cnt_snoc]
  unfold cntStep
  rw [if_neg h]
theorem wrap_i (i : Nat) (h : i < 1000000000) : wrap64 ((i : Int) + 1) = ((i + 1 : Nat) : Int) := by unfold wrap64; omega
theorem rd39 {l : List S39} {i : Nat} (h : i < l.length) : rd_T39 l (i : Int) = l[i] := by unfold rd_T39; simp [h]
theorem rd52 {l : List S52} {i : Nat} (h : i < l.length) : rd_T52 l (i : Int) = l[i] := by unfold rd_T52; simp [h]

/-! ### ChangeLast -/
theorem clast_l0 (l : List S39) (last : Int) (cs : List S39) (b : Bool) (s t : ByteArray) (g : Bool) (K : Nat) (hl : l.length ≤ 1000000) (h : ∀ n ∈ l, n.f0 ≤ last) :
    ∀ (n i : Nat), i + n = l.length → cellarerlaw12_ChangeLast.l0 (K + n + 1) l last cs b (i : Int) s t g = cellarerlaw12_ChangeLast.l1 K l last cs b 0 s t g
  | 0, i, e => by
    unfold cellarerlaw12_ChangeLast.l0
    rw [if_neg (by omega)]
  | n + 1, i, e => by
    have hi : i < l.length := by omega
    unfold cellarerlaw12_ChangeLast.l0
    rw [if_pos (by omega), if_pos (by omega), if_neg (by rw [rd39 hi]; have := h l[i] (List.getElem_mem hi); omega), wrap_i i (by omega)]
    exact clast_l0 l last cs b s t g K hl h n (i + 1) (by omega)
theorem clast_l1 (l : List S39) (last : Int) (cs : List S39) (s t : ByteArray) (g : Bool) (K : Nat) (hl : cs.length ≤ 1000000) :
    ∀ (n i : Nat) (b : Bool), i + n = cs.length → (b = true ∨ ∃ j, ∃ hj : j < cs.length, i ≤ j ∧ cs[j].f0 = last) →
      cellarerlaw12_ChangeLast.l1 (K + n + 1) l last cs b (i : Int) s t g = cellarerlaw12_ChangeLast.j2 K l last true (last == 18446744073709551615) s t g
  | 0, i, b, e, h => by
    have hb : b = true := by
      rcases h with h | ⟨j, hj, hij, _⟩
      · exact h
      · omega
    subst hb
    unfold cellarerlaw12_ChangeLast.l1
    rw [if_neg (by omega), if_pos rfl]
  | n + 1, i, b, e, h => by
    have hi : i < cs.length := by omega
    unfold cellarerlaw12_ChangeLast.l1
    rw [if_pos (by omega)]
    split
    · rw [wrap_i i (by omega)]
      exact clast_l1 l last cs s t g K hl n (i + 1) true (by omega) (Or.inl rfl)
    · rename_i hb
      rw [if_pos (by omega), wrap_i i (by omega), rd39 hi]
      refine clast_l1 l last cs s t g K hl n (i + 1) _ (by omega) ?_
      rcases h with h | ⟨j, hj, hij, ej⟩
      · exact absurd h hb
      · by_cases he : i = j
        · subst he
          exact Or.inl (by simpa using ej)
        · exact Or.inr ⟨j, hj, by omega, ej⟩
theorem clast_l2 (xs : List S39) (s t : ByteArray) (g : Bool) (K : Nat) (hl : xs.length ≤ 1000000) (h : ∀ n ∈ xs, n.f1.f0 ≠ s) :
    ∀ (n i : Nat), i + n = xs.length → cellarerlaw12_ChangeLast.l2 (K + n + 1) xs (i : Int) s t g = some true
  | 0, i, e => by
    unfold cellarerlaw12_ChangeLast.l2
    rw [if_neg (by omega)]
    rfl
  | n + 1, i, e => by
    have hi : i < xs.length := by omega
    unfold cellarerlaw12_ChangeLast.l2
    rw [if_pos (by omega), if_pos (by omega), if_neg (by rw [rd39 hi]; intro e; exact h xs[i] (List.getElem_mem hi) (bytes_eq e)), wrap_i i (by omega)]
    exact clast_l2 xs s t g K hl h n (i + 1) (by omega)
theorem last_true (l0 : List S39) (s t : ByteArray) (g : Bool) (hw : ∀ n ∈ l0, wfN n) (hs : s.size ≤ maxLen) : ∃ k, cellarerlaw12_ChangeLast.f k l0 s t g = some true := by
  have hw1 := fewN_wf hw
  have h := okL_few l0
  have hl := fewN_len l0
  have hnm := fewN_name l0
  have key : ∀ k, cellarerlaw12_ChangeLast.f k l0 s t g = cellarerlaw12_ChangeLast.l0 k (fewN l0) (lastN (fewN l0)) (countL (fewN l0)) (((fewN l0).length : Int) == 0) 0 s t g := by
    intro k
    unfold cellarerlaw12_ChangeLast.f cellarerlaw12_Few.f
    rw [Option.bind_some, last_f (by omega) hw1, Option.bind_some, count_f h, Option.bind_some]
  generalize fewN l0 = l at *
  have hc := countL_len l
  obtain ⟨s1, s2, s3, s4⟩ := last_spec l hw1
  generalize hlast : lastN l = last at *
  let F := (l.filter (live (l ++ [⟨last + 1, ⟨s, t, g⟩⟩]))).length
  refine ⟨(F + 1 + 1 + (countL l).length + 1) + l.length + 1, ?_⟩
  rw [key, show (0 : Int) = ((0 : Nat) : Int) from rfl, clast_l0 l last _ _ s t g _ (by omega) s1 l.length 0 (by omega), show (0 : Int) = ((0 : Nat) : Int) from rfl,
    clast_l1 l last (countL l) s t g (F + 1 + 1) (by omega) (countL l).length 0 _ (by omega) ?_]
  · rw [cellarerlaw12_ChangeLast.j2]
    by_cases hm : last = 18446744073709551615
    · rw [if_pos (by simpa using hm), if_pos rfl]
      rfl
    · have hwr : IntKind.u64.wrap (last + 1) = last + 1 := by
        show Int.emod (last + 1) 18446744073709551616 = last + 1
        exact Int.emod_eq_of_lt (by omega) (by omega)
      have hok : okL (l ++ [⟨last + 1, ⟨s, t, g⟩⟩]) = true := okL_mk (by rw [List.length_append]; show l.length + 1 ≤ _; omega) (fun n hn => by
        rcases List.mem_append.1 hn with hn | hn
        · exact Nat.le_trans (hnm n hn) (by decide)
        · rw [List.mem_singleton.1 hn]; exact hs)
      rw [if_neg (by simpa using hm), Option.bind_some, if_pos (by simp; omega), Option.bind_some, Option.bind_some, if_pos (by simp; omega), hwr, List.nil_append, live_f hok h, Option.bind_some]
      have := clast_l2 (l.filter (live (l ++ [⟨last + 1, ⟨s, t, g⟩⟩]))) s t g 0 (Nat.le_trans (List.length_filter_le _ _) (by omega)) (fun n hn e => by
        obtain ⟨h1, h2⟩ := List.mem_filter.1 hn
        have h3 := live_cnt (List.mem_append.2 (Or.inl h1)) h2
        have h4 := cnt_later (l := l) (n := ⟨last + 1, ⟨s, t, g⟩⟩) (fun m hm => by have := s1 m hm; show m.f0 ≤ last + 1; omega)
        rw [e] at h3
        rw [show (⟨last + 1, ⟨s, t, g⟩⟩ : S39).f1.f0 = s from rfl, h3] at h4
        injection h4 with h4
        have h5 := s1 n h1
        rw [h4] at h5
        have h6 : last + 1 ≤ last := h5
        omega) F 0 (by omega)
      rw [show F + 1 = 0 + F + 1 by omega]
      exact this
  · by_cases he : l = []
    · subst he
      exact Or.inl rfl
    · obtain ⟨m, hm, em⟩ := s4 he
      have hsome : ∃ c, cnt l m.f1.f0 = some c := by
        cases hc : cnt l m.f1.f0 with
        | none => exact absurd rfl (cnt_none' hc m hm)
        | some c => exact ⟨c, rfl⟩
      obtain ⟨c, hcc⟩ := hsome
      have h1 := cnt_ge hcc m hm rfl
      have h2 := s1 c (cnt_mem hcc)
      have hcm : c ∈ countL l := ((countL_is l).mem c).2 (by rw [cnt_name hcc]; exact hcc)
      obtain ⟨j, hj, ej⟩ := List.getElem_of_mem hcm
      exact Or.inr ⟨j, hj, Nat.zero_le _, by rw [ej]; omega⟩
theorem last.walk2 (A0 : Option Addr) (c0 : Nat) (l0 : List S39) (s t : ByteArray) (g : Bool) (w : World) (hr0 : Kd.C k39 w A0 l0.length l0) (hc0 : l0.length ≤ c0) (hw : ∀ n ∈ l0, wfN n) (hs : s.size ≤ maxLen) :
    Calls Try.prog 7 #[.slice A0 l0.length c0, .agg #[.string s, .string t, .bool g]] w fun e w' => e = .returned (.bool true) ∧ Below w.heap.size w w' := by
  obtain ⟨k, hk⟩ := last_true l0 s t g hw hs
  exact cellarerlaw12_ChangeLast.calls k A0 c0 l0 s t g true w hr0 hc0 hk
end Go.Proofs.Ytipahpkdddijmaa.Q

-- D3
namespace Go.Proofs.Ytipahpkdddijmaa.Q
open Go.RowKit Go.Proofs.YtipahpkdddijmaaW.PrintWords Go.Proofs.YtipahpkdddijmaaW.PrintLast Go.Proofs.YtipahpkdddijmaaW.PrintMore
set_option linter.unusedVariables false
set_option linter.unusedSimpArgs false

/-! ### ChangeGone -/
def gonC (n : S39) : S39 := ⟨n.f0, ⟨n.f1.f0, ⟨#[]⟩, true⟩⟩
def keepI (s : ByteArray) (it : S52) : Bool := !(it.f0.toList == s.toList)
theorem keepI_iff {s : ByteArray} {n : S39} : keepI s ⟨n.f1.f0, n.f1.f1⟩ = true ↔ n.f1.f0 ≠ s := by
  unfold keepI
  simp only [Bool.not_eq_true', beq_eq_false_iff_ne]
  exact ⟨fun h e => h (by rw [e]), fun h e => h (bytes_eq e)⟩
theorem gone_items (l : List S39) (n : S39) (hg : n.f1.f2 = true) (hl : ∀ m ∈ l, m.f0 ≤ n.f0) : itemsL (countL (l ++ [n])) = (itemsL (countL l)).filter (keepI n.f1.f0) := by
  unfold itemsL
  rw [List.filter_map, List.filter_filter]
  congr 1
  refine sorted_ext ((countL_is _).up.filter _) ((countL_is _).up.filter _) (fun m => ?_)
  rw [List.mem_filter, List.mem_filter, (countL_is _).mem, (countL_is _).mem]
  have hk : ((keepI n.f1.f0 ∘ fun n : S39 => (⟨n.f1.f0, n.f1.f1⟩ : S52)) m = true) ↔ m.f1.f0 ≠ n.f1.f0 := keepI_iff
  rw [Bool.and_eq_true]
  constructor
  · rintro ⟨h1, h2⟩
    by_cases e : m.f1.f0 = n.f1.f0
    · rw [e, cnt_later hl] at h1
      injection h1 with h1
      rw [← h1, hg] at h2
      cases h2
    · rw [cnt_other (fun x => e x.symm)] at h1
      exact ⟨h1, by first | exact ⟨hk.2 e, h2⟩ | exact ⟨h2, hk.2 e⟩⟩
  · rintro ⟨h1, h2⟩
    have h3 : m.f1.f0 ≠ n.f1.f0 := by first | exact hk.1 h2.1 | exact hk.1 h2.2
    exact ⟨by rw [cnt_other (fun x => h3 x.symm)]; exact h1, by first | exact h2.1 | exact h2.2⟩
theorem items_gone (l : List S39) (h : ∀ n ∈ l, n.f1.f2 = true) : itemsL (countL l) = [] := by
  unfold itemsL
  rw [List.filter_eq_nil_iff.2 (fun n hn => by rw [h n (cnt_mem ((countL_is l).mem n |>.1 hn))]; decide)]
  rfl
theorem cgone_l1 (s : ByteArray) (G : List S39) (next was : List S52) (K : Nat) (hG : change_Items.f G = some []) (h1 : next.length ≤ 1000000) (h2 : was.length ≤ 1000000) :
    ∀ (n i j : Nat), i + n = was.length → j ≤ next.length → next.drop j = (was.drop i).filter (keepI s) → cellarerlaw12_ChangeGone.l1 (K + n + 1) s G next was (j : Int) (i : Int) = some true
  | 0, i, j, e, hj, hd => by
    rw [List.drop_eq_nil_of_le (show was.length ≤ i by omega), List.filter_nil, List.drop_eq_nil_iff] at hd
    unfold cellarerlaw12_ChangeGone.l1
    rw [if_neg (by omega), if_pos (by omega), hG, Option.bind_some, if_pos (by rfl)]
    rfl
  | n + 1, i, j, e, hj, hd => by
    have hi : i < was.length := by omega
    rw [List.drop_eq_getElem_cons hi] at hd
    unfold cellarerlaw12_ChangeGone.l1
    rw [if_pos (by omega), if_pos (by omega), rd52 hi]
    by_cases hs : was[i].f0.toList = s.toList
    · rw [if_pos hs, wrap_i i (by omega)]
      rw [List.filter_cons_of_neg (by simp [keepI, hs])] at hd
      exact cgone_l1 s G next was K hG h1 h2 n (i + 1) j (by omega) hj hd
    · rw [List.filter_cons_of_pos (by simp [keepI, hs])] at hd
      have hjl : j < next.length := by
        rcases Nat.lt_or_ge j next.length with h | h
        · exact h
        · rw [List.drop_eq_nil_of_le h] at hd; cases hd
      rw [List.drop_eq_getElem_cons hjl] at hd
      injection hd with hd1 hd2
      rw [if_neg hs, if_neg (by omega), if_pos (by omega), if_pos (by omega), rd52 hjl, hd1, if_neg (by simp), wrap_i i (by omega), wrap_i j (by omega)]
      exact cgone_l1 s G next was K hG h1 h2 n (i + 1) (j + 1) (by omega) hjl hd2
theorem cgone_l0 (l : List S39) (s : ByteArray) (last : Int) (K : Nat) (hok : okL l = true) (hl : l.length ≤ 101) (hwr : IntKind.u64.wrap (last + 1) = last + 1) (hs : s.size ≤ maxLen) (h : ∀ m ∈ l, m.f0 ≤ last)
    (hK : (countL l).length ≤ K) :
    ∀ (n i : Nat), i + n = l.length → cellarerlaw12_ChangeGone.l0 (K + 1 + n + 1) l s last ((l.take i).map gonC) (i : Int) = some true
  | 0, i, e => by
    have hi : i = l.length := by omega
    subst hi
    have hn : okL (l ++ [⟨last + 1, ⟨s, ⟨#[]⟩, true⟩⟩]) = true := okL_mk (by rw [List.length_append]; show l.length + 1 ≤ _; omega) (fun n hn => by
      rcases List.mem_append.1 hn with hn | hn
      · exact okL_size hok n hn
      · rw [List.mem_singleton.1 hn]; exact hs)
    have hG : okL (l.map gonC) = true := okL_mk (by rw [List.length_map]; omega) (fun n hn => by
      obtain ⟨m, hm, rfl⟩ := List.mem_map.1 hn
      exact okL_size hok m hm)
    have hI : change_Items.f (l.map gonC) = some [] := by
      rw [items_f hG, items_gone _ (fun n hn => by obtain ⟨m, _, rfl⟩ := List.mem_map.1 hn; rfl)]
    have hc := countL_len l
    have hcI := itemsL_len (countL l)
    have hnx := gone_items l ⟨last + 1, ⟨s, ⟨#[]⟩, true⟩⟩ rfl (fun m hm => by have := h m hm; show m.f0 ≤ last + 1; omega)
    unfold cellarerlaw12_ChangeGone.l0
    rw [if_neg (by omega), List.take_length, Option.bind_some, if_pos (by simp; omega), Option.bind_some, if_pos (by simp; omega), hwr, List.nil_append, items_f hn, Option.bind_some, items_f hok, Option.bind_some, hnx]
    obtain ⟨d, hd⟩ : ∃ d, K + 1 + 0 = d + (itemsL (countL l)).length + 1 := ⟨K - (itemsL (countL l)).length, by omega⟩
    rw [hd]
    exact cgone_l1 s (l.map gonC) _ _ d hI (Nat.le_trans (List.length_filter_le _ _) (by omega)) (by omega) (itemsL (countL l)).length 0 0 (by omega) (Nat.zero_le _) (by rw [List.drop_zero, List.drop_zero])
  | n + 1, i, e => by
    have hi : i < l.length := by omega
    unfold cellarerlaw12_ChangeGone.l0
    rw [if_pos (by omega), if_pos (by omega), if_pos (by rw [List.length_map, List.length_take]; omega), rd39 hi, wrap_i i (by omega)]
    have e2 : (l.take i).map gonC ++ [⟨l[i].f0, ⟨l[i].f1.f0, ⟨#[]⟩, true⟩⟩] = (l.take (i + 1)).map gonC := by rw [take_snoc l i hi, List.map_append]; rfl
    rw [e2]
    exact cgone_l0 l s last K hok hl hwr hs h hK n (i + 1) (by omega)
theorem gone_true (l0 : List S39) (a : ByteArray) (hw : ∀ n ∈ l0, wfN n) : ∃ k, cellarerlaw12_ChangeGone.f k l0 a = some true := by
  have hw1 := fewN_wf hw
  have h := okL_few l0
  have hl := fewN_len l0
  have hc := countL_len (fewN l0)
  have key : ∀ k, ∃ s : ByteArray, s.size ≤ 200 ∧ cellarerlaw12_ChangeGone.f k l0 a = cellarerlaw12_ChangeGone.j0 k (fewN l0) s := by
    intro k
    unfold cellarerlaw12_ChangeGone.f cellarerlaw12_Few.f
    rw [Option.bind_some]
    by_cases hs : (a.size : Int) > 200
    · rw [if_pos hs, if_pos (by decide), if_pos (by omega)]
      exact ⟨a.extract 0 200, by rw [ByteArray.size_extract]; omega, rfl⟩
    · rw [if_neg hs]
      exact ⟨a, by omega, rfl⟩
  obtain ⟨s, hs, e⟩ := key ((fewN l0).length + 1 + (fewN l0).length + 1 + 1)
  refine ⟨_, e.trans ?_⟩
  clear key e
  generalize fewN l0 = l at *
  obtain ⟨s1, s2, s3, s4⟩ := last_spec l hw1
  rw [cellarerlaw12_ChangeGone.j0, last_f (by omega) hw1, Option.bind_some]
  by_cases hm : lastN l = 18446744073709551615
  · rw [if_pos hm]
    rfl
  · rw [if_neg hm]
    have hwr : IntKind.u64.wrap (lastN l + 1) = lastN l + 1 := by
      show Int.emod (lastN l + 1) 18446744073709551616 = lastN l + 1
      exact Int.emod_eq_of_lt (by omega) (by omega)
    have := cgone_l0 l s (lastN l) l.length h hl hwr (Nat.le_trans hs (by decide)) s1 hc l.length 0 (by omega)
    rw [List.take_zero, List.map_nil] at this
    exact this
theorem gone.walk2 (A0 : Option Addr) (c0 : Nat) (l0 : List S39) (a : ByteArray) (w : World) (hr0 : Kd.C k39 w A0 l0.length l0) (hc0 : l0.length ≤ c0) (hw : ∀ n ∈ l0, wfN n) :
    Calls Try.prog 8 #[.slice A0 l0.length c0, .string a] w fun e w' => e = .returned (.bool true) ∧ Below w.heap.size w w' := by
  obtain ⟨k, hk⟩ := gone_true l0 a hw
  exact cellarerlaw12_ChangeGone.calls k A0 c0 l0 a true w hr0 hc0 hk
end Go.Proofs.Ytipahpkdddijmaa.Q

-- U2
namespace Go.Proofs.Ytipahpkdddijmaa.Q
open Go.RowKit Go.Proofs.YtipahpkdddijmaaW.PrintWords Go.Proofs.YtipahpkdddijmaaW.PrintLast Go.Proofs.YtipahpkdddijmaaW.PrintMore
set_option linter.unusedVariables false
set_option linter.unusedSimpArgs false

/-! Openings that tell of each cell's own fitness, too. -/
def OpensQ {α : Type} (P : Program) (d : Kd α) (t : TypeId) (Q : α → Prop) : Prop :=
  ∀ (H : Type) (enc : TypeId × Value → H) (W : World) (n : Nat) (cs : List Value) (x : DataW H × List MemPlace), DataW.trod enc P W 0 (fun _ => true) true n t cs = some x → ∃ y : α, d.K W y cs ∧ Q y
set_option maxRecDepth 100000 in
theorem opensQ_C {α : Type} {P : Program} {d : Kd α} {t e : TypeId} (ht : P.underlying t = some (.slice e)) (hs : P.cellsOf e = d.sz) {Q : α → Prop} (he : OpensQ P d e Q) (z : α) (H : Type) (enc : TypeId × Value → H) (W : World) (n : Nat) (cs : List Value) (x : DataW H × List MemPlace)
    (h : DataW.trod enc P W 0 (fun _ => true) true n t cs = some x) : ∃ (l : List α) (A : Option Addr) (c : Nat), cs = [.slice A l.length c] ∧ l.length ≤ c ∧ d.C W A l.length l ∧ ∀ x ∈ l, Q x := by
  rcases DataW.trod_slice ht h with ⟨rfl, _⟩ | ⟨a, len, cap, elems, rest, m, _, rfl, _, _, hl, hm, hlen, hel, _, _⟩
  · exact ⟨[], none, 0, rfl, Nat.le_refl _, ⟨rfl, by simp, fun h0 => by simp at h0⟩, fun x hx => by cases hx⟩
  have each : ∀ i : Nat, ∃ p : α, i < len → Q p ∧ ∃ c : List Value, c.length = d.sz ∧ d.K W p c ∧ ∀ j u, c[j]? = some u → W.cell? (a.add (i * d.sz + j)) = some u := by
    intro i
    by_cases hi : i < len
    · have h1 := hel i hi
      rw [List.getElem?_eq_getElem (by omega), Option.bind_eq_some_iff] at h1
      obtain ⟨c, hc, ht'⟩ := h1
      obtain ⟨y, hy, hq⟩ := he H enc W m c _ ht'
      refine ⟨y, fun _ => ⟨hq, c, d.K_len hy, hy, fun j u hu => ?_⟩⟩
      obtain ⟨_, hcl, hcell⟩ := World.cells?_some hc
      have := hcell j (by have := (List.getElem?_eq_some_iff.1 hu).1; omega)
      rw [hs, add_add] at this
      rw [this, hu]
    · exact ⟨z, fun h => absurd h hi⟩
  obtain ⟨f, hf⟩ := Classical.skolem.1 each
  refine ⟨(List.range len).map f, some a, cap, by simp, by simpa using hl, ⟨by simp, by simp [maxLen] at hm ⊢; omega, fun _ => ⟨a, rfl, fun j p hj => ?_⟩⟩, fun x hx => by
    obtain ⟨j, hj, rfl⟩ := List.mem_map.1 hx
    exact (hf j (List.mem_range.1 hj)).1⟩
  rw [List.getElem?_map] at hj
  have hjl : j < len := by
    rcases Nat.lt_or_ge j len with h | h
    · exact h
    · rw [List.getElem?_eq_none (by simpa using h)] at hj; cases hj
  rw [List.getElem?_range hjl] at hj
  injection hj with hj
  subst hj
  exact (hf j hjl).2
theorem wf_u64 {n : Int} (h : (Lit.int .u64 n).wf = true) : 0 ≤ n ∧ n ≤ 18446744073709551615 := by
  have h2 : (decide ((IntKind.u64).min ≤ n) && decide (n ≤ (IntKind.u64).max)) = true := h
  rw [Bool.and_eq_true, decide_eq_true_eq, decide_eq_true_eq, show (IntKind.u64).min = 0 from rfl, show (IntKind.u64).max = 18446744073709551615 from rfl] at h2
  exact h2
set_option maxRecDepth 100000 in
theorem opensQ39 : OpensQ Try.prog k39 39 wfN := by
  intro H enc W n cs x h
  obtain ⟨y0, y1, m, rfl, hl, t0, t1⟩ := Go.ChangeShapes.trod_struct2 Try.underlying39 h
  rw [cells39] at hl
  match cs, hl with
  | [a, b, c, d], _ =>
    simp only [cells35, cells37, List.drop, List.take] at t0 t1
    obtain ⟨i, e0, _, wi⟩ := DataW.trod_int Try.underlying35 t0
    obtain ⟨y, hy⟩ := opens37 _ _ _ _ _ _ t1
    have e1 := k37_open hy
    injection e0 with e0; injection e1 with e1 e2; injection e2 with e2 e3; injection e3 with e3
    subst e0 e1 e2 e3
    exact ⟨⟨i, y⟩, k39_mk W ⟨i, y⟩, wf_u64 wi⟩
set_option maxRecDepth 100000 in
theorem openQ_row {α : Type} {d : Kd α} {t e : TypeId} (ht : Try.prog.underlying t = some (.slice e)) (hs : Try.prog.cellsOf e = d.sz) {Q : α → Prop} (he : OpensQ Try.prog d e Q) (z : α) {H : Type} {enc : TypeId × Value → H} {W : World} {base : Nat} {v : Value} {x : DataW H} {p : List MemPlace} (hv : Value.okWide Try.prog W .any base t v) (h : DataW.Trod enc Try.prog W 0 (fun _ => true) true t v x p) :
    ∃ (l : List α) (A : Option Addr) (c : Nat), v = .slice A l.length c ∧ l.length ≤ c ∧ d.C W A l.length l ∧ ∀ x ∈ l, Q x := by
  obtain ⟨a, n, c, rfl⟩ := Go.WideShapes.okWide_slice ht hv
  obtain ⟨m, hm⟩ := h
  obtain ⟨l, A, c', e, hle, hC, hQ⟩ := opensQ_C ht hs he z H enc W m _ _ hm
  refine ⟨l, A, c', ?_, hle, hC, hQ⟩
  simpa [Value.cells] using e
set_option maxRecDepth 100000 in
theorem openQ_notes {H : Type} {enc : TypeId × Value → H} {W : World} {base : Nat} {v : Value} {x : DataW H} {p : List MemPlace} (hv : Value.okWide Try.prog W .any base 22 v) (h : DataW.Trod enc Try.prog W 0 (fun _ => true) true 22 v x p) :
    ∃ (l : List S39) (A : Option Addr) (c : Nat), v = .slice A l.length c ∧ l.length ≤ c ∧ Kd.C k39 W A l.length l ∧ ∀ n ∈ l, wfN n := openQ_row Try.underlying22 cells39 opensQ39 z39 hv h
end Go.Proofs.Ytipahpkdddijmaa.Q

-- LawGone
namespace Go.Proofs.Ytipahpkdddijmaa.changeGone
open Go.ChangeShapes Go.WideShapes Go.ChangeAt Go.RowKit
open Go.ChangeMaps (open_string shut_string)
set_option linter.unusedVariables false

theorem ownChangeGone : ownKnob Try.prog.godebug = none := by kernel_rfl
theorem laidOutChangeGone : laidOutB Try.prog = true := by kernel_rfl
set_option maxRecDepth 100000 in
theorem lifted (os : Os) (started : os.Started) (H : Type) (enc : TypeId × Value → H) :
    ReturnsInHanded {} Try.checked os 8 .any (Rows.changeGoneSpec.pre6 enc Try.prog Try.f8 Rows.changeGoneRow.domain false) (Rows.changeGoneSpec.post enc Try.prog Try.f8 false true false false) := by
  refine returnsInHanded_of_change_sized (C := Try.checked) ownChangeGone started (by kernel_rfl) Try.func8
    (ChangeSpec.witness6 (enc := enc) (C := Try.checked) false ⟨#[], #[.slice none 0 0, .string ByteArray.empty], []⟩ 8 (by kernel_rfl) (by kernel_rfl) (by kernel_rfl) (by kernel_rfl)) ?_
  intro W base args ds gs before hval0 hW hcnd hsz0 _
  have hval : ∀ (j : Nat) t v, Try.f8.params[j]? = some t → args[j]? = some v → Value.okWide Try.prog W .any base t v := hval0
  have hW' := hW
  obtain ⟨p, q, hA0, hV, rfl, hfz, hnd⟩ := hW
  have hA : DataW.TrodAll enc Try.prog W 0 (fun _ => true) true Try.f8.params.toList args.toList ds p := hA0
  rw [Try.params8] at hA hval
  obtain ⟨v0, vs0, d0, ds0, p0, q0, hargs, rfl, rfl, h0, r0⟩ := trodAll_cons hA
  obtain ⟨v1, vs1, d1, ds1, p1, q1, rfl, rfl, rfl, h1, r1⟩ := trodAll_cons r0
  obtain ⟨rfl, rfl, rfl⟩ := trodAll_nil r1
  obtain rfl : args = #[v0, v1] := by cases args; simp_all
  obtain ⟨rfl, rfl⟩ := trodVars_none hV
  have k0 := h0
  have lt0 : ∀ x ∈ p0, x.block < W.heap.size := by obtain ⟨m, hm⟩ := k0; exact DataW.trod_lt m _ _ _ hm
  obtain ⟨l_0, A_0, c_0, rfl, hl_0, hC_0, hw_0⟩ := Q.openQ_notes (hval 0 22 v0 rfl rfl) h0
  obtain ⟨s_1, rfl, rfl, rfl, z_1⟩ := open_string Try.underlying9 (hval 1 9 v1 rfl rfl) h1
  clear hA0 hval0 hsz0
  refine (Q.gone.walk2 A_0 c_0 l_0 s_1 W hC_0 hl_0 hw_0).mono fun e W' ⟨he, bel⟩ => ?_
  subst he
  exact ⟨_, rfl, _, _, _, [], _, [], hW', trodAll_mk1 (shut_bool Try.underlying4 _), (trodAll_cons_mk (Below.trod laidOutChangeGone (by kernel_rfl) (of_decide_eq_true (by kernel_rfl)) k0 bel lt0) (trodAll_cons_mk (shut_string Try.underlying9 z_1) trodAll_mk0)), rfl, bel.frame _, fun h => by cases h⟩
theorem over : Rows.changeGoneRow.holds Try.pinned (OpenSpec.ofChange Rows.changeGoneSpec) :=
  OpenClaim.holds_of_wide 8 Try.f8 rfl rfl rfl rfl rfl rfl rfl ⟨rfl, rfl, rfl, rfl, rfl⟩ rfl rfl rfl rfl rfl (by kernel_rfl) Try.func8 (by kernel_rfl)
    (of_decide_eq_true (by kernel_rfl)) (by unfold Func.isWrapper; first | (rw [if_pos (by decide +kernel)]; kernel_rfl) | (rw [if_neg (by decide +kernel)]; exact ⟨rfl, rfl⟩))
    (fun os started H enc _ => lifted os started H enc)
end Go.Proofs.Ytipahpkdddijmaa.changeGone
namespace Go.Proofs.Ytipahpkdddijmaa
open Go
/-- The row. -/
theorem changeGone_holds : Rows.ChangeGoneSaid := changeGone.over
#print axioms changeGone_holds
end Go.Proofs.Ytipahpkdddijmaa
