/- Any record's octets are the document's, or it is refused with its error; they are taken as it was; whatever octets there are are the document's record, or refused: the law ChangeLays answers true, for any notes and any octets; there are no conditions. Part 2 of 2. -/
import Derived.Test.YtipahpkdddijmaaCd2
import Derived.Test.YtipahpkdddijmaaCy0
import Derived.Test.YtipahpkdddijmaaCy1
import Derived.Test.YtipahpkdddijmaaProg
import Derived.Below
import Derived.Deep.Draws
import Derived.Deep.AppendLies
import Derived.Maps.AppendAt
import Derived.OwnWalk
import Derived.Laws.BytesArg
import Derived.Laws.MakeOwn
import Derived.Laws.OwnMore
import Derived.Deep.OwnRows
import Derived.Tactics
import Derived.Lib.ConvBytes
import Derived.Laws.Slices
import Derived.WalkKit
import Derived.KernelRfl
import Derived.RowKit3
import Derived.Deep.LoopGhost
import Derived.Deep.QuietTactic
import Derived.BigQuiet
import Derived.WideLaws
import Derived.Deep.DeepCutAuto
import Derived.Deep.CutBlock
import Derived.Deep.RegionHeld3
import Derived.Laws.Rows
import Derived.Lib.AppendStr
import Derived.ArgAppend
import Derived.Laws.IdiomCopy
import Derived.OrdersHeld
import Derived.Laws.BitsLemmas
import Derived.RowKit
import Derived.Laws.StructEq
import Derived.Maps.OwnSet
import Derived.Maps.RangeWalk
import Derived.Lib.BufferMore
import Derived.Lib.Bytealg
import Derived.Shelf.SlSortCmp.WholeK
import Derived.Shelf.Strings.Builder1
import Derived.Shelf.Small.Bits
import Derived.Shelf.Small.Strs
import Derived.Shelf.Strings.BuilderF
import Derived.Shelf.Strconv.Itoa0
import Derived.Shelf.SlSortCmp.QuietGrown
import Derived.Laws.CopyOwn
import Derived.Lib.Overlaps
import Derived.Deep.RegionLaw
import Derived.Lib.Builder
import Derived.Deep.DeepMust
import Derived.Laws.Bits64b
import Derived.RangeFuncBox
import Derived.RangeFuncLeaves
import Derived.Shelf.Abstract
import Derived.OwnWalkIn
import Derived.TacticsInMore
import Derived.LoopNIn
import Derived.LoopIn
import Derived.RangeFuncNested
import Derived.RangeFuncBound
import Derived.RangeFuncCalls
import Derived.Shelf.RegionOpen
import Derived.ProofKit
import Derived.Deep.Strs
import Derived.Test.YtipahpkdddijmaaRows
import Derived.OpenShut
import Derived.ShutString
import Derived.ChangeOld
import Derived.SizedLaws
-- L10
namespace Go.Proofs.Ytipahpkdddijmaa.Q
open Go.RowKit Go.Proofs.YtipahpkdddijmaaW.PrintWords Go.Proofs.YtipahpkdddijmaaW.PrintLast Go.Proofs.YtipahpkdddijmaaW.PrintMore
attribute [local go_sem] max2_int min2_int max_two min_two max_three min_three max_four min_four   -- for this text's walks alone
set_option linter.unusedVariables false
set_option linter.unusedSimpArgs false

/-! ### cellarerlaw12_ChangeLays: function 3 -/
mutual
def cellarerlaw12_ChangeLays.j0 : Nat → List (S39) → ByteArray → Option (Bool)
  | 0, _, _ => none
  | k + 1, x0, x1 => (change_Lay.f x0).bind fun bt193 => ((cellarerref12_Lay.f k x0).bind fun bt195 => ((change_TakeA.f x1).bind fun bt197 => ((cellarerref12_Take.f k x1).bind fun bt201 => (if bt193.1.toList = bt195.1.toList then (if bt193.2 = bt195.2 then ((cellarerref12_Same.f k bt197.1 bt201.1).bind fun t205 => (if t205 = true then (if ((bt197.2 == 0) != bt201.2) = true then (cellarerlaw12_ChangeLays.j1 k x0 bt193.1 bt195.2 true) else (if bt201.2 = true then (cellarerlaw12_ChangeLays.j1 k x0 bt193.1 bt195.2 false) else (cellarerlaw12_ChangeLays.j1 k x0 bt193.1 bt195.2 (bt197.2 != 2)))) else (cellarerlaw12_ChangeLays.j1 k x0 bt193.1 bt195.2 true))) else (cellarerlaw12_ChangeLays.j1 k x0 bt193.1 bt195.2 true)) else (cellarerlaw12_ChangeLays.j1 k x0 bt193.1 bt195.2 true)))))
def cellarerlaw12_ChangeLays.j1 : Nat → List (S39) → ByteArray → Int → Bool → Option (Bool)
  | 0, _, _, _, _ => none
  | k + 1, x0, x5, x8, x70 => if x70 = true then (some false) else (cellarerlaw12_ChangeLays.l0 k x0 x5 x8 0)
def cellarerlaw12_ChangeLays.l0 : Nat → List (S39) → ByteArray → Int → Int → Option (Bool)
  | 0, _, _, _, _ => none
  | k + 1, x0, x5, x8, x13 => if x13 < (x0.length : Int) then (if 0 ≤ x13 then ((change_May.f ((rd_T39 x0 x13).f0) ((rd_T39 x0 x13).f1.f0) ((rd_T39 x0 x13).f1.f1) ((rd_T39 x0 x13).f1.f2)).bind fun t207 => ((cellarerref12_May.f ((rd_T39 x0 x13).f0) ((rd_T39 x0 x13).f1.f0) ((rd_T39 x0 x13).f1.f1) ((rd_T39 x0 x13).f1.f2)).bind fun t209 => (if (t207 != t209) = true then (some false) else (cellarerlaw12_ChangeLays.l0 k x0 x5 x8 (wrap64 (x13 + 1)))))) else (none)) else (if x8 = 0 then ((change_TakeA.f x5).bind fun bt210 => ((cellarerref12_Same.f k bt210.1 x0).bind fun t214 => (if t214 = true then (if bt210.2 = 0 then ((cellarerlaw12_awake.f).bind fun t215 => (some t215)) else (some false)) else (some false)))) else ((cellarerlaw12_awake.f).bind fun t216 => (some t216)))
end
def cellarerlaw12_ChangeLays.f (k : Nat) (l0 : List (S39)) (a1 : ByteArray) : Option (Bool) := (cellarerlaw12_Few.f l0).bind fun t190 => (if (a1.size : Int) > 13000 then (if 0 ≤ 13000 then (if 13000 ≤ (a1.size : Int) then (cellarerlaw12_ChangeLays.j0 k t190 (a1.extract 0 13000)) else (none)) else (none)) else (cellarerlaw12_ChangeLays.j0 k t190 a1))
theorem cellarerlaw12_ChangeLays.mono_l : ∀ k, (∀ y0 y1, LeO (cellarerlaw12_ChangeLays.j0 k y0 y1) (cellarerlaw12_ChangeLays.j0 (k + 1) y0 y1)) ∧ (∀ y0 y1 y2 y3, LeO (cellarerlaw12_ChangeLays.j1 k y0 y1 y2 y3) (cellarerlaw12_ChangeLays.j1 (k + 1) y0 y1 y2 y3)) ∧ (∀ y0 y1 y2 y3, LeO (cellarerlaw12_ChangeLays.l0 k y0 y1 y2 y3) (cellarerlaw12_ChangeLays.l0 (k + 1) y0 y1 y2 y3))
  | 0 => ⟨fun _ _ r h => by simp [cellarerlaw12_ChangeLays.j0] at h, fun _ _ _ _ r h => by simp [cellarerlaw12_ChangeLays.j1] at h, fun _ _ _ _ r h => by simp [cellarerlaw12_ChangeLays.l0] at h⟩
  | k + 1 => by
    obtain ⟨ih0, ih1, ih2⟩ := cellarerlaw12_ChangeLays.mono_l k
    refine ⟨?_, ?_, ?_⟩
    · intro y0 y1
      unfold cellarerlaw12_ChangeLays.j0
      repeat' first
      | (with_reducible exact ih0 _ _)
      | (with_reducible exact ih1 _ _ _ _)
      | (with_reducible exact ih2 _ _ _ _)
      | (with_reducible exact cellarerref12_Lay.mono _ _)
      | (with_reducible exact cellarerref12_Same.mono _ _ _)
      | (with_reducible exact cellarerref12_Take.mono _ _)
      | (with_reducible exact LeO.refl _)
      | (with_reducible exact LeO.none _)
      | (with_reducible refine LeO.ite ?_ ?_)
      | (with_reducible refine LeO.bind ?_ (fun _ => ?_))
      | exact ih0 _ _
      | exact ih1 _ _ _ _
      | exact ih2 _ _ _ _
      | exact cellarerref12_Lay.mono _ _
      | exact cellarerref12_Same.mono _ _ _
      | exact cellarerref12_Take.mono _ _
      | exact LeO.none _
      | refine LeO.ite ?_ ?_
      | refine LeO.bind ?_ (fun _ => ?_)
    · intro y0 y1 y2 y3
      unfold cellarerlaw12_ChangeLays.j1
      repeat' first
      | (with_reducible exact ih0 _ _)
      | (with_reducible exact ih1 _ _ _ _)
      | (with_reducible exact ih2 _ _ _ _)
      | (with_reducible exact cellarerref12_Lay.mono _ _)
      | (with_reducible exact cellarerref12_Same.mono _ _ _)
      | (with_reducible exact cellarerref12_Take.mono _ _)
      | (with_reducible exact LeO.refl _)
      | (with_reducible exact LeO.none _)
      | (with_reducible refine LeO.ite ?_ ?_)
      | (with_reducible refine LeO.bind ?_ (fun _ => ?_))
      | exact ih0 _ _
      | exact ih1 _ _ _ _
      | exact ih2 _ _ _ _
      | exact cellarerref12_Lay.mono _ _
      | exact cellarerref12_Same.mono _ _ _
      | exact cellarerref12_Take.mono _ _
      | exact LeO.none _
      | refine LeO.ite ?_ ?_
      | refine LeO.bind ?_ (fun _ => ?_)
    · intro y0 y1 y2 y3
      unfold cellarerlaw12_ChangeLays.l0
      repeat' first
      | (with_reducible exact ih0 _ _)
      | (with_reducible exact ih1 _ _ _ _)
      | (with_reducible exact ih2 _ _ _ _)
      | (with_reducible exact cellarerref12_Lay.mono _ _)
      | (with_reducible exact cellarerref12_Same.mono _ _ _)
      | (with_reducible exact cellarerref12_Take.mono _ _)
      | (with_reducible exact LeO.refl _)
      | (with_reducible exact LeO.none _)
      | (with_reducible refine LeO.ite ?_ ?_)
      | (with_reducible refine LeO.bind ?_ (fun _ => ?_))
      | exact ih0 _ _
      | exact ih1 _ _ _ _
      | exact ih2 _ _ _ _
      | exact cellarerref12_Lay.mono _ _
      | exact cellarerref12_Same.mono _ _ _
      | exact cellarerref12_Take.mono _ _
      | exact LeO.none _
      | refine LeO.ite ?_ ?_
      | refine LeO.bind ?_ (fun _ => ?_)
theorem cellarerlaw12_ChangeLays.mono : ∀ a0 a1 k, LeO (cellarerlaw12_ChangeLays.f k a0 a1) (cellarerlaw12_ChangeLays.f (k + 1) a0 a1) := by
  intro a0 a1 k
  obtain ⟨ih0, ih1, ih2⟩ := cellarerlaw12_ChangeLays.mono_l k
  unfold cellarerlaw12_ChangeLays.f
  repeat' first
      | (with_reducible exact ih0 _ _)
      | (with_reducible exact ih1 _ _ _ _)
      | (with_reducible exact ih2 _ _ _ _)
      | (with_reducible exact cellarerref12_Lay.mono _ _)
      | (with_reducible exact cellarerref12_Same.mono _ _ _)
      | (with_reducible exact cellarerref12_Take.mono _ _)
      | (with_reducible exact LeO.refl _)
      | (with_reducible exact LeO.none _)
      | (with_reducible refine LeO.ite ?_ ?_)
      | (with_reducible refine LeO.bind ?_ (fun _ => ?_))
      | exact ih0 _ _
      | exact ih1 _ _ _ _
      | exact ih2 _ _ _ _
      | exact cellarerref12_Lay.mono _ _
      | exact cellarerref12_Same.mono _ _ _
      | exact cellarerref12_Take.mono _ _
      | exact LeO.none _
      | refine LeO.ite ?_ ?_
      | refine LeO.bind ?_ (fun _ => ?_)
def cellarerlaw12_ChangeLays.T13 : Bool × List (List Nat × List Nat) := (true, [([], []), ([], []), ([0, 1], [0, 1]), ([2], [2]), ([3], [3]), ([], []), ([], []), ([5, 6], [5, 6]), ([7], [7]), ([8, 4], [8]), ([4, 9], [4, 9])])
def cellarerlaw12_ChangeLays.B13 : List Nat := [0, 0, 3, 7, 15, 0, 0, 96, 224, 511, 1023]
theorem cellarerlaw12_ChangeLays.tab13 : rtab .any (opsOf Try.f3 13) = cellarerlaw12_ChangeLays.T13 := by kernel_rfl
theorem cellarerlaw12_ChangeLays.bits13 : waitsOk cellarerlaw12_ChangeLays.T13.2 cellarerlaw12_ChangeLays.B13 = true := by kernel_rfl
set_option maxHeartbeats 8000000 in
set_option maxRecDepth 100000 in
theorem cellarerlaw12_ChangeLays.calls (k : Nat) (A0 : Option Addr) (c0 : Nat) (l0 : List (S39)) (a1 : ByteArray) (r : Bool) (w : World) (hr0 : Kd.C k39 w A0 l0.length l0) (hc0 : l0.length ≤ c0) (h : cellarerlaw12_ChangeLays.f k l0 a1 = some r) :
    Calls Try.prog 3 #[.slice A0 l0.length c0, .string a1] w fun e w' => e = .returned (.bool r) ∧ Below w.heap.size w w' := by
  have hu39 := Try.underlying39
  have HR0 := Aside0.mk hr0
  have HC0 := Aside0.mk hc0
  clear hr0 hc0
  have HB := Aside0.mk (Below.refl w.heap.size w)
  have H : ((cellarerlaw12_Few.f l0).bind fun t190 => (if (a1.size : Int) > 13000 then (if 0 ≤ 13000 then (if 13000 ≤ (a1.size : Int) then (cellarerlaw12_ChangeLays.j0 k t190 (a1.extract 0 13000)) else (none)) else (none)) else (cellarerlaw12_ChangeLays.j0 k t190 a1))) = some r := h
  clear h
  replace H := Option.bind_eq_some_iff.mp H
  obtain ⟨t190, A30, H⟩ := H
  replace H : (if (a1.size : Int) > 13000 then (if 0 ≤ 13000 then (if 13000 ≤ (a1.size : Int) then (cellarerlaw12_ChangeLays.j0 k t190 (a1.extract 0 13000)) else (none)) else (none)) else (cellarerlaw12_ChangeLays.j0 k t190 a1)) = some r := H
  have A3 := Aside0.mk A30
  clear A30
  have HC4 := Aside0.mk H
  clear H
  go_enter Try.func3, Try.ntmps3
  go_upto_if 20 with (first | ((with_reducible refine gate_callee (f := 10) rfl ?_); refine goesL_ (some 17) rfl rfl Try.func10 (by kernel_rfl) rfl #[.slice A0 l0.length c0] rfl (by (try simp only [List.map_toArray, List.map_cons, List.map_nil]); first | done | rfl | (simp only [List.length_drop, List.length_take]; rfl)) ?_; (with_reducible refine (cellarerlaw12_Few.calls _ _ l0 t190 _ ?side1 ?side2 A3.out).mono ?_); (case side1 => repeat (first | exact HR0.out | (with_reducible refine Kd.C_alloc ?_ _) | (with_reducible refine Kd.C_drewN ?_ _) | (with_reducible refine Kd.C_drew ?_))); (case side2 => exact HC0.out); rintro e w5 ⟨v191, rfl, ho0, hb⟩; refine ⟨_, rfl, ?_⟩; have n0_ := Aside0.mk (Kd.R_lower ho0 (below_size (by repeat (first | (with_reducible first | exact HB.out | apply below_alloc | apply pw_below_drewN | apply below_drew1) | exact HB.out)))); have n1_ := Aside0.mk (below_step (by repeat (first | (with_reducible first | exact HB.out | apply below_alloc | apply pw_below_drewN | apply below_drew1) | exact HB.out)) hb); clear HB; have HO192 := n0_; have HB := n1_; clear n0_ n1_; (try clear hb); (try clear hb2); (try clear hk); (try clear hi); (try clear ho0)))
  (try simp only [Act.put, List.setIfInBounds_toArray, List.set_cons_zero, List.set_cons_succ])
  go_cut [1] (fun v1 wc => ∃ (kq : Nat) (x1_3 : ByteArray), v1 = .string x1_3 ∧ Aside0 (cellarerlaw12_ChangeLays.j0 kq t190 x1_3 = some r) ∧ Aside0 (kq ≤ k) ∧ Aside0 (Kd.R k39 39 wc w.heap.size (fun _ => True) v191 t190) ∧ Aside0 (Below w.heap.size w wc))
  case first =>
    have H := HC4.out
    clear HC4
    by_cases c6 : (a1.size : Int) > 13000
    · rw [if_pos c6] at H
      have c6b0 : decide (13000 < (a1.size : Int)) = true := decide_eq_true c6
      have c6b1 : decide (13000 < a1.size) = true := decide_eq_true (by omega)
      clear c6
      (first | rw [c6b0] | (simp only [i64_w, i32_w]; rw [c6b0]) | skip)
      by_cases c7 : 0 ≤ 13000
      · rw [if_pos c7] at H
        have c7b0 := eq_true c7
        have c7b1 : decide (0 ≤ 13000) = true := decide_eq_true c7
        clear c7
        by_cases c8 : 13000 ≤ (a1.size : Int)
        · rw [if_pos c8] at H
          have c8b0 := eq_true c8
          have c8b1 : decide (13000 ≤ (a1.size : Int)) = true := decide_eq_true c8
          clear c8
          have H' := Aside0.mk H
          clear H
          go_wp2
          go_meet
          case rel => exact ⟨_, (a1.extract 0 13000), (by first | rfl | (simp; done) | (simp [*]; done)), H', ⟨by first | omega | exact Nat.le_refl _⟩, ⟨by (with_reducible repeat (first | apply Kd.R_alloc | apply Kd.R_drewN | apply Kd.R_drew)); exact HO192.out⟩, ⟨by repeat (first | (with_reducible first | exact HB.out | apply below_alloc | apply pw_below_drewN | apply below_drew1) | exact HB.out)⟩⟩
        · rw [if_neg c8] at H
          exact absurd H (by simp)
      · rw [if_neg c7] at H
        exact absurd H (by simp)
    · rw [if_neg c6] at H
      have c6b0 : decide (13000 < (a1.size : Int)) = false := decide_eq_false c6
      have c6b1 : decide (13000 < a1.size) = false := decide_eq_false (by omega)
      clear c6
      (first | rw [c6b0] | (simp only [i64_w, i32_w]; rw [c6b0]) | skip)
      have H' := Aside0.mk H
      clear H
      go_wp2
      go_meet
      case rel => exact ⟨_, (a1), (by first | rfl | (simp; done) | (simp [*]; done)), H', ⟨by first | omega | exact Nat.le_refl _⟩, ⟨by (with_reducible repeat (first | apply Kd.R_alloc | apply Kd.R_drewN | apply Kd.R_drew)); exact HO192.out⟩, ⟨by repeat (first | (with_reducible first | exact HB.out | apply below_alloc | apply pw_below_drewN | apply below_drew1) | exact HB.out)⟩⟩
  case rest =>
    clear HC4
    try clear c1
    try clear p2
    try clear c3
    try clear c6
    try clear c6b0
    try clear c6b1
    try clear c7
    try clear c7b0
    try clear c7b1
    try clear c8
    try clear c8b0
    try clear c8b1
    obtain ⟨kq, x1_3, rfl, HA, HJ3, HO_0, HB⟩ := hcut
    cases kq with
    | zero => exact absurd HA.out (by simp [cellarerlaw12_ChangeLays.j0])
    | succ kj3 =>
      have H := HA.out
      clear HA
      simp only [cellarerlaw12_ChangeLays.j0] at H
      replace H := Option.bind_eq_some_iff.mp H
      obtain ⟨⟨t193, t194⟩, A90, H⟩ := H
      replace H : ((cellarerref12_Lay.f kj3 t190).bind fun bt195 => ((change_TakeA.f x1_3).bind fun bt197 => ((cellarerref12_Take.f kj3 x1_3).bind fun bt201 => (if t193.toList = bt195.1.toList then (if t194 = bt195.2 then ((cellarerref12_Same.f kj3 bt197.1 bt201.1).bind fun t205 => (if t205 = true then (if ((bt197.2 == 0) != bt201.2) = true then (cellarerlaw12_ChangeLays.j1 kj3 t190 t193 bt195.2 true) else (if bt201.2 = true then (cellarerlaw12_ChangeLays.j1 kj3 t190 t193 bt195.2 false) else (cellarerlaw12_ChangeLays.j1 kj3 t190 t193 bt195.2 (bt197.2 != 2)))) else (cellarerlaw12_ChangeLays.j1 kj3 t190 t193 bt195.2 true))) else (cellarerlaw12_ChangeLays.j1 kj3 t190 t193 bt195.2 true)) else (cellarerlaw12_ChangeLays.j1 kj3 t190 t193 bt195.2 true))))) = some r := H
      have A9 := Aside0.mk A90
      clear A90
      replace H := Option.bind_eq_some_iff.mp H
      obtain ⟨⟨t195, t196⟩, A100, H⟩ := H
      replace H : ((change_TakeA.f x1_3).bind fun bt197 => ((cellarerref12_Take.f kj3 x1_3).bind fun bt201 => (if t193.toList = t195.toList then (if t194 = t196 then ((cellarerref12_Same.f kj3 bt197.1 bt201.1).bind fun t205 => (if t205 = true then (if ((bt197.2 == 0) != bt201.2) = true then (cellarerlaw12_ChangeLays.j1 kj3 t190 t193 t196 true) else (if bt201.2 = true then (cellarerlaw12_ChangeLays.j1 kj3 t190 t193 t196 false) else (cellarerlaw12_ChangeLays.j1 kj3 t190 t193 t196 (bt197.2 != 2)))) else (cellarerlaw12_ChangeLays.j1 kj3 t190 t193 t196 true))) else (cellarerlaw12_ChangeLays.j1 kj3 t190 t193 t196 true)) else (cellarerlaw12_ChangeLays.j1 kj3 t190 t193 t196 true)))) = some r := H
      have A10 := Aside0.mk A100
      clear A100
      replace H := Option.bind_eq_some_iff.mp H
      obtain ⟨⟨t197, t198⟩, A110, H⟩ := H
      replace H : ((cellarerref12_Take.f kj3 x1_3).bind fun bt201 => (if t193.toList = t195.toList then (if t194 = t196 then ((cellarerref12_Same.f kj3 t197 bt201.1).bind fun t205 => (if t205 = true then (if ((t198 == 0) != bt201.2) = true then (cellarerlaw12_ChangeLays.j1 kj3 t190 t193 t196 true) else (if bt201.2 = true then (cellarerlaw12_ChangeLays.j1 kj3 t190 t193 t196 false) else (cellarerlaw12_ChangeLays.j1 kj3 t190 t193 t196 (t198 != 2)))) else (cellarerlaw12_ChangeLays.j1 kj3 t190 t193 t196 true))) else (cellarerlaw12_ChangeLays.j1 kj3 t190 t193 t196 true)) else (cellarerlaw12_ChangeLays.j1 kj3 t190 t193 t196 true))) = some r := H
      have A11 := Aside0.mk A110
      clear A110
      replace H := Option.bind_eq_some_iff.mp H
      obtain ⟨⟨t201, t202⟩, A120, H⟩ := H
      replace H : (if t193.toList = t195.toList then (if t194 = t196 then ((cellarerref12_Same.f kj3 t197 t201).bind fun t205 => (if t205 = true then (if ((t198 == 0) != t202) = true then (cellarerlaw12_ChangeLays.j1 kj3 t190 t193 t196 true) else (if t202 = true then (cellarerlaw12_ChangeLays.j1 kj3 t190 t193 t196 false) else (cellarerlaw12_ChangeLays.j1 kj3 t190 t193 t196 (t198 != 2)))) else (cellarerlaw12_ChangeLays.j1 kj3 t190 t193 t196 true))) else (cellarerlaw12_ChangeLays.j1 kj3 t190 t193 t196 true)) else (cellarerlaw12_ChangeLays.j1 kj3 t190 t193 t196 true)) = some r := H
      have A12 := Aside0.mk A120
      clear A120
      have HC13 := Aside0.mk H
      clear H
      obtain ⟨Ao14, co14, eo14⟩ := Kd.R_slice HO_0.out
      subst eo14
      go_upto_region 8 with (first | ((with_reducible refine gate_callee (f := 11) rfl ?_); refine goesL_ (some 25) rfl rfl Try.func11 (by kernel_rfl) rfl #[.slice Ao14 t190.length co14] rfl (by (try simp only [List.map_toArray, List.map_cons, List.map_nil]); first | done | rfl | (simp only [List.length_drop, List.length_take]; rfl)) ?_; (with_reducible refine (change_Lay.calls _ _ t190 t193 t194 _ ?side1 ?side2 A9.out).mono ?_); (case side1 => repeat (first | exact (Kd.R_reads' HO_0.out).2.2 | (with_reducible refine Kd.C_alloc ?_ _) | (with_reducible refine Kd.C_drewN ?_ _) | (with_reducible refine Kd.C_drew ?_))); (case side2 => exact (Kd.R_reads' HO_0.out).2.1); rintro e w15 ⟨rfl, hb⟩; refine ⟨_, rfl, ?_⟩; have n0_ := Aside0.mk (Kd.R_below (by (with_reducible repeat (first | apply Kd.R_alloc | apply Kd.R_drewN | apply Kd.R_drew)); exact HO_0.out) hb); have n1_ := Aside0.mk (below_step (by repeat (first | (with_reducible first | exact HB.out | apply below_alloc | apply pw_below_drewN | apply below_drew1) | exact HB.out)) hb); clear HO_0; clear HB; have HO_0 := n0_; have HB := n1_; clear n0_ n1_; (try clear hb); (try clear hb2); (try clear hk); (try clear hi)) | ((with_reducible refine gate_callee (f := 12) rfl ?_); refine goesL_ (some 30) rfl rfl Try.func12 (by kernel_rfl) rfl #[.slice Ao14 t190.length co14] rfl (by (try simp only [List.map_toArray, List.map_cons, List.map_nil]); first | done | rfl | (simp only [List.length_drop, List.length_take]; rfl)) ?_; (with_reducible refine (cellarerref12_Lay.calls kj3 _ _ t190 t195 t196 _ ?side1 ?side2 A10.out).mono ?_); (case side1 => repeat (first | exact (Kd.R_reads' HO_0.out).2.2 | (with_reducible refine Kd.C_alloc ?_ _) | (with_reducible refine Kd.C_drewN ?_ _) | (with_reducible refine Kd.C_drew ?_))); (case side2 => exact (Kd.R_reads' HO_0.out).2.1); rintro e w16 ⟨rfl, hb⟩; refine ⟨_, rfl, ?_⟩; have n0_ := Aside0.mk (Kd.R_below (by (with_reducible repeat (first | apply Kd.R_alloc | apply Kd.R_drewN | apply Kd.R_drew)); exact HO_0.out) hb); have n1_ := Aside0.mk (below_step (by repeat (first | (with_reducible first | exact HB.out | apply below_alloc | apply pw_below_drewN | apply below_drew1) | exact HB.out)) hb); clear HO_0; clear HB; have HO_0 := n0_; have HB := n1_; clear n0_ n1_; (try clear hb); (try clear hb2); (try clear hk); (try clear hi)) | ((with_reducible refine gate_callee (f := 13) rfl ?_); refine goesL_ (some 35) rfl rfl Try.func13 (by kernel_rfl) rfl #[.string x1_3] rfl (by (try simp only [List.map_toArray, List.map_cons, List.map_nil]); first | done | rfl | (simp only [List.length_drop, List.length_take]; rfl)) ?_; (with_reducible refine (change_TakeA.calls x1_3 t197 t198 _ A11.out).mono ?_); rintro e w17 ⟨v199, rfl, ho0, hb⟩; refine ⟨_, rfl, ?_⟩; have n0_ := Aside0.mk (Kd.R_elder' (by (with_reducible repeat (first | apply Kd.R_alloc | apply Kd.R_drewN | apply Kd.R_drew)); exact HO_0.out) (Kd.R_base ho0) hb); have n1_ := Aside0.mk (Kd.R_lower (Kd.R_new' ho0 (Kd.R_lt (by (with_reducible repeat (first | apply Kd.R_alloc | apply Kd.R_drewN | apply Kd.R_drew)); exact HO_0.out))) (below_size (by repeat (first | (with_reducible first | exact HB.out | apply below_alloc | apply pw_below_drewN | apply below_drew1) | exact HB.out)))); have n2_ := Aside0.mk (below_step (by repeat (first | (with_reducible first | exact HB.out | apply below_alloc | apply pw_below_drewN | apply below_drew1) | exact HB.out)) hb); clear HO_0; clear HB; have HO_0 := n0_; have HO200 := n1_; have HB := n2_; clear n0_ n1_ n2_; (try clear hb); (try clear hb2); (try clear hk); (try clear hi); (try clear ho0)) | ((with_reducible refine gate_callee (f := 14) rfl ?_); refine goesL_ (some 40) rfl rfl Try.func14 (by kernel_rfl) rfl #[.string x1_3] rfl (by (try simp only [List.map_toArray, List.map_cons, List.map_nil]); first | done | rfl | (simp only [List.length_drop, List.length_take]; rfl)) ?_; (with_reducible refine (cellarerref12_Take.calls kj3 x1_3 t201 t202 _ A12.out).mono ?_); rintro e w18 ⟨v203, rfl, ho0, hb⟩; refine ⟨_, rfl, ?_⟩; have n0_ := Aside0.mk (Kd.R_elder' (by (with_reducible repeat (first | apply Kd.R_alloc | apply Kd.R_drewN | apply Kd.R_drew)); exact HO_0.out) (Kd.R_base ho0) hb); have n1_ := Aside0.mk (Kd.R_elder' (by (with_reducible repeat (first | apply Kd.R_alloc | apply Kd.R_drewN | apply Kd.R_drew)); exact HO200.out) (Kd.R_base ho0) hb); have n2_ := Aside0.mk (Kd.R_lower (Kd.R_new' (Kd.R_new' ho0 (Kd.R_lt (by (with_reducible repeat (first | apply Kd.R_alloc | apply Kd.R_drewN | apply Kd.R_drew)); exact HO_0.out))) (Kd.R_lt (by (with_reducible repeat (first | apply Kd.R_alloc | apply Kd.R_drewN | apply Kd.R_drew)); exact HO200.out))) (below_size (by repeat (first | (with_reducible first | exact HB.out | apply below_alloc | apply pw_below_drewN | apply below_drew1) | exact HB.out)))); have n3_ := Aside0.mk (below_step (by repeat (first | (with_reducible first | exact HB.out | apply below_alloc | apply pw_below_drewN | apply below_drew1) | exact HB.out)) hb); clear HO_0; clear HO200; clear HB; have HO_0 := n0_; have HO200 := n1_; have HO204 := n2_; have HB := n3_; clear n0_ n1_ n2_ n3_; (try clear hb); (try clear hb2); (try clear hk); (try clear hi); (try clear ho0)))
      (try simp only [Act.put, List.setIfInBounds_toArray, List.set_cons_zero, List.set_cons_succ])
      go_cut [70] (fun v70 wc => ∃ (kq : Nat) (x70_12 : Bool), v70 = .bool x70_12 ∧ Aside0 (cellarerlaw12_ChangeLays.j1 kq t190 t193 t196 x70_12 = some r) ∧ Aside0 (kq ≤ kj3) ∧ Aside0 (Kd.R k39 39 wc w.heap.size (fun _ => True) (.slice Ao14 t190.length co14) t190) ∧ Aside0 (Below w.heap.size w wc))
      case first =>
        have H := HC13.out
        clear HC13
        by_cases c19 : t193.toList = t195.toList
        · rw [if_pos c19] at H
          have c19b0 : (t193.toList == t195.toList) = true := beq_iff_eq.mpr c19
          have c19b1 : (t193.toList != t195.toList) = false := bne_eq_false_iff_eq.mpr c19
          clear c19
          (first | rw [c19b0] | (simp only [i64_w, i32_w]; rw [c19b0]) | skip)
          by_cases c20 : t194 = t196
          · rw [if_pos c20] at H
            have c20b0 : (t194 == t196) = true := beq_iff_eq.mpr c20
            have c20b1 : (t194 != t196) = false := bne_eq_false_iff_eq.mpr c20
            clear c20
            replace H := Option.bind_eq_some_iff.mp H
            obtain ⟨t205, A210, H⟩ := H
            replace H : (if t205 = true then (if ((t198 == 0) != t202) = true then (cellarerlaw12_ChangeLays.j1 kj3 t190 t193 t196 true) else (if t202 = true then (cellarerlaw12_ChangeLays.j1 kj3 t190 t193 t196 false) else (cellarerlaw12_ChangeLays.j1 kj3 t190 t193 t196 (t198 != 2)))) else (cellarerlaw12_ChangeLays.j1 kj3 t190 t193 t196 true)) = some r := H
            have A21 := Aside0.mk A210
            clear A210
            by_cases c22 : t205 = true
            · subst c22
              have H1 : (if ((t198 == 0) != t202) = true then (cellarerlaw12_ChangeLays.j1 kj3 t190 t193 t196 true) else (if t202 = true then (cellarerlaw12_ChangeLays.j1 kj3 t190 t193 t196 false) else (cellarerlaw12_ChangeLays.j1 kj3 t190 t193 t196 (t198 != 2)))) = some r := by rw [if_pos rfl] at H; exact H
              clear H
              have H := H1
              clear H1
              by_cases c23 : ((t198 == 0) != t202) = true
              · rw [if_pos c23] at H
                have c23b0 : ((t198 == 0) != t202) = true := c23
                (try (have c23b1 : decide ((t198 == 0) = t202) = false := by simpa using c23))
                (try (have c23b2 : ((t198 == 0) == t202) = false := by simpa using c23))
                (try (have c23b3 : ¬ ((t198 == 0) = t202) := by simpa using c23))
                clear c23
                have H' := Aside0.mk H
                clear H
                obtain ⟨Ao24, co24, eo24⟩ := Kd.R_slice HO200.out
                subst eo24
                obtain ⟨Ao25, co25, eo25⟩ := Kd.R_slice HO204.out
                subst eo25
                go_wp2_with (first | (go_at_call 15; (with_reducible refine (cellarerref12_Same.calls kj3 _ _ t197 _ _ t201 true _ ?side1 ?side2 ?side3 ?side4 A21.out).mono ?_); (case side1 => repeat (first | exact (Kd.R_reads' HO200.out).2.2 | (with_reducible refine Kd.C_alloc ?_ _) | (with_reducible refine Kd.C_drewN ?_ _) | (with_reducible refine Kd.C_drew ?_))); (case side2 => exact (Kd.R_reads' HO200.out).2.1); (case side3 => repeat (first | exact (Kd.R_reads' HO204.out).2.2 | (with_reducible refine Kd.C_alloc ?_ _) | (with_reducible refine Kd.C_drewN ?_ _) | (with_reducible refine Kd.C_drew ?_))); (case side4 => exact (Kd.R_reads' HO204.out).2.1); rintro e w' ⟨rfl, ⟨nd, rfl⟩⟩))
                go_meet
                case rel => exact ⟨_, (true), (by first | rfl | (simp; done) | (simp [*]; done)), H', ⟨by have := HJ3.out; first | omega | exact Nat.le_refl _⟩, ⟨by (with_reducible repeat (first | apply Kd.R_alloc | apply Kd.R_drewN | apply Kd.R_drew)); exact Kd.R_mono HO_0.out (fun _ hk => trivial)⟩, ⟨by repeat (first | (with_reducible first | exact HB.out | apply below_alloc | apply pw_below_drewN | apply below_drew1) | exact HB.out)⟩⟩
              · rw [if_neg c23] at H
                have c23b0 : ((t198 == 0) != t202) = false := by simpa using c23
                (try (have c23b1 : decide ((t198 == 0) = t202) = true := by simpa using c23))
                (try (have c23b2 : ((t198 == 0) == t202) = true := by simpa using c23))
                clear c23
                by_cases c26 : t202 = true
                · subst c26
                  have H1 : (cellarerlaw12_ChangeLays.j1 kj3 t190 t193 t196 false) = some r := by rw [if_pos rfl] at H; exact H
                  clear H
                  have H := H1
                  clear H1
                  have H' := Aside0.mk H
                  clear H
                  obtain ⟨Ao27, co27, eo27⟩ := Kd.R_slice HO200.out
                  subst eo27
                  obtain ⟨Ao28, co28, eo28⟩ := Kd.R_slice HO204.out
                  subst eo28
                  go_wp2_with (first | (go_at_call 15; (with_reducible refine (cellarerref12_Same.calls kj3 _ _ t197 _ _ t201 true _ ?side1 ?side2 ?side3 ?side4 A21.out).mono ?_); (case side1 => repeat (first | exact (Kd.R_reads' HO200.out).2.2 | (with_reducible refine Kd.C_alloc ?_ _) | (with_reducible refine Kd.C_drewN ?_ _) | (with_reducible refine Kd.C_drew ?_))); (case side2 => exact (Kd.R_reads' HO200.out).2.1); (case side3 => repeat (first | exact (Kd.R_reads' HO204.out).2.2 | (with_reducible refine Kd.C_alloc ?_ _) | (with_reducible refine Kd.C_drewN ?_ _) | (with_reducible refine Kd.C_drew ?_))); (case side4 => exact (Kd.R_reads' HO204.out).2.1); rintro e w' ⟨rfl, ⟨nd, rfl⟩⟩))
                  go_meet
                  case rel => exact ⟨_, (false), (by first | rfl | (simp; done) | (simp [*]; done)), H', ⟨by have := HJ3.out; first | omega | exact Nat.le_refl _⟩, ⟨by (with_reducible repeat (first | apply Kd.R_alloc | apply Kd.R_drewN | apply Kd.R_drew)); exact Kd.R_mono HO_0.out (fun _ hk => trivial)⟩, ⟨by repeat (first | (with_reducible first | exact HB.out | apply below_alloc | apply pw_below_drewN | apply below_drew1) | exact HB.out)⟩⟩
                · replace c26 := Bool.eq_false_iff.mpr c26
                  subst c26
                  have H1 : (cellarerlaw12_ChangeLays.j1 kj3 t190 t193 t196 (t198 != 2)) = some r := by rw [if_neg (show ¬ (false = true) by decide)] at H; exact H
                  clear H
                  have H := H1
                  clear H1
                  have H' := Aside0.mk H
                  clear H
                  obtain ⟨Ao29, co29, eo29⟩ := Kd.R_slice HO200.out
                  subst eo29
                  obtain ⟨Ao30, co30, eo30⟩ := Kd.R_slice HO204.out
                  subst eo30
                  go_wp2_with (first | (go_at_call 15; (with_reducible refine (cellarerref12_Same.calls kj3 _ _ t197 _ _ t201 true _ ?side1 ?side2 ?side3 ?side4 A21.out).mono ?_); (case side1 => repeat (first | exact (Kd.R_reads' HO200.out).2.2 | (with_reducible refine Kd.C_alloc ?_ _) | (with_reducible refine Kd.C_drewN ?_ _) | (with_reducible refine Kd.C_drew ?_))); (case side2 => exact (Kd.R_reads' HO200.out).2.1); (case side3 => repeat (first | exact (Kd.R_reads' HO204.out).2.2 | (with_reducible refine Kd.C_alloc ?_ _) | (with_reducible refine Kd.C_drewN ?_ _) | (with_reducible refine Kd.C_drew ?_))); (case side4 => exact (Kd.R_reads' HO204.out).2.1); rintro e w' ⟨rfl, ⟨nd, rfl⟩⟩))
                  go_meet
                  case rel => exact ⟨_, ((t198 != 2)), (by first | rfl | (simp; done) | (simp [*]; done)), H', ⟨by have := HJ3.out; first | omega | exact Nat.le_refl _⟩, ⟨by (with_reducible repeat (first | apply Kd.R_alloc | apply Kd.R_drewN | apply Kd.R_drew)); exact Kd.R_mono HO_0.out (fun _ hk => trivial)⟩, ⟨by repeat (first | (with_reducible first | exact HB.out | apply below_alloc | apply pw_below_drewN | apply below_drew1) | exact HB.out)⟩⟩
            · replace c22 := Bool.eq_false_iff.mpr c22
              subst c22
              have H1 : (cellarerlaw12_ChangeLays.j1 kj3 t190 t193 t196 true) = some r := by rw [if_neg (show ¬ (false = true) by decide)] at H; exact H
              clear H
              have H := H1
              clear H1
              have H' := Aside0.mk H
              clear H
              obtain ⟨Ao31, co31, eo31⟩ := Kd.R_slice HO200.out
              subst eo31
              obtain ⟨Ao32, co32, eo32⟩ := Kd.R_slice HO204.out
              subst eo32
              go_wp2_with (first | (go_at_call 15; (with_reducible refine (cellarerref12_Same.calls kj3 _ _ t197 _ _ t201 false _ ?side1 ?side2 ?side3 ?side4 A21.out).mono ?_); (case side1 => repeat (first | exact (Kd.R_reads' HO200.out).2.2 | (with_reducible refine Kd.C_alloc ?_ _) | (with_reducible refine Kd.C_drewN ?_ _) | (with_reducible refine Kd.C_drew ?_))); (case side2 => exact (Kd.R_reads' HO200.out).2.1); (case side3 => repeat (first | exact (Kd.R_reads' HO204.out).2.2 | (with_reducible refine Kd.C_alloc ?_ _) | (with_reducible refine Kd.C_drewN ?_ _) | (with_reducible refine Kd.C_drew ?_))); (case side4 => exact (Kd.R_reads' HO204.out).2.1); rintro e w' ⟨rfl, ⟨nd, rfl⟩⟩))
              go_meet
              case rel => exact ⟨_, (true), (by first | rfl | (simp; done) | (simp [*]; done)), H', ⟨by have := HJ3.out; first | omega | exact Nat.le_refl _⟩, ⟨by (with_reducible repeat (first | apply Kd.R_alloc | apply Kd.R_drewN | apply Kd.R_drew)); exact Kd.R_mono HO_0.out (fun _ hk => trivial)⟩, ⟨by repeat (first | (with_reducible first | exact HB.out | apply below_alloc | apply pw_below_drewN | apply below_drew1) | exact HB.out)⟩⟩
          · rw [if_neg c20] at H
            have c20b0 : (t194 == t196) = false := beq_eq_false_iff_ne.mpr c20
            have c20b1 : (t194 != t196) = true := bne_iff_ne.mpr c20
            have H' := Aside0.mk H
            clear H
            go_wp2
            go_meet
            case rel => exact ⟨_, (true), (by first | rfl | (simp; done) | (simp [*]; done)), H', ⟨by have := HJ3.out; first | omega | exact Nat.le_refl _⟩, ⟨by (with_reducible repeat (first | apply Kd.R_alloc | apply Kd.R_drewN | apply Kd.R_drew)); exact Kd.R_mono HO_0.out (fun _ hk => trivial)⟩, ⟨by repeat (first | (with_reducible first | exact HB.out | apply below_alloc | apply pw_below_drewN | apply below_drew1) | exact HB.out)⟩⟩
        · rw [if_neg c19] at H
          have c19b0 : (t193.toList == t195.toList) = false := beq_eq_false_iff_ne.mpr c19
          have c19b1 : (t193.toList != t195.toList) = true := bne_iff_ne.mpr c19
          (first | rw [c19b0] | (simp only [i64_w, i32_w]; rw [c19b0]) | skip)
          have H' := Aside0.mk H
          clear H
          go_wp2
          go_meet
          case rel => exact ⟨_, (true), (by first | rfl | (simp; done) | (simp [*]; done)), H', ⟨by have := HJ3.out; first | omega | exact Nat.le_refl _⟩, ⟨by (with_reducible repeat (first | apply Kd.R_alloc | apply Kd.R_drewN | apply Kd.R_drew)); exact Kd.R_mono HO_0.out (fun _ hk => trivial)⟩, ⟨by repeat (first | (with_reducible first | exact HB.out | apply below_alloc | apply pw_below_drewN | apply below_drew1) | exact HB.out)⟩⟩
      case rest =>
        clear HC13
        try clear c1
        try clear c2
        try clear p2
        try clear c3
        try clear c6
        try clear c6b0
        try clear c6b1
        try clear c7
        try clear c7b0
        try clear c7b1
        try clear c8
        try clear c8b0
        try clear c8b1
        try clear c10
        try clear c11
        try clear c12
        try clear c13
        try clear c14
        try clear c19
        try clear c19b0
        try clear c19b1
        try clear c20
        try clear c20b0
        try clear c20b1
        try clear c22
        try clear c23
        try clear c23b0
        try clear c23b1
        try clear c23b2
        try clear c26
        try clear p2
        obtain ⟨kq, x70_12, rfl, HA, HJ12, HO_0, HB⟩ := hcut
        cases kq with
        | zero => exact absurd HA.out (by simp [cellarerlaw12_ChangeLays.j1])
        | succ kj12 =>
          have H := HA.out
          clear HA
          simp only [cellarerlaw12_ChangeLays.j1] at H
          by_cases c33 : x70_12 = true
          · subst c33
            have H1 : (some false) = some r := by rw [if_pos rfl] at H; exact H
            clear H
            have H := H1
            clear H1
            obtain rfl := Option.some.inj H
            go_wp2
            go_ret
            exact ⟨by first | rfl | (simp [errW_none, errW_some] <;> rfl) | (simp [*, errW_none, errW_some] <;> rfl), by repeat (first | (with_reducible first | exact HB.out | apply below_alloc | apply pw_below_drewN | apply below_drew1) | exact HB.out)⟩
          · replace c33 := Bool.eq_false_iff.mpr c33
            subst c33
            have H1 : (cellarerlaw12_ChangeLays.l0 kj12 t190 t193 t196 0) = some r := by rw [if_neg (show ¬ (false = true) by decide)] at H; exact H
            clear H
            have H := H1
            clear H1
            have H' := Aside0.mk H
            clear H
            go_wp2
            go_loopg [13] kj12 (fun kq v13 w' => ∃ (x13_3 : Int), v13 = .int .i64 x13_3 ∧ Aside0 (cellarerlaw12_ChangeLays.l0 kq t190 t193 t196 x13_3 = some r) ∧ Aside0 (kq ≤ kj12) ∧ Aside0 (Kd.R k39 39 w' w.heap.size (fun _ => True) (.slice Ao14 t190.length co14) t190) ∧ Aside0 (Below w.heap.size w w'))
            case atStart => exact ⟨(0), (by first | rfl | (simp; done) | (simp [*]; done)), H', ⟨Nat.le_refl _⟩, ⟨by (with_reducible repeat (first | apply Kd.R_alloc | apply Kd.R_drewN | apply Kd.R_drew)); exact HO_0.out⟩, ⟨by repeat (first | (with_reducible first | exact HB.out | apply below_alloc | apply pw_below_drewN | apply below_drew1) | exact HB.out)⟩⟩
            case round =>
              clear H'
              try clear c1
              try clear c2
              try clear p2
              try clear c3
              try clear c6
              try clear c6b0
              try clear c6b1
              try clear c7
              try clear c7b0
              try clear c7b1
              try clear c8
              try clear c8b0
              try clear c8b1
              try clear c10
              try clear c11
              try clear c12
              try clear c13
              try clear c14
              try clear c19
              try clear c19b0
              try clear c19b1
              try clear c20
              try clear c20b0
              try clear c20b1
              try clear c22
              try clear c23
              try clear c23b0
              try clear c23b1
              try clear c23b2
              try clear c26
              try clear c33
              try clear p2
              obtain ⟨x13_3, rfl, HA, HK3, HO_0, HB⟩ := hrel
              cases gk with
              | zero => exact absurd HA.out (by simp [cellarerlaw12_ChangeLays.l0])
              | succ k3 =>
                have H := HA.out
                clear HA
                simp only [cellarerlaw12_ChangeLays.l0] at H
                by_cases c34 : x13_3 < (t190.length : Int)
                · rw [if_pos c34] at H
                  have c34b0 : decide (x13_3 < (t190.length : Int)) = true := decide_eq_true c34
                  clear c34
                  by_cases c35 : 0 ≤ x13_3
                  · rw [if_pos c35] at H
                    have c35b0 : decide (0 ≤ x13_3) = true := decide_eq_true c35
                    clear c35
                    replace H := Option.bind_eq_some_iff.mp H
                    obtain ⟨t207, A360, H⟩ := H
                    replace H : ((cellarerref12_May.f ((rd_T39 t190 x13_3).f0) ((rd_T39 t190 x13_3).f1.f0) ((rd_T39 t190 x13_3).f1.f1) ((rd_T39 t190 x13_3).f1.f2)).bind fun t209 => (if (t207 != t209) = true then (some false) else (cellarerlaw12_ChangeLays.l0 k3 t190 t193 t196 (wrap64 (x13_3 + 1))))) = some r := H
                    have A36 := Aside0.mk A360
                    clear A360
                    replace H := Option.bind_eq_some_iff.mp H
                    obtain ⟨t209, A370, H⟩ := H
                    replace H : (if (t207 != t209) = true then (some false) else (cellarerlaw12_ChangeLays.l0 k3 t190 t193 t196 (wrap64 (x13_3 + 1)))) = some r := H
                    have A37 := Aside0.mk A370
                    clear A370
                    by_cases c38 : (t207 != t209) = true
                    · rw [if_pos c38] at H
                      have c38b0 : (t207 != t209) = true := c38
                      (try (have c38b1 : decide (t207 = t209) = false := by simpa using c38))
                      (try (have c38b2 : (t207 == t209) = false := by simpa using c38))
                      (try (have c38b3 : ¬ (t207 = t209) := by simpa using c38))
                      clear c38
                      obtain rfl := Option.some.inj H
                      try go_wp2
                      have n0_ := Aside0.mk (Kd.R_drew HO_0.out)
                      have n1_ := Aside0.mk (below_drew1 HB.out)
                      clear HO_0
                      clear HB
                      have HO_0 := n0_
                      have HB := n1_
                      clear n0_ n1_
                      have p206 : 0 ≤ (x13_3 : Int) := of_decide_eq_true (by first | (with_reducible assumption) | assumption)
                      have q206 : x13_3 < (t190.length : Int) := of_decide_eq_true (by first | (with_reducible assumption) | assumption)
                      obtain ⟨ad206, e206, hx206_0, hx206_1, hx206_2, hx206_3⟩ := at_T39 (Kd.R_reads' HO_0.out).2.2 x13_3 p206 q206
                      cases e206
                      replace p206 := eq_true p206
                      replace q206 := eq_true q206
                      have p208 : 0 ≤ (x13_3 : Int) := of_decide_eq_true (by first | (with_reducible assumption) | assumption)
                      have q208 : x13_3 < (t190.length : Int) := of_decide_eq_true (by first | (with_reducible assumption) | assumption)
                      obtain ⟨ad208, e208, hx208_0, hx208_1, hx208_2, hx208_3⟩ := at_T39 (Kd.R_reads' HO_0.out).2.2 x13_3 p208 q208
                      obtain rfl : ad206 = ad208 := (by injection e208)
                      replace p208 := eq_true p208
                      replace q208 := eq_true q208
                      refine start_ (n := 11) (S := fun w' => w'.cell? (ad206.add ((x13_3).toNat * 4)) = some (.int .u64 ((rd_T39 t190 x13_3).f0)) ∧ w'.cell? ⟨(ad206.add ((x13_3).toNat * 4)).block, (ad206.add ((x13_3).toNat * 4)).off + 1, none⟩ = some (.string ((rd_T39 t190 x13_3).f1.f0)) ∧ w'.cell? ⟨(ad206.add ((x13_3).toNat * 4)).block, (ad206.add ((x13_3).toNat * 4)).off + 2, none⟩ = some (.string ((rd_T39 t190 x13_3).f1.f1)) ∧ w'.cell? ⟨(ad206.add ((x13_3).toNat * 4)).block, (ad206.add ((x13_3).toNat * 4)).off + 3, none⟩ = some (.bool ((rd_T39 t190 x13_3).f1.f2)) ∧ w'.cell? (ad206.add ((x13_3).toNat * 4)) = some (.int .u64 ((rd_T39 t190 x13_3).f0)) ∧ w'.cell? ⟨(ad206.add ((x13_3).toNat * 4)).block, (ad206.add ((x13_3).toNat * 4)).off + 1, none⟩ = some (.string ((rd_T39 t190 x13_3).f1.f0)) ∧ w'.cell? ⟨(ad206.add ((x13_3).toNat * 4)).block, (ad206.add ((x13_3).toNat * 4)).off + 2, none⟩ = some (.string ((rd_T39 t190 x13_3).f1.f1)) ∧ w'.cell? ⟨(ad206.add ((x13_3).toNat * 4)).block, (ad206.add ((x13_3).toNat * 4)).off + 3, none⟩ = some (.bool ((rd_T39 t190 x13_3).f1.f2))) (ds := []) #[false, false, false, false, false, false, false, false, false, false, false] (by kernel_rfl) rfl rfl ⟨hx206_0, hx206_1, hx206_2, hx206_3, hx208_0, hx208_1, hx208_2, hx208_3⟩ (fun hHeld => ?_); refine with_tabW cellarerlaw12_ChangeLays.tab13 cellarerlaw12_ChangeLays.bits13 (fun HT_ HW_ => ?_)
                      generalize wr.drew = w39 at HO_0 HB hx206_0 hx206_1 hx206_2 hx206_3 hx208_0 hx208_1 hx208_2 hx208_3 hHeld ⊢
                      refine pure_ (i := 0) (N := some 77) (v := ?_) (a' := ?_) #[true, false, false, false, false, false, false, false, false, false, false] rfl rfl (any_of HT_.out (by kernel_rfl)) (fun _ _ _ h => h) (Or.inl ⟨by rfl, ?_⟩) ?_ ?_
                      rotate_left
                      · intro w'
                        go_simp
                        with_reducible rfl
                      rotate_left
                      · simp only [Act.put, List.setIfInBounds_toArray, List.set_cons_zero, List.set_cons_succ, i64_w, i32_w]
                        rfl
                      refine pure_ (i := 1) (N := some 78) (v := ?_) (a' := ?_) #[true, true, false, false, false, false, false, false, false, false, false] rfl rfl (any_of HT_.out (by kernel_rfl)) (fun _ _ _ h => h) (Or.inl ⟨by rfl, ?_⟩) ?_ ?_
                      rotate_left
                      · intro w'
                        go_simp
                        with_reducible rfl
                      rotate_left
                      · simp only [Act.put, List.setIfInBounds_toArray, List.set_cons_zero, List.set_cons_succ, i64_w, i32_w]
                        rfl
                      refine pure_ (i := 2) (N := some 79) (v := ?_) (a' := ?_) #[true, true, true, false, false, false, false, false, false, false, false] rfl rfl (any_of HT_.out (by kernel_rfl)) (fun _ _ _ h => h) (Or.inl ⟨by rfl, ?_⟩) ?_ ?_
                      rotate_left
                      · intro w'
                        go_simp
                        with_reducible rfl
                      rotate_left
                      · simp only [Act.put, List.setIfInBounds_toArray, List.set_cons_zero, List.set_cons_succ, i64_w, i32_w]
                        rfl
                      refine pure_ (i := 5) (N := some 82) (v := ?_) (a' := ?_) #[true, true, true, false, false, true, false, false, false, false, false] rfl rfl (any_of HT_.out (by kernel_rfl)) (fun _ _ _ h => h) (Or.inl ⟨by rfl, ?_⟩) ?_ ?_
                      rotate_left
                      · intro w'
                        go_simp
                        with_reducible rfl
                      rotate_left
                      · simp only [Act.put, List.setIfInBounds_toArray, List.set_cons_zero, List.set_cons_succ, i64_w, i32_w]
                        rfl
                      refine pure_ (i := 6) (N := some 83) (v := ?_) (a' := ?_) #[true, true, true, false, false, true, true, false, false, false, false] rfl rfl (any_of HT_.out (by kernel_rfl)) (fun _ _ _ h => h) (Or.inl ⟨by rfl, ?_⟩) ?_ ?_
                      rotate_left
                      · intro w'
                        go_simp
                        with_reducible rfl
                      rotate_left
                      · simp only [Act.put, List.setIfInBounds_toArray, List.set_cons_zero, List.set_cons_succ, i64_w, i32_w]
                        rfl
                      refine pure_ (i := 7) (N := some 84) (v := ?_) (a' := ?_) #[true, true, true, false, false, true, true, true, false, false, false] rfl rfl (any_of HT_.out (by kernel_rfl)) (fun _ _ _ h => h) (Or.inl ⟨by rfl, ?_⟩) ?_ ?_
                      rotate_left
                      · intro w'
                        go_simp
                        with_reducible rfl
                      rotate_left
                      · simp only [Act.put, List.setIfInBounds_toArray, List.set_cons_zero, List.set_cons_succ, i64_w, i32_w]
                        rfl
                      refine take_ (i := 3) (N := some 80) (v := ?_) (a' := ?_) #[true, true, true, true, false, true, true, true, false, false, false] rfl rfl (take_ofW HT_.out HW_.out (by kernel_rfl)) (fun _ _ _ h => h) (Or.inl ⟨by rfl, ?_⟩) hHeld ?_ ?_
                      rotate_left
                      · rintro w' ⟨s0, s1, s2, s3, s4, s5, s6, s7⟩
                        go_simp
                        with_reducible rfl
                      rotate_left
                      · simp only [Act.put, List.setIfInBounds_toArray, List.set_cons_zero, List.set_cons_succ, i64_w, i32_w]
                        rfl
                      refine take_ (i := 8) (N := some 85) (v := ?_) (a' := ?_) #[true, true, true, true, false, true, true, true, true, false, false] rfl rfl (take_ofW HT_.out HW_.out (by kernel_rfl)) (fun _ _ _ h => h) (Or.inl ⟨by rfl, ?_⟩) hHeld ?_ ?_
                      rotate_left
                      · rintro w' ⟨s0, s1, s2, s3, s4, s5, s6, s7⟩
                        go_simp
                        with_reducible rfl
                      rotate_left
                      · simp only [Act.put, List.setIfInBounds_toArray, List.set_cons_zero, List.set_cons_succ, i64_w, i32_w]
                        rfl
                      refine one_ (i := 4) (N := some 81) #[true, true, true, true, true, true, true, true, true, false, false] rfl rfl (one_of HT_.out (by kernel_rfl)) (by decide) (fun K hK => ?_)
                      refine goes_ Try.func16 (by kernel_rfl) rfl #[.agg #[.int .u64 ((rd_T39 t190 x13_3).f0), .string ((rd_T39 t190 x13_3).f1.f0), .string ((rd_T39 t190 x13_3).f1.f1), .bool ((rd_T39 t190 x13_3).f1.f2)]] (by rfl) rfl rfl (by (try simp only [List.map_toArray, List.map_cons, List.map_nil]); first | done | rfl | (simp only [List.length_drop, List.length_take]; rfl)) ?_
                      with_reducible refine (change_May.calls ((rd_T39 t190 x13_3).f0) ((rd_T39 t190 x13_3).f1.f0) ((rd_T39 t190 x13_3).f1.f1) ((rd_T39 t190 x13_3).f1.f2) t207 _ A36.out).mono ?_
                      rintro e w40 ⟨rfl, hb⟩
                      have HS0_ := (hb.cell (World.block_lt_of_cell? _ _ (hHeld.1))).trans (hHeld.1)
                      have HS1_ := (hb.cell (World.block_lt_of_cell? _ _ (hHeld.2.1))).trans (hHeld.2.1)
                      have HS2_ := (hb.cell (World.block_lt_of_cell? _ _ (hHeld.2.2.1))).trans (hHeld.2.2.1)
                      have HS3_ := (hb.cell (World.block_lt_of_cell? _ _ (hHeld.2.2.2.1))).trans (hHeld.2.2.2.1)
                      have HS4_ := (hb.cell (World.block_lt_of_cell? _ _ (hHeld.2.2.2.2.1))).trans (hHeld.2.2.2.2.1)
                      have HS5_ := (hb.cell (World.block_lt_of_cell? _ _ (hHeld.2.2.2.2.2.1))).trans (hHeld.2.2.2.2.2.1)
                      have HS6_ := (hb.cell (World.block_lt_of_cell? _ _ (hHeld.2.2.2.2.2.2.1))).trans (hHeld.2.2.2.2.2.2.1)
                      have HS7_ := (hb.cell (World.block_lt_of_cell? _ _ (hHeld.2.2.2.2.2.2.2))).trans (hHeld.2.2.2.2.2.2.2)
                      refine ⟨_, rfl, ?_⟩
                      have n0_ := Aside0.mk (Kd.R_below (by (with_reducible repeat (first | apply Kd.R_alloc | apply Kd.R_drewN | apply Kd.R_drew)); exact HO_0.out) hb)
                      have n1_ := Aside0.mk (below_step (by repeat (first | (with_reducible first | exact HB.out | apply below_alloc | apply pw_below_drewN | apply below_drew1) | exact HB.out)) hb)
                      clear HO_0
                      clear HB
                      have HO_0 := n0_
                      have HB := n1_
                      clear n0_ n1_
                      (try clear hb)
                      (try clear hb2)
                      (try clear hk)
                      (try clear hi)
                      refine hK.out _ _ ⟨HS0_, HS1_, HS2_, HS3_, HS4_, HS5_, HS6_, HS7_⟩ (fun hHeld => ?_)
                      clear hK K
                      refine norm_ (a' := ?_) ?_ ?_
                      rotate_left
                      · show Act.put _ (some 81) _ = _
                        simp only [Act.put, List.setIfInBounds_toArray, List.set_cons_zero, List.set_cons_succ, i64_w, i32_w]
                        rfl
                      refine one_ (i := 9) (N := some 86) #[true, true, true, true, true, true, true, true, true, true, false] rfl rfl (one_of HT_.out (by kernel_rfl)) (by decide) (fun K hK => ?_)
                      refine goes_ Try.func17 (by kernel_rfl) rfl #[.agg #[.int .u64 ((rd_T39 t190 x13_3).f0), .string ((rd_T39 t190 x13_3).f1.f0), .string ((rd_T39 t190 x13_3).f1.f1), .bool ((rd_T39 t190 x13_3).f1.f2)]] (by rfl) rfl rfl (by (try simp only [List.map_toArray, List.map_cons, List.map_nil]); first | done | rfl | (simp only [List.length_drop, List.length_take]; rfl)) ?_
                      with_reducible refine (cellarerref12_May.calls ((rd_T39 t190 x13_3).f0) ((rd_T39 t190 x13_3).f1.f0) ((rd_T39 t190 x13_3).f1.f1) ((rd_T39 t190 x13_3).f1.f2) t209 _ A37.out).mono ?_
                      rintro e w41 ⟨rfl, hb⟩
                      have HS0_ := (hb.cell (World.block_lt_of_cell? _ _ (hHeld.1))).trans (hHeld.1)
                      have HS1_ := (hb.cell (World.block_lt_of_cell? _ _ (hHeld.2.1))).trans (hHeld.2.1)
                      have HS2_ := (hb.cell (World.block_lt_of_cell? _ _ (hHeld.2.2.1))).trans (hHeld.2.2.1)
                      have HS3_ := (hb.cell (World.block_lt_of_cell? _ _ (hHeld.2.2.2.1))).trans (hHeld.2.2.2.1)
                      have HS4_ := (hb.cell (World.block_lt_of_cell? _ _ (hHeld.2.2.2.2.1))).trans (hHeld.2.2.2.2.1)
                      have HS5_ := (hb.cell (World.block_lt_of_cell? _ _ (hHeld.2.2.2.2.2.1))).trans (hHeld.2.2.2.2.2.1)
                      have HS6_ := (hb.cell (World.block_lt_of_cell? _ _ (hHeld.2.2.2.2.2.2.1))).trans (hHeld.2.2.2.2.2.2.1)
                      have HS7_ := (hb.cell (World.block_lt_of_cell? _ _ (hHeld.2.2.2.2.2.2.2))).trans (hHeld.2.2.2.2.2.2.2)
                      refine ⟨_, rfl, ?_⟩
                      have n0_ := Aside0.mk (Kd.R_below (by (with_reducible repeat (first | apply Kd.R_alloc | apply Kd.R_drewN | apply Kd.R_drew)); exact HO_0.out) hb)
                      have n1_ := Aside0.mk (below_step (by repeat (first | (with_reducible first | exact HB.out | apply below_alloc | apply pw_below_drewN | apply below_drew1) | exact HB.out)) hb)
                      clear HO_0
                      clear HB
                      have HO_0 := n0_
                      have HB := n1_
                      clear n0_ n1_
                      (try clear hb)
                      (try clear hb2)
                      (try clear hk)
                      (try clear hi)
                      refine hK.out _ _ ⟨HS0_, HS1_, HS2_, HS3_, HS4_, HS5_, HS6_, HS7_⟩ (fun hHeld => ?_)
                      clear hK K
                      refine norm_ (a' := ?_) ?_ ?_
                      rotate_left
                      · show Act.put _ (some 86) _ = _
                        simp only [Act.put, List.setIfInBounds_toArray, List.set_cons_zero, List.set_cons_succ, i64_w, i32_w]
                        rfl
                      refine pure_ (i := 10) (N := some 87) (v := ?_) (a' := ?_) #[true, true, true, true, true, true, true, true, true, true, true] rfl rfl (any_of HT_.out (by kernel_rfl)) (fun _ _ _ h => h) (Or.inl ⟨by rfl, ?_⟩) ?_ ?_
                      rotate_left
                      · intro w'
                        go_simp
                        with_reducible rfl
                      rotate_left
                      · simp only [Act.put, List.setIfInBounds_toArray, List.set_cons_zero, List.set_cons_succ, i64_w, i32_w]
                        rfl
                      refine done_ (done_of HT_.out (by kernel_rfl)) ?_
                      try go_wp2
                      go_ret
                      exact ⟨by first | rfl | (simp [errW_none, errW_some] <;> rfl) | (simp [*, errW_none, errW_some] <;> rfl), by repeat (first | (with_reducible first | exact HB.out | apply below_alloc | apply pw_below_drewN | apply below_drew1) | exact HB.out)⟩
                    · rw [if_neg c38] at H
                      have c38b0 : (t207 != t209) = false := by simpa using c38
                      (try (have c38b1 : decide (t207 = t209) = true := by simpa using c38))
                      (try (have c38b2 : (t207 == t209) = true := by simpa using c38))
                      clear c38
                      have H' := Aside0.mk H
                      clear H
                      try go_wp2
                      have n0_ := Aside0.mk (Kd.R_drew HO_0.out)
                      have n1_ := Aside0.mk (below_drew1 HB.out)
                      clear HO_0
                      clear HB
                      have HO_0 := n0_
                      have HB := n1_
                      clear n0_ n1_
                      have p206 : 0 ≤ (x13_3 : Int) := of_decide_eq_true (by first | (with_reducible assumption) | assumption)
                      have q206 : x13_3 < (t190.length : Int) := of_decide_eq_true (by first | (with_reducible assumption) | assumption)
                      obtain ⟨ad206, e206, hx206_0, hx206_1, hx206_2, hx206_3⟩ := at_T39 (Kd.R_reads' HO_0.out).2.2 x13_3 p206 q206
                      cases e206
                      replace p206 := eq_true p206
                      replace q206 := eq_true q206
                      have p208 : 0 ≤ (x13_3 : Int) := of_decide_eq_true (by first | (with_reducible assumption) | assumption)
                      have q208 : x13_3 < (t190.length : Int) := of_decide_eq_true (by first | (with_reducible assumption) | assumption)
                      obtain ⟨ad208, e208, hx208_0, hx208_1, hx208_2, hx208_3⟩ := at_T39 (Kd.R_reads' HO_0.out).2.2 x13_3 p208 q208
                      obtain rfl : ad206 = ad208 := (by injection e208)
                      replace p208 := eq_true p208
                      replace q208 := eq_true q208
                      refine start_ (n := 11) (S := fun w' => w'.cell? (ad206.add ((x13_3).toNat * 4)) = some (.int .u64 ((rd_T39 t190 x13_3).f0)) ∧ w'.cell? ⟨(ad206.add ((x13_3).toNat * 4)).block, (ad206.add ((x13_3).toNat * 4)).off + 1, none⟩ = some (.string ((rd_T39 t190 x13_3).f1.f0)) ∧ w'.cell? ⟨(ad206.add ((x13_3).toNat * 4)).block, (ad206.add ((x13_3).toNat * 4)).off + 2, none⟩ = some (.string ((rd_T39 t190 x13_3).f1.f1)) ∧ w'.cell? ⟨(ad206.add ((x13_3).toNat * 4)).block, (ad206.add ((x13_3).toNat * 4)).off + 3, none⟩ = some (.bool ((rd_T39 t190 x13_3).f1.f2)) ∧ w'.cell? (ad206.add ((x13_3).toNat * 4)) = some (.int .u64 ((rd_T39 t190 x13_3).f0)) ∧ w'.cell? ⟨(ad206.add ((x13_3).toNat * 4)).block, (ad206.add ((x13_3).toNat * 4)).off + 1, none⟩ = some (.string ((rd_T39 t190 x13_3).f1.f0)) ∧ w'.cell? ⟨(ad206.add ((x13_3).toNat * 4)).block, (ad206.add ((x13_3).toNat * 4)).off + 2, none⟩ = some (.string ((rd_T39 t190 x13_3).f1.f1)) ∧ w'.cell? ⟨(ad206.add ((x13_3).toNat * 4)).block, (ad206.add ((x13_3).toNat * 4)).off + 3, none⟩ = some (.bool ((rd_T39 t190 x13_3).f1.f2))) (ds := []) #[false, false, false, false, false, false, false, false, false, false, false] (by kernel_rfl) rfl rfl ⟨hx206_0, hx206_1, hx206_2, hx206_3, hx208_0, hx208_1, hx208_2, hx208_3⟩ (fun hHeld => ?_); refine with_tabW cellarerlaw12_ChangeLays.tab13 cellarerlaw12_ChangeLays.bits13 (fun HT_ HW_ => ?_)
                      generalize wr.drew = w42 at HO_0 HB hx206_0 hx206_1 hx206_2 hx206_3 hx208_0 hx208_1 hx208_2 hx208_3 hHeld ⊢
                      refine pure_ (i := 0) (N := some 77) (v := ?_) (a' := ?_) #[true, false, false, false, false, false, false, false, false, false, false] rfl rfl (any_of HT_.out (by kernel_rfl)) (fun _ _ _ h => h) (Or.inl ⟨by rfl, ?_⟩) ?_ ?_
                      rotate_left
                      · intro w'
                        go_simp
                        with_reducible rfl
                      rotate_left
                      · simp only [Act.put, List.setIfInBounds_toArray, List.set_cons_zero, List.set_cons_succ, i64_w, i32_w]
                        rfl
                      refine pure_ (i := 1) (N := some 78) (v := ?_) (a' := ?_) #[true, true, false, false, false, false, false, false, false, false, false] rfl rfl (any_of HT_.out (by kernel_rfl)) (fun _ _ _ h => h) (Or.inl ⟨by rfl, ?_⟩) ?_ ?_
                      rotate_left
                      · intro w'
                        go_simp
                        with_reducible rfl
                      rotate_left
                      · simp only [Act.put, List.setIfInBounds_toArray, List.set_cons_zero, List.set_cons_succ, i64_w, i32_w]
                        rfl
                      refine pure_ (i := 2) (N := some 79) (v := ?_) (a' := ?_) #[true, true, true, false, false, false, false, false, false, false, false] rfl rfl (any_of HT_.out (by kernel_rfl)) (fun _ _ _ h => h) (Or.inl ⟨by rfl, ?_⟩) ?_ ?_
                      rotate_left
                      · intro w'
                        go_simp
                        with_reducible rfl
                      rotate_left
                      · simp only [Act.put, List.setIfInBounds_toArray, List.set_cons_zero, List.set_cons_succ, i64_w, i32_w]
                        rfl
                      refine pure_ (i := 5) (N := some 82) (v := ?_) (a' := ?_) #[true, true, true, false, false, true, false, false, false, false, false] rfl rfl (any_of HT_.out (by kernel_rfl)) (fun _ _ _ h => h) (Or.inl ⟨by rfl, ?_⟩) ?_ ?_
                      rotate_left
                      · intro w'
                        go_simp
                        with_reducible rfl
                      rotate_left
                      · simp only [Act.put, List.setIfInBounds_toArray, List.set_cons_zero, List.set_cons_succ, i64_w, i32_w]
                        rfl
                      refine pure_ (i := 6) (N := some 83) (v := ?_) (a' := ?_) #[true, true, true, false, false, true, true, false, false, false, false] rfl rfl (any_of HT_.out (by kernel_rfl)) (fun _ _ _ h => h) (Or.inl ⟨by rfl, ?_⟩) ?_ ?_
                      rotate_left
                      · intro w'
                        go_simp
                        with_reducible rfl
                      rotate_left
                      · simp only [Act.put, List.setIfInBounds_toArray, List.set_cons_zero, List.set_cons_succ, i64_w, i32_w]
                        rfl
                      refine pure_ (i := 7) (N := some 84) (v := ?_) (a' := ?_) #[true, true, true, false, false, true, true, true, false, false, false] rfl rfl (any_of HT_.out (by kernel_rfl)) (fun _ _ _ h => h) (Or.inl ⟨by rfl, ?_⟩) ?_ ?_
                      rotate_left
                      · intro w'
                        go_simp
                        with_reducible rfl
                      rotate_left
                      · simp only [Act.put, List.setIfInBounds_toArray, List.set_cons_zero, List.set_cons_succ, i64_w, i32_w]
                        rfl
                      refine take_ (i := 3) (N := some 80) (v := ?_) (a' := ?_) #[true, true, true, true, false, true, true, true, false, false, false] rfl rfl (take_ofW HT_.out HW_.out (by kernel_rfl)) (fun _ _ _ h => h) (Or.inl ⟨by rfl, ?_⟩) hHeld ?_ ?_
                      rotate_left
                      · rintro w' ⟨s0, s1, s2, s3, s4, s5, s6, s7⟩
                        go_simp
                        with_reducible rfl
                      rotate_left
                      · simp only [Act.put, List.setIfInBounds_toArray, List.set_cons_zero, List.set_cons_succ, i64_w, i32_w]
                        rfl
                      refine take_ (i := 8) (N := some 85) (v := ?_) (a' := ?_) #[true, true, true, true, false, true, true, true, true, false, false] rfl rfl (take_ofW HT_.out HW_.out (by kernel_rfl)) (fun _ _ _ h => h) (Or.inl ⟨by rfl, ?_⟩) hHeld ?_ ?_
                      rotate_left
                      · rintro w' ⟨s0, s1, s2, s3, s4, s5, s6, s7⟩
                        go_simp
                        with_reducible rfl
                      rotate_left
                      · simp only [Act.put, List.setIfInBounds_toArray, List.set_cons_zero, List.set_cons_succ, i64_w, i32_w]
                        rfl
                      refine one_ (i := 4) (N := some 81) #[true, true, true, true, true, true, true, true, true, false, false] rfl rfl (one_of HT_.out (by kernel_rfl)) (by decide) (fun K hK => ?_)
                      refine goes_ Try.func16 (by kernel_rfl) rfl #[.agg #[.int .u64 ((rd_T39 t190 x13_3).f0), .string ((rd_T39 t190 x13_3).f1.f0), .string ((rd_T39 t190 x13_3).f1.f1), .bool ((rd_T39 t190 x13_3).f1.f2)]] (by rfl) rfl rfl (by (try simp only [List.map_toArray, List.map_cons, List.map_nil]); first | done | rfl | (simp only [List.length_drop, List.length_take]; rfl)) ?_
                      with_reducible refine (change_May.calls ((rd_T39 t190 x13_3).f0) ((rd_T39 t190 x13_3).f1.f0) ((rd_T39 t190 x13_3).f1.f1) ((rd_T39 t190 x13_3).f1.f2) t207 _ A36.out).mono ?_
                      rintro e w43 ⟨rfl, hb⟩
                      have HS0_ := (hb.cell (World.block_lt_of_cell? _ _ (hHeld.1))).trans (hHeld.1)
                      have HS1_ := (hb.cell (World.block_lt_of_cell? _ _ (hHeld.2.1))).trans (hHeld.2.1)
                      have HS2_ := (hb.cell (World.block_lt_of_cell? _ _ (hHeld.2.2.1))).trans (hHeld.2.2.1)
                      have HS3_ := (hb.cell (World.block_lt_of_cell? _ _ (hHeld.2.2.2.1))).trans (hHeld.2.2.2.1)
                      have HS4_ := (hb.cell (World.block_lt_of_cell? _ _ (hHeld.2.2.2.2.1))).trans (hHeld.2.2.2.2.1)
                      have HS5_ := (hb.cell (World.block_lt_of_cell? _ _ (hHeld.2.2.2.2.2.1))).trans (hHeld.2.2.2.2.2.1)
                      have HS6_ := (hb.cell (World.block_lt_of_cell? _ _ (hHeld.2.2.2.2.2.2.1))).trans (hHeld.2.2.2.2.2.2.1)
                      have HS7_ := (hb.cell (World.block_lt_of_cell? _ _ (hHeld.2.2.2.2.2.2.2))).trans (hHeld.2.2.2.2.2.2.2)
                      refine ⟨_, rfl, ?_⟩
                      have n0_ := Aside0.mk (Kd.R_below (by (with_reducible repeat (first | apply Kd.R_alloc | apply Kd.R_drewN | apply Kd.R_drew)); exact HO_0.out) hb)
                      have n1_ := Aside0.mk (below_step (by repeat (first | (with_reducible first | exact HB.out | apply below_alloc | apply pw_below_drewN | apply below_drew1) | exact HB.out)) hb)
                      clear HO_0
                      clear HB
                      have HO_0 := n0_
                      have HB := n1_
                      clear n0_ n1_
                      (try clear hb)
                      (try clear hb2)
                      (try clear hk)
                      (try clear hi)
                      refine hK.out _ _ ⟨HS0_, HS1_, HS2_, HS3_, HS4_, HS5_, HS6_, HS7_⟩ (fun hHeld => ?_)
                      clear hK K
                      refine norm_ (a' := ?_) ?_ ?_
                      rotate_left
                      · show Act.put _ (some 81) _ = _
                        simp only [Act.put, List.setIfInBounds_toArray, List.set_cons_zero, List.set_cons_succ, i64_w, i32_w]
                        rfl
                      refine one_ (i := 9) (N := some 86) #[true, true, true, true, true, true, true, true, true, true, false] rfl rfl (one_of HT_.out (by kernel_rfl)) (by decide) (fun K hK => ?_)
                      refine goes_ Try.func17 (by kernel_rfl) rfl #[.agg #[.int .u64 ((rd_T39 t190 x13_3).f0), .string ((rd_T39 t190 x13_3).f1.f0), .string ((rd_T39 t190 x13_3).f1.f1), .bool ((rd_T39 t190 x13_3).f1.f2)]] (by rfl) rfl rfl (by (try simp only [List.map_toArray, List.map_cons, List.map_nil]); first | done | rfl | (simp only [List.length_drop, List.length_take]; rfl)) ?_
                      with_reducible refine (cellarerref12_May.calls ((rd_T39 t190 x13_3).f0) ((rd_T39 t190 x13_3).f1.f0) ((rd_T39 t190 x13_3).f1.f1) ((rd_T39 t190 x13_3).f1.f2) t209 _ A37.out).mono ?_
                      rintro e w44 ⟨rfl, hb⟩
                      have HS0_ := (hb.cell (World.block_lt_of_cell? _ _ (hHeld.1))).trans (hHeld.1)
                      have HS1_ := (hb.cell (World.block_lt_of_cell? _ _ (hHeld.2.1))).trans (hHeld.2.1)
                      have HS2_ := (hb.cell (World.block_lt_of_cell? _ _ (hHeld.2.2.1))).trans (hHeld.2.2.1)
                      have HS3_ := (hb.cell (World.block_lt_of_cell? _ _ (hHeld.2.2.2.1))).trans (hHeld.2.2.2.1)
                      have HS4_ := (hb.cell (World.block_lt_of_cell? _ _ (hHeld.2.2.2.2.1))).trans (hHeld.2.2.2.2.1)
                      have HS5_ := (hb.cell (World.block_lt_of_cell? _ _ (hHeld.2.2.2.2.2.1))).trans (hHeld.2.2.2.2.2.1)
                      have HS6_ := (hb.cell (World.block_lt_of_cell? _ _ (hHeld.2.2.2.2.2.2.1))).trans (hHeld.2.2.2.2.2.2.1)
                      have HS7_ := (hb.cell (World.block_lt_of_cell? _ _ (hHeld.2.2.2.2.2.2.2))).trans (hHeld.2.2.2.2.2.2.2)
                      refine ⟨_, rfl, ?_⟩
                      have n0_ := Aside0.mk (Kd.R_below (by (with_reducible repeat (first | apply Kd.R_alloc | apply Kd.R_drewN | apply Kd.R_drew)); exact HO_0.out) hb)
                      have n1_ := Aside0.mk (below_step (by repeat (first | (with_reducible first | exact HB.out | apply below_alloc | apply pw_below_drewN | apply below_drew1) | exact HB.out)) hb)
                      clear HO_0
                      clear HB
                      have HO_0 := n0_
                      have HB := n1_
                      clear n0_ n1_
                      (try clear hb)
                      (try clear hb2)
                      (try clear hk)
                      (try clear hi)
                      refine hK.out _ _ ⟨HS0_, HS1_, HS2_, HS3_, HS4_, HS5_, HS6_, HS7_⟩ (fun hHeld => ?_)
                      clear hK K
                      refine norm_ (a' := ?_) ?_ ?_
                      rotate_left
                      · show Act.put _ (some 86) _ = _
                        simp only [Act.put, List.setIfInBounds_toArray, List.set_cons_zero, List.set_cons_succ, i64_w, i32_w]
                        rfl
                      refine pure_ (i := 10) (N := some 87) (v := ?_) (a' := ?_) #[true, true, true, true, true, true, true, true, true, true, true] rfl rfl (any_of HT_.out (by kernel_rfl)) (fun _ _ _ h => h) (Or.inl ⟨by rfl, ?_⟩) ?_ ?_
                      rotate_left
                      · intro w'
                        go_simp
                        with_reducible rfl
                      rotate_left
                      · simp only [Act.put, List.setIfInBounds_toArray, List.set_cons_zero, List.set_cons_succ, i64_w, i32_w]
                        rfl
                      refine done_ (done_of HT_.out (by kernel_rfl)) ?_
                      try go_wp2
                      go_roundg k3
                      case measure => have := HJ3.out; have := HJ12.out; have := HK3.out; omega
                      case rel => exact ⟨(wrap64 (x13_3 + 1)), (by first | rfl | (simp; done) | (simp [*]; done)), H', ⟨by have := HJ3.out; have := HJ12.out; have := HK3.out; omega⟩, ⟨by (with_reducible repeat (first | apply Kd.R_alloc | apply Kd.R_drewN | apply Kd.R_drew)); exact HO_0.out⟩, ⟨by repeat (first | (with_reducible first | exact HB.out | apply below_alloc | apply pw_below_drewN | apply below_drew1) | exact HB.out)⟩⟩
                  · rw [if_neg c35] at H
                    exact absurd H (by simp)
                · rw [if_neg c34] at H
                  have c34b0 : decide (x13_3 < (t190.length : Int)) = false := decide_eq_false c34
                  clear c34
                  by_cases c45 : t196 = 0
                  · rw [if_pos c45] at H
                    have c45b0 : (t196 == 0) = true := beq_iff_eq.mpr c45
                    have c45b1 : (t196 != 0) = false := bne_eq_false_iff_eq.mpr c45
                    clear c45
                    replace H := Option.bind_eq_some_iff.mp H
                    obtain ⟨⟨t210, t211⟩, A460, H⟩ := H
                    replace H : ((cellarerref12_Same.f k3 t210 t190).bind fun t214 => (if t214 = true then (if t211 = 0 then ((cellarerlaw12_awake.f).bind fun t215 => (some t215)) else (some false)) else (some false))) = some r := H
                    have A46 := Aside0.mk A460
                    clear A460
                    replace H := Option.bind_eq_some_iff.mp H
                    obtain ⟨t214, A470, H⟩ := H
                    replace H : (if t214 = true then (if t211 = 0 then ((cellarerlaw12_awake.f).bind fun t215 => (some t215)) else (some false)) else (some false)) = some r := H
                    have A47 := Aside0.mk A470
                    clear A470
                    by_cases c48 : t214 = true
                    · subst c48
                      have H1 : (if t211 = 0 then ((cellarerlaw12_awake.f).bind fun t215 => (some t215)) else (some false)) = some r := by rw [if_pos rfl] at H; exact H
                      clear H
                      have H := H1
                      clear H1
                      by_cases c49 : t211 = 0
                      · rw [if_pos c49] at H
                        have c49b0 : (t211 == 0) = true := beq_iff_eq.mpr c49
                        have c49b1 : (t211 != 0) = false := bne_eq_false_iff_eq.mpr c49
                        clear c49
                        replace H := Option.bind_eq_some_iff.mp H
                        obtain ⟨t215, A500, H⟩ := H
                        replace H : (some t215) = some r := H
                        have A50 := Aside0.mk A500
                        clear A500
                        obtain rfl := Option.some.inj H
                        go_wp2_with (first | ((with_reducible refine gate_callee (f := 13) rfl ?_); refine goesL_ (some 93) rfl rfl Try.func13 (by kernel_rfl) rfl #[.string t193] rfl (by (try simp only [List.map_toArray, List.map_cons, List.map_nil]); first | done | rfl | (simp only [List.length_drop, List.length_take]; rfl)) ?_; (with_reducible refine (change_TakeA.calls t193 t210 t211 _ A46.out).mono ?_); rintro e w51 ⟨v212, rfl, ho0, hb⟩; refine ⟨_, rfl, ?_⟩; have n0_ := Aside0.mk (Kd.R_elder' (by (with_reducible repeat (first | apply Kd.R_alloc | apply Kd.R_drewN | apply Kd.R_drew)); exact HO_0.out) (Kd.R_base ho0) hb); have n1_ := Aside0.mk (Kd.R_lower (Kd.R_new' ho0 (Kd.R_lt (by (with_reducible repeat (first | apply Kd.R_alloc | apply Kd.R_drewN | apply Kd.R_drew)); exact HO_0.out))) (below_size (by repeat (first | (with_reducible first | exact HB.out | apply below_alloc | apply pw_below_drewN | apply below_drew1) | exact HB.out)))); have n2_ := Aside0.mk (below_step (by repeat (first | (with_reducible first | exact HB.out | apply below_alloc | apply pw_below_drewN | apply below_drew1) | exact HB.out)) hb); clear HO_0; clear HB; have HO_0 := n0_; have HO213 := n1_; have HB := n2_; clear n0_ n1_ n2_; (try clear hb); (try clear hb2); (try clear hk); (try clear hi); (try clear ho0); obtain ⟨Ao52, co52, eo52⟩ := Kd.R_slice HO213.out; subst eo52) | ((with_reducible refine gate_callee (f := 15) rfl ?_); refine goesL_ (some 98) rfl rfl Try.func15 (by kernel_rfl) rfl #[.slice Ao52 t210.length co52, .slice Ao14 t190.length co14] rfl (by (try simp only [List.map_toArray, List.map_cons, List.map_nil]); first | done | rfl | (simp only [List.length_drop, List.length_take]; rfl)) ?_; (with_reducible refine (cellarerref12_Same.calls k3 _ _ t210 _ _ t190 true _ ?side1 ?side2 ?side3 ?side4 A47.out).mono ?_); (case side1 => repeat (first | exact (Kd.R_reads' HO213.out).2.2 | (with_reducible refine Kd.C_alloc ?_ _) | (with_reducible refine Kd.C_drewN ?_ _) | (with_reducible refine Kd.C_drew ?_))); (case side2 => exact (Kd.R_reads' HO213.out).2.1); (case side3 => repeat (first | exact (Kd.R_reads' HO_0.out).2.2 | (with_reducible refine Kd.C_alloc ?_ _) | (with_reducible refine Kd.C_drewN ?_ _) | (with_reducible refine Kd.C_drew ?_))); (case side4 => exact (Kd.R_reads' HO_0.out).2.1); rintro e w' ⟨rfl, ⟨nd, rfl⟩⟩; refine ⟨_, rfl, ?_⟩) | (go_at_call 18; (with_reducible refine (cellarerlaw12_awake.calls  t215 _ A50.out).mono ?_); rintro e w53 ⟨rfl, hb⟩; have n0_ := Aside0.mk (Kd.R_below (by (with_reducible repeat (first | apply Kd.R_alloc | apply Kd.R_drewN | apply Kd.R_drew)); exact HO_0.out) hb); have n1_ := Aside0.mk (Kd.R_below (by (with_reducible repeat (first | apply Kd.R_alloc | apply Kd.R_drewN | apply Kd.R_drew)); exact HO213.out) hb); have n2_ := Aside0.mk (below_step (by repeat (first | (with_reducible first | exact HB.out | apply below_alloc | apply pw_below_drewN | apply below_drew1) | exact HB.out)) hb); clear HO_0; clear HO213; clear HB; have HO_0 := n0_; have HO213 := n1_; have HB := n2_; clear n0_ n1_ n2_; (try clear hb); (try clear hb2); (try clear hk); (try clear hi)))
                        go_ret
                        exact ⟨by first | rfl | (simp [errW_none, errW_some] <;> rfl) | (simp [*, errW_none, errW_some] <;> rfl), by repeat (first | (with_reducible first | exact HB.out | apply below_alloc | apply pw_below_drewN | apply below_drew1) | exact HB.out)⟩
                      · rw [if_neg c49] at H
                        have c49b0 : (t211 == 0) = false := beq_eq_false_iff_ne.mpr c49
                        have c49b1 : (t211 != 0) = true := bne_iff_ne.mpr c49
                        obtain rfl := Option.some.inj H
                        go_wp2_with (first | ((with_reducible refine gate_callee (f := 13) rfl ?_); refine goesL_ (some 93) rfl rfl Try.func13 (by kernel_rfl) rfl #[.string t193] rfl (by (try simp only [List.map_toArray, List.map_cons, List.map_nil]); first | done | rfl | (simp only [List.length_drop, List.length_take]; rfl)) ?_; (with_reducible refine (change_TakeA.calls t193 t210 t211 _ A46.out).mono ?_); rintro e w54 ⟨v212, rfl, ho0, hb⟩; refine ⟨_, rfl, ?_⟩; have n0_ := Aside0.mk (Kd.R_elder' (by (with_reducible repeat (first | apply Kd.R_alloc | apply Kd.R_drewN | apply Kd.R_drew)); exact HO_0.out) (Kd.R_base ho0) hb); have n1_ := Aside0.mk (Kd.R_lower (Kd.R_new' ho0 (Kd.R_lt (by (with_reducible repeat (first | apply Kd.R_alloc | apply Kd.R_drewN | apply Kd.R_drew)); exact HO_0.out))) (below_size (by repeat (first | (with_reducible first | exact HB.out | apply below_alloc | apply pw_below_drewN | apply below_drew1) | exact HB.out)))); have n2_ := Aside0.mk (below_step (by repeat (first | (with_reducible first | exact HB.out | apply below_alloc | apply pw_below_drewN | apply below_drew1) | exact HB.out)) hb); clear HO_0; clear HB; have HO_0 := n0_; have HO213 := n1_; have HB := n2_; clear n0_ n1_ n2_; (try clear hb); (try clear hb2); (try clear hk); (try clear hi); (try clear ho0); obtain ⟨Ao55, co55, eo55⟩ := Kd.R_slice HO213.out; subst eo55) | ((with_reducible refine gate_callee (f := 15) rfl ?_); refine goesL_ (some 98) rfl rfl Try.func15 (by kernel_rfl) rfl #[.slice Ao55 t210.length co55, .slice Ao14 t190.length co14] rfl (by (try simp only [List.map_toArray, List.map_cons, List.map_nil]); first | done | rfl | (simp only [List.length_drop, List.length_take]; rfl)) ?_; (with_reducible refine (cellarerref12_Same.calls k3 _ _ t210 _ _ t190 true _ ?side1 ?side2 ?side3 ?side4 A47.out).mono ?_); (case side1 => repeat (first | exact (Kd.R_reads' HO213.out).2.2 | (with_reducible refine Kd.C_alloc ?_ _) | (with_reducible refine Kd.C_drewN ?_ _) | (with_reducible refine Kd.C_drew ?_))); (case side2 => exact (Kd.R_reads' HO213.out).2.1); (case side3 => repeat (first | exact (Kd.R_reads' HO_0.out).2.2 | (with_reducible refine Kd.C_alloc ?_ _) | (with_reducible refine Kd.C_drewN ?_ _) | (with_reducible refine Kd.C_drew ?_))); (case side4 => exact (Kd.R_reads' HO_0.out).2.1); rintro e w' ⟨rfl, ⟨nd, rfl⟩⟩; refine ⟨_, rfl, ?_⟩))
                        go_ret
                        exact ⟨by first | rfl | (simp [errW_none, errW_some] <;> rfl) | (simp [*, errW_none, errW_some] <;> rfl), by repeat (first | (with_reducible first | exact HB.out | apply below_alloc | apply pw_below_drewN | apply below_drew1) | exact HB.out)⟩
                    · replace c48 := Bool.eq_false_iff.mpr c48
                      subst c48
                      have H1 : (some false) = some r := by rw [if_neg (show ¬ (false = true) by decide)] at H; exact H
                      clear H
                      have H := H1
                      clear H1
                      obtain rfl := Option.some.inj H
                      go_wp2_with (first | ((with_reducible refine gate_callee (f := 13) rfl ?_); refine goesL_ (some 93) rfl rfl Try.func13 (by kernel_rfl) rfl #[.string t193] rfl (by (try simp only [List.map_toArray, List.map_cons, List.map_nil]); first | done | rfl | (simp only [List.length_drop, List.length_take]; rfl)) ?_; (with_reducible refine (change_TakeA.calls t193 t210 t211 _ A46.out).mono ?_); rintro e w56 ⟨v212, rfl, ho0, hb⟩; refine ⟨_, rfl, ?_⟩; have n0_ := Aside0.mk (Kd.R_elder' (by (with_reducible repeat (first | apply Kd.R_alloc | apply Kd.R_drewN | apply Kd.R_drew)); exact HO_0.out) (Kd.R_base ho0) hb); have n1_ := Aside0.mk (Kd.R_lower (Kd.R_new' ho0 (Kd.R_lt (by (with_reducible repeat (first | apply Kd.R_alloc | apply Kd.R_drewN | apply Kd.R_drew)); exact HO_0.out))) (below_size (by repeat (first | (with_reducible first | exact HB.out | apply below_alloc | apply pw_below_drewN | apply below_drew1) | exact HB.out)))); have n2_ := Aside0.mk (below_step (by repeat (first | (with_reducible first | exact HB.out | apply below_alloc | apply pw_below_drewN | apply below_drew1) | exact HB.out)) hb); clear HO_0; clear HB; have HO_0 := n0_; have HO213 := n1_; have HB := n2_; clear n0_ n1_ n2_; (try clear hb); (try clear hb2); (try clear hk); (try clear hi); (try clear ho0); obtain ⟨Ao57, co57, eo57⟩ := Kd.R_slice HO213.out; subst eo57) | ((with_reducible refine gate_callee (f := 15) rfl ?_); refine goesL_ (some 98) rfl rfl Try.func15 (by kernel_rfl) rfl #[.slice Ao57 t210.length co57, .slice Ao14 t190.length co14] rfl (by (try simp only [List.map_toArray, List.map_cons, List.map_nil]); first | done | rfl | (simp only [List.length_drop, List.length_take]; rfl)) ?_; (with_reducible refine (cellarerref12_Same.calls k3 _ _ t210 _ _ t190 false _ ?side1 ?side2 ?side3 ?side4 A47.out).mono ?_); (case side1 => repeat (first | exact (Kd.R_reads' HO213.out).2.2 | (with_reducible refine Kd.C_alloc ?_ _) | (with_reducible refine Kd.C_drewN ?_ _) | (with_reducible refine Kd.C_drew ?_))); (case side2 => exact (Kd.R_reads' HO213.out).2.1); (case side3 => repeat (first | exact (Kd.R_reads' HO_0.out).2.2 | (with_reducible refine Kd.C_alloc ?_ _) | (with_reducible refine Kd.C_drewN ?_ _) | (with_reducible refine Kd.C_drew ?_))); (case side4 => exact (Kd.R_reads' HO_0.out).2.1); rintro e w' ⟨rfl, ⟨nd, rfl⟩⟩; refine ⟨_, rfl, ?_⟩))
                      go_ret
                      exact ⟨by first | rfl | (simp [errW_none, errW_some] <;> rfl) | (simp [*, errW_none, errW_some] <;> rfl), by repeat (first | (with_reducible first | exact HB.out | apply below_alloc | apply pw_below_drewN | apply below_drew1) | exact HB.out)⟩
                  · rw [if_neg c45] at H
                    have c45b0 : (t196 == 0) = false := beq_eq_false_iff_ne.mpr c45
                    have c45b1 : (t196 != 0) = true := bne_iff_ne.mpr c45
                    replace H := Option.bind_eq_some_iff.mp H
                    obtain ⟨t216, A580, H⟩ := H
                    replace H : (some t216) = some r := H
                    have A58 := Aside0.mk A580
                    clear A580
                    obtain rfl := Option.some.inj H
                    go_wp2_with (first | ((with_reducible refine gate_callee (f := 18) rfl ?_); refine goesL_ (some 90) rfl rfl Try.func18 (by kernel_rfl) rfl #[] rfl (by (try simp only [List.map_toArray, List.map_cons, List.map_nil]); first | done | rfl | (simp only [List.length_drop, List.length_take]; rfl)) ?_; (with_reducible refine (cellarerlaw12_awake.calls  t216 _ A58.out).mono ?_); rintro e w59 ⟨rfl, hb⟩; refine ⟨_, rfl, ?_⟩; have n0_ := Aside0.mk (Kd.R_below (by (with_reducible repeat (first | apply Kd.R_alloc | apply Kd.R_drewN | apply Kd.R_drew)); exact HO_0.out) hb); have n1_ := Aside0.mk (below_step (by repeat (first | (with_reducible first | exact HB.out | apply below_alloc | apply pw_below_drewN | apply below_drew1) | exact HB.out)) hb); clear HO_0; clear HB; have HO_0 := n0_; have HB := n1_; clear n0_ n1_; (try clear hb); (try clear hb2); (try clear hk); (try clear hi)))
                    go_ret
                    exact ⟨by first | rfl | (simp [errW_none, errW_some] <;> rfl) | (simp [*, errW_none, errW_some] <;> rfl), by repeat (first | (with_reducible first | exact HB.out | apply below_alloc | apply pw_below_drewN | apply below_drew1) | exact HB.out)⟩

end Go.Proofs.Ytipahpkdddijmaa.Q

-- D2
namespace Go.Proofs.Ytipahpkdddijmaa.Q
open Go.RowKit Go.Proofs.YtipahpkdddijmaaW.PrintWords Go.Proofs.YtipahpkdddijmaaW.PrintLast Go.Proofs.YtipahpkdddijmaaW.PrintMore
set_option linter.unusedVariables false
set_option linter.unusedSimpArgs false

/-! ### plain laws: the greatest stamp -/
def wfN (n : S39) : Prop := 0 ≤ n.f0 ∧ n.f0 ≤ 18446744073709551615
theorem fewN_wf {l : List S39} (h : ∀ n ∈ l, wfN n) : ∀ n ∈ fewN l, wfN n := by
  intro n hn
  obtain ⟨m, hm, rfl⟩ := List.mem_map.1 hn
  exact h m (List.mem_of_mem_take hm)
theorem wrap_i (i : Nat) (h : i < 1000000000) : wrap64 ((i : Int) + 1) = ((i + 1 : Nat) : Int) := by unfold wrap64; omega
theorem rd39 {l : List S39} {i : Nat} (h : i < l.length) : rd_T39 l (i : Int) = l[i] := by unfold rd_T39; simp [h]
/-! ### ChangeLast -/
end Go.Proofs.Ytipahpkdddijmaa.Q

-- D8
namespace Go.Proofs.Ytipahpkdddijmaa.Q
open Go.RowKit Go.Proofs.YtipahpkdddijmaaW.PrintWords Go.Proofs.YtipahpkdddijmaaW.PrintLast Go.Proofs.YtipahpkdddijmaaW.PrintMore
set_option linter.unusedVariables false
set_option linter.unusedSimpArgs false

/-! ### the reference's numbers and lists -/
def digs : Nat → Int → List Int
  | 0, _ => []
  | n + 1, x => (x % 256) :: digs n (x / 256)
theorem nums_cat (s : ByteArray) (a : Int) (b : List Int) : (s ++ strOfNums [a]) ++ strOfNums b = s ++ strOfNums (a :: b) := by
  apply bytes_inj
  simp [strOfNums]
theorem rnum_from (K : Nat) : ∀ (m i : Nat) (x : Int) (s : ByteArray), i + m = 8 → 0 ≤ x → x < 18446744073709551616 → s.size ≤ i → cellarerref02_Num.l0 (K + m + 1) x s (i : Int) = some (s ++ strOfNums (digs m x))
  | 0, i, x, s, h, h0, h1, hs => by
    rw [cellarerref02_Num.l0, if_neg (by omega)]
    congr 1
    apply bytes_inj
    simp [strOfNums, digs]
  | m + 1, i, x, s, h, h0, h1, hs => by
    show cellarerref02_Num.l0 ((K + m + 1) + 1) x s (i : Int) = _
    have e1 : Int.tmod x 256 % 256 = x % 256 := by rw [Int.tmod_eq_emod_of_nonneg h0]; omega
    have e2 : IntKind.u64.wrap (Int.tdiv x 256) = x / 256 := by rw [Int.tdiv_eq_ediv_of_nonneg h0, IntKind.wrap_u64]; omega
    have hz : (s ++ strOfNums [x % 256]).size = s.size + 1 := by rw [ByteArray.size_append]; rfl
    rw [cellarerref02_Num.l0, if_pos (by omega), Option.bind_some, e1, e2, if_pos (by rw [← ByteArray.size_append, hz]; omega), wrap_i i (by omega)]
    rw [rnum_from K m (i + 1) (x / 256) _ (by omega) (by omega) (by omega) (by omega), nums_cat]
    rfl
theorem digs_num8 (n : Int) : strOfNums (digs 8 n) = num8 n := by
  unfold num8
  congr 1
  have a1 : n / 256 / 256 = n / 65536 := by omega
  have a2 : n / 65536 / 256 = n / 16777216 := by omega
  have a3 : n / 16777216 / 256 = n / 4294967296 := by omega
  have a4 : n / 4294967296 / 256 = n / 1099511627776 := by omega
  have a5 : n / 1099511627776 / 256 = n / 281474976710656 := by omega
  have a6 : n / 281474976710656 / 256 = n / 72057594037927936 := by omega
  simp [digs, shr, show IntKind.u64.bits = 64 from rfl, a1, a2, a3, a4, a5, a6]
theorem rnum (n : Int) (h0 : 0 ≤ n) (h1 : n < 18446744073709551616) (k : Nat) (hk : 9 ≤ k) : cellarerref02_Num.f k n = some (num8 n) := by
  unfold cellarerref02_Num.f
  have h := rnum_from (k - 9) 8 0 n ⟨#[]⟩ (by omega) h0 h1 (Nat.le_refl _)
  rw [show k - 9 + 8 + 1 = k by omega] at h
  rw [show ((0 : Int)) = ((0 : Nat) : Int) from rfl, h, digs_num8]
  congr 1
theorem rcnt (n : Nat) (h1 : n < 65536) : cellarerref02_Count.f (n : Int) = some (lay2B n) := by
  unfold cellarerref02_Count.f lay2B
  congr 2
  have e1 : Int.tmod (n : Int) 256 % 256 = (n : Int) % 256 := by rw [Int.tmod_eq_emod_of_nonneg (by omega)]; omega
  have e2 : wrap64 (Int.tdiv (n : Int) 256) = (n : Int) / 256 := by rw [Int.tdiv_eq_ediv_of_nonneg (by omega)]; unfold wrap64; omega
  rw [e1, e2]
  simp [shr, show IntKind.u64.bits = 64 from rfl]
theorem rtext (s : ByteArray) (h : s.size ≤ 4000) : cellarerref02_Text.f s = some (textB s) := by
  unfold cellarerref02_Text.f textB
  rw [rcnt s.size (by omega), Option.bind_some, if_pos (by rw [lay2B_size]; omega)]
def partB (ts : List ByteArray) (i : Nat) : ByteArray := ⟨(partL ts i).toArray⟩
theorem partB_size (ts : List ByteArray) (i : Nat) : (partB ts i).size = (partL ts i).length := by rw [← size_list]; rfl
theorem rlist_from (ts : List ByteArray) (hl : ts.length ≤ 4000) (hs : ∀ t ∈ ts, t.size ≤ 4000) (K : Nat) : ∀ (n i : Nat), i + n = ts.length → cellarerref02_List.l0 (K + n + 1) ts (partB ts i) (i : Int) = some (listB ts, true)
  | 0, i, h => by
    obtain rfl : i = ts.length := by omega
    rw [cellarerref02_List.l0, if_neg (by omega)]
    unfold partB listB
    rw [partL_all]
  | n + 1, i, h => by
    have hi : i < ts.length := by omega
    show cellarerref02_List.l0 ((K + n + 1) + 1) ts (partB ts i) (i : Int) = _
    have e : rdOf ByteArray.empty ts (i : Int) = ts[i] := by unfold rdOf; rw [Int.toNat_natCast, List.getD_eq_getElem?_getD, List.getElem?_eq_getElem hi]; rfl
    have hz := hs ts[i] (List.getElem_mem hi)
    have hp := partL_len ts hs i (by omega)
    have hb := partB_size ts i
    have hx := textB_size ts[i]
    rw [cellarerref02_List.l0, if_pos (by omega), if_pos (by omega), e, if_neg (by omega), rtext _ hz, Option.bind_some, if_pos (by omega), wrap_i i (by omega)]
    have e2 : partB ts i ++ textB ts[i] = partB ts (i + 1) := by
      apply bytes_inj
      unfold partB
      rw [partL_snoc ts i hi]
      simp [textL]
    rw [e2]
    exact rlist_from ts hl hs K n (i + 1) (by omega)
theorem rlist (ts : List ByteArray) (hl : ts.length ≤ 4000) (hs : ∀ t ∈ ts, t.size ≤ 4000) (k : Nat) (hk : ts.length + 1 ≤ k) : cellarerref02_List.f k ts = some (listB ts, true) := by
  unfold cellarerref02_List.f
  rw [if_neg (by omega), rcnt _ (by omega), Option.bind_some]
  have h := rlist_from ts hl hs (k - ts.length - 1) ts.length 0 (by omega)
  rw [show k - ts.length - 1 + ts.length + 1 = k by omega] at h
  have e : partB ts 0 = lay2B ts.length := by apply bytes_inj; unfold partB; rw [partL_zero]
  rw [e] at h
  exact h
/-! taking -/
theorem rtn_from (s : ByteArray) (hs : 8 ≤ s.size) (K : Nat) : ∀ n : Nat, n ≤ 8 → cellarerref02_TakeNum.l0 (K + n + 1) s (leN ((s.data.toList.take 8).drop n) : Int) ((n : Int) - 1) = some ((leN (s.data.toList.take 8) : Int), true)
  | 0, _ => by
    rw [cellarerref02_TakeNum.l0, if_neg (by omega)]
    rfl
  | n + 1, hn => by
    show cellarerref02_TakeNum.l0 ((K + n + 1) + 1) s _ _ = _
    have hn2 : n < s.size := by omega
    have hl : s.data.toList.length = s.size := size_list s
    have e0 : (((n + 1 : Nat) : Int) - 1) = (n : Int) := by omega
    have hd : (s.data.toList.take 8).drop n = s.data.toList[n] :: (s.data.toList.take 8).drop (n + 1) := by
      rw [List.drop_eq_getElem_cons (by rw [List.length_take]; omega), List.getElem_take]
    have hlt := leN_lt ((s.data.toList.take 8).drop n)
    have hp : 256 ^ ((s.data.toList.take 8).drop n).length ≤ 256 ^ 8 := Nat.pow_le_pow_right (by decide) (by rw [List.length_drop, List.length_take]; omega)
    have h8 : (256 : Nat) ^ 8 = 18446744073709551616 := by decide
    have hv : (leN ((s.data.toList.take 8).drop n) : Int) = (s.data.toList[n].toNat : Int) + 256 * (leN ((s.data.toList.take 8).drop (n + 1)) : Int) := by rw [hd, leN]; omega
    rw [e0, cellarerref02_TakeNum.l0, if_pos (by omega), if_pos (by omega), if_pos (by omega), bt_val s n hn2]
    have hb := s.data.toList[n].toNat_lt
    have e3 : IntKind.u64.wrap (IntKind.u64.wrap (256 * (leN ((s.data.toList.take 8).drop (n + 1)) : Int)) + IntKind.u64.wrap (s.data.toList[n].toNat : Int)) = (leN ((s.data.toList.take 8).drop n) : Int) := by
      rw [IntKind.wrap_u64, IntKind.wrap_u64, IntKind.wrap_u64]; omega
    have e4 : wrap64 ((n : Int) - 1) = (n : Int) - 1 := by unfold wrap64; omega
    rw [e3, e4]
    exact rtn_from s hs K n (by omega)
theorem rtn (s : ByteArray) (hs : 8 ≤ s.size) (k : Nat) (hk : 9 ≤ k) : cellarerref02_TakeNum.f k s = some ((leN (s.extract 0 8).data.toList : Int), true) := by
  unfold cellarerref02_TakeNum.f
  rw [if_neg (by omega)]
  have h := rtn_from s hs (k - 9) 8 (Nat.le_refl _)
  rw [show k - 9 + 8 + 1 = k by omega, List.drop_eq_nil_of_le (by rw [List.length_take]; omega)] at h
  rw [ext_list, List.drop_zero]
  exact h
theorem rcount (s : ByteArray) : cellarerref02_count.f s = some ((countW s).1, (countW s).2.2) := by
  unfold cellarerref02_count.f countW
  by_cases h : s.size < 2
  · rw [if_pos (by omega), if_pos h]
  · rw [if_neg (by omega), if_pos (by omega), if_pos (by omega), if_neg h]
    have hl : s.data.toList.length = s.size := size_list s
    have hd : (s.extract 0 2).data.toList = [s.data.toList[0]'(by omega), s.data.toList[1]'(by omega)] := by
      rw [ext_list, List.drop_zero]
      apply List.ext_getElem
      · rw [List.length_take]; simp; omega
      · intro i h1 h2
        rw [List.getElem_take]
        match i, h2 with
        | 0, _ => rfl
        | 1, _ => rfl
    have b0 : bt s 0 = ((s.data.toList[0]'(by omega)).toNat : Int) := bt_val s 0 (by omega)
    have b1 : bt s 1 = ((s.data.toList[1]'(by omega)).toNat : Int) := bt_val s 1 (by omega)
    have x0 := (s.data.toList[0]'(by omega)).toNat_lt
    have x1 := (s.data.toList[1]'(by omega)).toNat_lt
    have e : wrap64 (wrap64 (bt s 0) + wrap64 (256 * wrap64 (bt s 1))) = (leN (s.extract 0 2).data.toList : Int) := by
      rw [hd, b0, b1]
      simp only [leN]
      unfold wrap64
      omega
    rw [e]
    by_cases h4 : 4000 < leN (s.extract 0 2).data.toList
    · rw [if_pos (by omega), if_pos h4]
    · rw [if_neg (by omega), if_neg h4]
theorem countW_ok {s : ByteArray} (h : (countW s).2.2 = 0) : 2 ≤ s.size ∧ (countW s).2.1 = s.extract 2 s.size := by
  unfold countW at h ⊢
  split at h
  · cases h
  · split at h
    · cases h
    · rename_i h1 h2
      rw [if_neg h1, if_neg h2]
      exact ⟨by omega, rfl⟩
end Go.Proofs.Ytipahpkdddijmaa.Q

-- D9
namespace Go.Proofs.Ytipahpkdddijmaa.Q
open Go.RowKit Go.Proofs.YtipahpkdddijmaaW.PrintWords Go.Proofs.YtipahpkdddijmaaW.PrintLast Go.Proofs.YtipahpkdddijmaaW.PrintMore
set_option linter.unusedVariables false
set_option linter.unusedSimpArgs false

theorem ext_size (s : ByteArray) (a : Nat) : (s.extract a s.size).size = s.size - a := by rw [ByteArray.size_extract]; omega
theorem ext_ext (s : ByteArray) (a b : Nat) : (s.extract a s.size).extract b (s.extract a s.size).size = s.extract (a + b) s.size := by
  apply bytes_inj
  rw [ext_list, ext_list, ext_list, ext_size]
  have hl : s.data.toList.length = s.size := size_list s
  rw [List.take_of_length_le (show s.data.toList.length ≤ s.size by omega), List.take_of_length_le (by rw [List.length_drop]; omega), List.drop_drop]
/-- What TakeText of the reference tells, by takeW. -/
theorem rtake1 (s : ByteArray) (hs : s.size ≤ 1000000) :
    cellarerref02_TakeText.f s = some (if (takeW s).2.2 = 0 then ((takeW s).1, (s.size : Int) - ((takeW s).2.1.size : Int), 0) else (⟨#[]⟩, 0, (takeW s).2.2)) ∧
    ((takeW s).2.2 = 0 → ∃ k : Nat, 2 ≤ k ∧ k ≤ s.size ∧ (takeW s).2.1 = s.extract k s.size) := by
  unfold cellarerref02_TakeText.f
  rw [rcount, Option.bind_some]
  have hp := countW_pos s
  have hle := countW_le s
  have hok := countW_ok (s := s)
  unfold takeW
  generalize countW s = q at *
  obtain ⟨n, rest, e⟩ := q
  simp only at hp hle hok ⊢
  by_cases he : e = 0
  · subst he
    obtain ⟨h2, hr⟩ := hok rfl
    subst hr
    rw [if_pos rfl, if_pos rfl]
    obtain ⟨m, rfl⟩ : ∃ m : Nat, n = m := ⟨n.toNat, by omega⟩
    have e1 : wrap64 (2 + (m : Int)) = ((2 + m : Nat) : Int) := by unfold wrap64; omega
    rw [e1]
    have hz := ext_size s 2
    by_cases hb : (s.size : Int) < ((2 + m : Nat) : Int)
    · have hc : cutW (s.extract 2 s.size) (m : Int) = (⟨#[]⟩, ⟨#[]⟩, 3) := by unfold cutW; rw [if_pos (by omega)]
      rw [hc, if_pos hb]
      exact ⟨rfl, fun h => (by cases h)⟩
    · have hc : cutW (s.extract 2 s.size) (m : Int) = ((s.extract 2 s.size).extract 0 m, s.extract (2 + m) s.size, 0) := by
        unfold cutW
        rw [if_neg (by omega)]
        simp only [Int.toNat_natCast]
        rw [ext_ext]
      rw [hc, if_neg hb, if_pos (by omega), if_pos (by omega)]
      refine ⟨?_, fun _ => ⟨2 + m, by omega, by omega, rfl⟩⟩
      have t1 : s.extract 2 (2 + m) = (s.extract 2 s.size).extract 0 m := by
        apply bytes_inj
        rw [ext_list, ext_list, ext_list, List.drop_zero]
        have hl : s.data.toList.length = s.size := size_list s
        rw [List.take_of_length_le (show s.data.toList.length ≤ s.size by omega), List.drop_take]
        congr 1
        omega
      simp only [Int.toNat_natCast]
      rw [t1, ext_size, if_pos trivial]
      congr 3
      omega
  · rw [if_neg he, if_neg he, if_neg he]
    exact ⟨rfl, fun h => absurd h he⟩
theorem rtl_from (s : ByteArray) (hs : s.size ≤ 1000000) (N : Nat) (hN : N ≤ 4000) (K : Nat) : ∀ (n i a : Nat) (out : List ByteArray), i + n = N → a ≤ s.size → out.length = i →
    cellarerref02_TakeList.l0 (K + n + 1) s (N : Int) out (a : Int) (i : Int) = some (if (takeLoop n (s.extract a s.size) out).2.1 = 0 then ((takeLoop n (s.extract a s.size) out).2.2, (s.size : Int) - ((takeLoop n (s.extract a s.size) out).1.size : Int), 0) else ([], 0, (takeLoop n (s.extract a s.size) out).2.1))
  | 0, i, a, out, hi, ha, ho => by
    rw [cellarerref02_TakeList.l0, if_neg (by omega)]
    unfold takeLoop
    simp only
    rw [if_pos trivial, ext_size]
    congr 3
    omega
  | n + 1, i, a, out, hi, ha, ho => by
    show cellarerref02_TakeList.l0 ((K + n + 1) + 1) s (N : Int) out (a : Int) (i : Int) = _
    rw [cellarerref02_TakeList.l0, if_pos (by omega), if_pos (by omega), if_pos (by omega), Int.toNat_natCast]
    have hz := ext_size s a
    obtain ⟨h1, h2⟩ := rtake1 (s.extract a s.size) (by omega)
    rw [h1, Option.bind_some]
    unfold takeLoop
    by_cases he : (takeW (s.extract a s.size)).2.2 = 0
    · obtain ⟨k, k1, k2, k3⟩ := h2 he
      rw [if_pos he, if_pos he, k3, ext_ext]
      simp only
      rw [if_pos trivial, if_pos (by omega), hz, ext_size]
      have hk2 : k ≤ s.size - a := by omega
      have e1 : wrap64 ((a : Int) + (((s.size - a : Nat) : Int) - ((s.size - (a + k) : Nat) : Int))) = ((a + k : Nat) : Int) := by clear h1 h2 k3 he hz k2; unfold wrap64; omega
      rw [e1, wrap_i i (by omega)]
      exact rtl_from s hs N hN K n (i + 1) (a + k) _ (by omega) (by omega) (by rw [List.length_append]; simp; omega)
    · rw [if_neg he, if_neg he]
      simp only
      rw [if_neg he, if_neg he]
theorem rtl (s : ByteArray) (hs : s.size ≤ 1000000) (k : Nat) (hk : 4001 ≤ k) : cellarerref02_TakeList.f k s = some (if (takeListW s).2.2 = 0 then ((takeListW s).1, (s.size : Int) - ((takeListW s).2.1.size : Int), 0) else ([], 0, (takeListW s).2.2)) := by
  unfold cellarerref02_TakeList.f
  rw [rcount, Option.bind_some]
  have hp := countW_pos s
  have hle := countW_le s
  have hok := countW_ok (s := s)
  unfold takeListW
  generalize countW s = q at *
  obtain ⟨n, rest, e⟩ := q
  simp only at hp hle hok ⊢
  unfold finT
  by_cases he : e = 0
  · subst he
    obtain ⟨h2, hr⟩ := hok rfl
    subst hr
    rw [if_pos rfl, if_pos rfl]
    obtain ⟨m, rfl⟩ : ∃ m : Nat, n = m := ⟨n.toNat, by omega⟩
    have h := rtl_from s hs m (by omega) (k - m - 1) m 0 2 [] (by omega) h2 rfl
    rw [show k - m - 1 + m + 1 = k by omega] at h
    rw [Int.toNat_natCast]
    refine Eq.trans h ?_
    congr 1
    unfold outT
    generalize takeLoop m (s.extract 2 s.size) [] = t at *
    obtain ⟨t1, t2, t3⟩ := t
    simp only
    by_cases ht : t2 = 0
    · rw [if_pos ht, if_pos ht, if_pos rfl]
    · rw [if_neg ht, if_neg ht, if_neg ht]
  · rw [if_neg he, if_neg he]
    unfold outT
    simp only
    rw [if_neg he, if_neg he]
end Go.Proofs.Ytipahpkdddijmaa.Q

-- D10
namespace Go.Proofs.Ytipahpkdddijmaa.Q
open Go.RowKit Go.Proofs.YtipahpkdddijmaaW.PrintWords Go.Proofs.YtipahpkdddijmaaW.PrintLast Go.Proofs.YtipahpkdddijmaaW.PrintMore
set_option linter.unusedVariables false
set_option linter.unusedSimpArgs false

/-! ### the reference's Lay and Take -/
theorem toList_nil (s : ByteArray) : s.toList = [] ↔ s.size = 0 := by
  rw [Lib.toList_data, ← size_list]
  exact List.length_eq_zero_iff.symm
theorem cmay (n : S39) : change_May.f n.f0 n.f1.f0 n.f1.f1 n.f1.f2 = some (mayN n) := by
  unfold change_May.f mayN
  by_cases h1 : n.f0 ≥ 1
  · rw [if_pos h1, decide_eq_true (show 1 ≤ n.f0 from h1)]
    by_cases h2 : n.f1.f0.toList = []
    · rw [if_pos h2, decide_eq_true h2]; rfl
    · rw [if_neg h2, decide_eq_false h2]
      by_cases h3 : (n.f1.f0.size : Int) ≤ 200
      · rw [if_pos h3, decide_eq_true (show n.f1.f0.size ≤ 200 by omega)]
        by_cases h4 : (n.f1.f1.size : Int) ≤ 4000
        · rw [if_pos h4, decide_eq_true (show n.f1.f1.size ≤ 4000 by omega)]
          cases n.f1.f2 <;> simp
        · rw [if_neg h4, decide_eq_false (show ¬ n.f1.f1.size ≤ 4000 by omega)]; simp
      · rw [if_neg h3, decide_eq_false (show ¬ n.f1.f0.size ≤ 200 by omega)]; simp
  · rw [if_neg h1, decide_eq_false (show ¬ 1 ≤ n.f0 from h1)]; simp
theorem rmay (n : S39) : cellarerref12_May.f n.f0 n.f1.f0 n.f1.f1 n.f1.f2 = some (mayN n) := by
  unfold cellarerref12_May.f mayN
  by_cases h1 : n.f0 > 0
  · rw [if_pos h1, decide_eq_true (show 1 ≤ n.f0 by omega)]
    by_cases h2 : n.f1.f0.toList = []
    · have := (toList_nil _).1 h2
      rw [if_neg (by omega), decide_eq_true h2]; rfl
    · have : n.f1.f0.size ≠ 0 := fun h => h2 ((toList_nil _).2 h)
      rw [if_pos (by omega), decide_eq_false h2]
      by_cases h3 : (n.f1.f0.size : Int) ≤ 200
      · rw [if_pos h3, decide_eq_true (show n.f1.f0.size ≤ 200 by omega)]
        by_cases h4 : (n.f1.f1.size : Int) ≤ 4000
        · rw [if_pos h4, decide_eq_true (show n.f1.f1.size ≤ 4000 by omega)]
          cases n.f1.f2 <;> simp
        · rw [if_neg h4, decide_eq_false (show ¬ n.f1.f1.size ≤ 4000 by omega)]; simp
      · rw [if_neg h3, decide_eq_false (show ¬ n.f1.f0.size ≤ 200 by omega)]; simp
  · rw [if_neg h1, decide_eq_false (show ¬ 1 ≤ n.f0 by omega)]; simp
theorem textsN_next (l : List S39) (i : Nat) (h : i < l.length) : textsN (l.take (i + 1)) = textsN (l.take i) ++ [num8 l[i].f0, l[i].f1.f0, goneN l[i].f1.f2, l[i].f1.f1] := by
  rw [take_snoc l i h]
  unfold textsN
  rw [List.flatMap_append]
  simp [layT]
theorem any_may {l : List S39} (h : ∀ (j : Nat) (hj : j < l.length), mayN l[j] = true) : l.any (fun n => !mayN n) = false := by
  rw [List.any_eq_false]
  intro n hn
  obtain ⟨j, hj, rfl⟩ := List.getElem_of_mem hn
  rw [h j hj]
  simp
theorem rlay_from (l : List S39) (hl : l.length ≤ 1000) (hw : ∀ n ∈ l, wfN n) (K : Nat) (hK : 4 * l.length + 10 ≤ K) : ∀ (n i : Nat), i + n = l.length → (∀ (j : Nat) (hj : j < l.length), j < i → mayN l[j] = true) → cellarerref12_Lay.l0 (K + n + 1) l (textsN (l.take i)) (i : Int) = some (layR l)
  | 0, i, h, hm => by
    obtain rfl : i = l.length := by omega
    have ha := any_may (fun j hj => hm j hj hj)
    rw [cellarerref12_Lay.l0, if_neg (by omega), List.take_length]
    obtain ⟨K', rfl⟩ : ∃ K', K = K' + 1 := ⟨K - 1, by omega⟩
    show (if (l.length : Int) = 0 then cellarerref12_Lay.j1 (K' + 1) (textsN l) true else cellarerref12_Lay.j1 (K' + 1) (textsN l) (decide ((l.length : Int) > 100))) = _
    by_cases h0 : l.length = 0
    · rw [if_pos (by omega), cellarerref12_Lay.j1, if_pos rfl]
      unfold layR
      rw [if_pos (Or.inl h0)]
    · rw [if_neg (by omega), cellarerref12_Lay.j1]
      by_cases h1 : 100 < l.length
      · rw [if_pos (by rw [decide_eq_true_eq]; omega)]
        unfold layR
        rw [if_pos (Or.inr (Or.inl h1))]
      · rw [if_neg (by rw [decide_eq_true_eq]; omega)]
        have ht := textsN_len l
        rw [rlist (textsN l) (by omega) (textsN_size ha) K' (by omega), Option.bind_some]
        have hE : layR l = if 12000 < (listB (textsN l)).size then (⟨#[]⟩, 6) else (listB (textsN l), 0) := by
          unfold layR
          rw [if_neg (by rintro (x | x | x); exact h0 x; exact h1 x; rw [ha] at x; cases x)]
        rw [hE]
        by_cases h2 : 12000 < (listB (textsN l)).size
        · rw [if_pos (show (((listB (textsN l)).size : Nat) : Int) > 12000 by omega), if_pos h2]
        · rw [if_neg (show ¬ (((listB (textsN l)).size : Nat) : Int) > 12000 by omega), if_neg h2]
  | n + 1, i, h, hm => by
    have hi : i < l.length := by omega
    show cellarerref12_Lay.l0 ((K + n + 1) + 1) l (textsN (l.take i)) (i : Int) = _
    rw [cellarerref12_Lay.l0, if_pos (by omega), if_pos (by omega), rd39 hi, rmay, Option.bind_some]
    have hwi := hw l[i] (List.getElem_mem hi)
    have hlen : (textsN (l.take i)).length ≤ 4000 := by rw [textsN_len, List.length_take]; omega
    cases hmi : mayN l[i]
    · rw [if_neg (by decide)]
      unfold layR
      rw [if_pos (Or.inr (Or.inr (List.any_eq_true.2 ⟨l[i], List.getElem_mem hi, by rw [hmi]; rfl⟩)))]
    · rw [if_pos rfl, rnum l[i].f0 hwi.1 (by have := hwi.2; omega) (K + n + 1) (by omega), rnum 1 (by decide) (by decide) (K + n + 1) (by omega), rnum 0 (by decide) (by decide) (K + n + 1) (by omega)]
      have key : ∀ g : Bool, l[i].f1.f2 = g → cellarerref12_Lay.l0 (K + n + 1) l (textsN (l.take i) ++ [num8 l[i].f0, l[i].f1.f0, num8 (if g then 1 else 0), l[i].f1.f1]) (wrap64 ((i : Int) + 1)) = some (layR l) := by
        intro g hg
        have e := textsN_next l i hi
        unfold goneN at e
        rw [hg] at e
        rw [← e, wrap_i i (by omega)]
        exact rlay_from l hl hw K hK n (i + 1) (by omega) (fun j hj hj2 => by
          by_cases hji : j = i
          · subst hji; exact hmi
          · exact hm j hj (by omega))
      cases hg : l[i].f1.f2
      · rw [if_neg (by decide)]
        simp only [Option.bind_some]
        rw [if_pos (by simp; omega)]
        exact key false hg
      · rw [if_pos rfl]
        simp only [Option.bind_some]
        rw [if_pos (by simp; omega)]
        exact key true hg
theorem rlay (l : List S39) (hl : l.length ≤ 1000) (hw : ∀ n ∈ l, wfN n) (k : Nat) (hk : 5 * l.length + 20 ≤ k) : cellarerref12_Lay.f k l = some (layR l) := by
  unfold cellarerref12_Lay.f
  have h := rlay_from l hl hw (k - l.length - 1) (by omega) l.length 0 (by omega) (fun j _ hj => absurd hj (Nat.not_lt_zero _))
  rw [show k - l.length - 1 + l.length + 1 = k by omega] at h
  exact h
/-! Take -/
def noteM (a b c d : ByteArray) : Option S39 := if a.size < 8 then none else some ⟨(leN (a.extract 0 8).data.toList : Int), ⟨b, d, c.toList == (num8 1).toList⟩⟩
def takeM : List ByteArray → Option (List S39)
  | a :: b :: c :: d :: r => (noteM a b c d).bind fun n => (takeM r).map (n :: ·)
  | _ => some []
theorem leN_ext (a : ByteArray) : leN (a.extract 0 8).data.toList < 18446744073709551616 := by
  have h := leN_lt (a.extract 0 8).data.toList
  have hl : (a.extract 0 8).data.toList.length ≤ 8 := by rw [size_list, ByteArray.size_extract]; omega
  have hp : 256 ^ (a.extract 0 8).data.toList.length ≤ 256 ^ 8 := Nat.pow_le_pow_right (by decide) hl
  have h8 : (256 : Nat) ^ 8 = 18446744073709551616 := by decide
  omega
theorem note_M {a b c d : ByteArray} {n : S39} (h : noteOf a b c d = some n) : noteM a b c d = some n ∧ a.size = 8 := by
  unfold noteOf numW at h
  by_cases h8 : a.size < 8
  · rw [if_pos h8, if_neg (by simp)] at h; cases h
  · rw [if_neg h8] at h
    simp only at h
    split at h
    · rename_i hc
      injection h with h
      subst h
      have he := hc.2
      rw [List.isEmpty_iff, toList_nil, ext_size] at he
      unfold noteM
      rw [if_neg h8]
      exact ⟨rfl, by omega⟩
    · cases h
theorem note_none {a b c d : ByteArray} (h : noteOf a b c d = none) : a.size ≠ 8 := by
  intro h8
  unfold noteOf numW at h
  rw [if_neg (show ¬ a.size < 8 by omega)] at h
  simp only at h
  rw [if_pos ⟨trivial, by rw [List.isEmpty_iff, toList_nil, ext_size]; omega⟩] at h
  cases h
theorem take_M : ∀ ts out, takeN ts = some out → takeM ts = some out
  | a :: b :: c :: d :: r, out, h => by
    rw [takeN_cons] at h
    cases hn : noteOf a b c d with
    | none => rw [hn] at h; cases h
    | some n =>
      rw [hn, Option.bind_some] at h
      cases hr : takeN r with
      | none => rw [hr] at h; cases h
      | some o =>
        rw [hr] at h
        rw [takeM, (note_M hn).1, Option.bind_some, take_M r o hr]
        exact h
  | [], out, h => h
  | [_], out, h => h
  | [_, _], out, h => h
  | [_, _, _], out, h => h
theorem takeM_textsN : ∀ (ts : List ByteArray) (out : List S39), takeM ts = some out → ts = textsN out → ∃ o, takeN ts = some o
  | a :: b :: c :: d :: r, out, h, e => by
    rw [takeM] at h
    cases hn : noteM a b c d with
    | none => rw [hn] at h; cases h
    | some n =>
      rw [hn, Option.bind_some] at h
      cases hr : takeM r with
      | none => rw [hr] at h; cases h
      | some o =>
        rw [hr] at h
        injection h with h
        subst h
        have e' : a :: b :: c :: d :: r = num8 n.f0 :: n.f1.f0 :: goneN n.f1.f2 :: n.f1.f1 :: textsN o := e
        injection e' with ea eb
        injection eb with eb ec
        injection ec with ec ed
        injection ed with ed er
        obtain ⟨o2, ho2⟩ := takeM_textsN r o hr er
        cases hx : noteOf a b c d with
        | none => exact absurd (by rw [ea]; exact num8_size _) (note_none hx)
        | some y => rw [takeN_cons, hx, Option.bind_some, ho2]; exact ⟨_, rfl⟩
  | [], out, h, e => ⟨_, rfl⟩
  | [_], out, h, e => ⟨_, rfl⟩
  | [_, _], out, h, e => ⟨_, rfl⟩
  | [_, _, _], out, h, e => ⟨_, rfl⟩
def finM (s : ByteArray) (o : Option (List S39)) : List S39 × Bool :=
  match o with
  | none => ([], false)
  | some out => if (layR out).2 = 0 ∧ (layR out).1 = s then (out, true) else ([], false)
end Go.Proofs.Ytipahpkdddijmaa.Q

-- D11
namespace Go.Proofs.Ytipahpkdddijmaa.Q
open Go.RowKit Go.Proofs.YtipahpkdddijmaaW.PrintWords Go.Proofs.YtipahpkdddijmaaW.PrintLast Go.Proofs.YtipahpkdddijmaaW.PrintMore
set_option linter.unusedVariables false
set_option linter.unusedSimpArgs false

theorem rd_nth (ts : List ByteArray) (k : Nat) : rdOf ByteArray.empty ts (k : Int) = nth ts k := by
  unfold rdOf nth
  rw [Int.toNat_natCast, List.getD_eq_getElem?_getD]
  rfl
theorem drop_nth (ts : List ByteArray) (k : Nat) (h : k < ts.length) : ts.drop k = nth ts k :: ts.drop (k + 1) := by
  rw [List.drop_eq_getElem_cons h]
  congr 1
  unfold nth
  rw [List.getElem?_eq_getElem h]
  rfl
theorem wrap_j (i j : Nat) (hi : i ≤ 1000000) (hj : j ≤ 10) : wrap64 ((i : Int) + (j : Int)) = ((i + j : Nat) : Int) := by unfold wrap64; omega
theorem rtake_from (s : ByteArray) (ts : List ByteArray) (m : Nat) (hl : ts.length = 4 * m) (hm : m ≤ 1000) (K : Nat) (hK : 5 * m + 30 ≤ K) : ∀ (n i : Nat) (out : List S39), i + n = m → out.length = i → (∀ x ∈ out, wfN x) →
    cellarerref12_Take.l0 (K + n + 1) s ts out ((4 * i : Nat) : Int) = some (finM s ((takeM (ts.drop (4 * i))).map (out ++ ·)))
  | 0, i, out, hi, ho, hw => by
    obtain rfl : i = m := by omega
    rw [cellarerref12_Take.l0, if_neg (by omega), List.drop_eq_nil_of_le (by omega), rlay out (by omega) hw K (by omega), Option.bind_some]
    show _ = some (finM s (some (out ++ [])))
    rw [List.append_nil]
    unfold finM
    by_cases h1 : (layR out).2 = 0
    · rw [if_pos h1]
      by_cases h2 : (layR out).1.toList = s.toList
      · rw [if_pos h2]
        simp only
        rw [if_pos ⟨h1, bytes_eq h2⟩]
      · rw [if_neg h2]
        simp only
        rw [if_neg (fun h => h2 (by rw [h.2]))]
    · rw [if_neg h1]
      simp only
      rw [if_neg (fun h => h1 h.1)]
  | n + 1, i, out, hi, ho, hw => by
    show cellarerref12_Take.l0 ((K + n + 1) + 1) s ts out ((4 * i : Nat) : Int) = _
    have hd : ts.drop (4 * i) = nth ts (4 * i) :: nth ts (4 * i + 1) :: nth ts (4 * i + 2) :: nth ts (4 * i + 3) :: ts.drop (4 * (i + 1)) := by
      rw [drop_nth ts (4 * i) (by omega), drop_nth ts (4 * i + 1) (by omega), drop_nth ts (4 * i + 2) (by omega), drop_nth ts (4 * i + 3) (by omega)]
      rfl
    rw [hd, takeM]
    have e1 : wrap64 (((4 * i : Nat) : Int) + 1) = ((4 * i + 1 : Nat) : Int) := wrap_j (4 * i) 1 (by omega) (by omega)
    have e2 : wrap64 (((4 * i : Nat) : Int) + 2) = ((4 * i + 2 : Nat) : Int) := wrap_j (4 * i) 2 (by omega) (by omega)
    have e3 : wrap64 (((4 * i : Nat) : Int) + 3) = ((4 * i + 3 : Nat) : Int) := wrap_j (4 * i) 3 (by omega) (by omega)
    have e4 : wrap64 (((4 * i : Nat) : Int) + 4) = ((4 * (i + 1) : Nat) : Int) := wrap_j (4 * i) 4 (by omega) (by omega)
    rw [cellarerref12_Take.l0, if_pos (by omega), if_pos (by omega), e1, e2, e3, e4, rd_nth, rd_nth, rd_nth, rd_nth]
    unfold noteM
    by_cases h8 : (nth ts (4 * i)).size < 8
    · rw [if_pos h8]
      have ht : cellarerref02_TakeNum.f (K + n + 1) (nth ts (4 * i)) = some (0, false) := by unfold cellarerref02_TakeNum.f; rw [if_pos (by omega)]
      rw [ht, Option.bind_some, if_neg (by simp)]
      rfl
    · rw [if_neg h8, rtn _ (by omega) (K + n + 1) (by omega), Option.bind_some, if_pos rfl]
      rw [if_pos (by omega), if_pos (by omega), if_pos (by omega), if_pos (by omega), rnum 1 (by decide) (by decide) (K + n + 1) (by omega), Option.bind_some, if_pos (by omega), if_pos (by omega), if_pos (by omega), Option.bind_some]
      have hx := leN_ext (nth ts (4 * i))
      rw [rtake_from s ts m hl hm K hK n (i + 1) _ (by omega) (by rw [List.length_append]; simp; omega) (by
        intro x hx2
        rcases List.mem_append.1 hx2 with h | h
        · exact hw x h
        · have : x = _ := List.mem_singleton.1 h
          subst this
          exact ⟨by simp only; omega, by simp only; omega⟩)]
      congr 2
      cases takeM (ts.drop (4 * (i + 1))) with
      | none => rfl
      | some r => simp
theorem rtake (s : ByteArray) (hs : s.size ≤ 1000000) (k : Nat) (hk : 10000 ≤ k) : cellarerref12_Take.f k s = some ((takeR s).1, decide ((takeR s).2 = 0)) := by
  obtain ⟨k, rfl⟩ : ∃ j, k = j + 1 := ⟨k - 1, by omega⟩
  unfold cellarerref12_Take.f
  rw [rtl s hs (k + 1) (by omega), Option.bind_some]
  have hW : wholeW s = if (takeListW s).2.2 = 0 then (if (takeListW s).2.1.toList.isEmpty = true then ((takeListW s).1, 0) else ([], 2)) else ([], (takeListW s).2.2) := rfl
  generalize takeListW s = t at *
  obtain ⟨ts, rest, e⟩ := t
  simp only at hW ⊢
  have hj : ∀ x, cellarerref12_Take.j0 (k + 1) s x true = some ([], false) := fun x => by rw [cellarerref12_Take.j0, if_pos rfl]
  by_cases he : e = 0
  · subst he
    rw [if_pos rfl] at hW
    rw [if_pos rfl]
    simp only
    rw [if_pos trivial]
    by_cases hr : rest.size = 0
    · rw [if_pos (by omega)]
      rw [if_pos (by rw [List.isEmpty_iff, toList_nil]; exact hr)] at hW
      rw [cellarerref12_Take.j0]
      have hlen := wholeW_len hW
      by_cases h4 : ts.length % 4 = 0
      · rw [if_neg (by simp; omega)]
        have h := rtake_from s ts (ts.length / 4) (by omega) (by omega) (k - ts.length / 4 - 1) (by omega) (ts.length / 4) 0 [] (by omega) rfl (fun x hx => by cases hx)
        rw [show k - ts.length / 4 - 1 + ts.length / 4 + 1 = k by omega] at h
        refine Eq.trans h ?_
        congr 1
        rw [Nat.mul_zero, List.drop_zero]
        unfold takeR
        rw [hW]
        simp only
        rw [if_pos ⟨trivial, h4⟩]
        cases hn : takeN ts with
        | some out =>
          rw [take_M ts out hn]
          show finM s (some ([] ++ out)) = _
          rw [List.nil_append]
          unfold finM
          simp only
          by_cases hc : (layR out).2 = 0 ∧ (layR out).1 = s
          · simp [hc]
          · simp [hc]
        | none =>
          simp only
          cases hM : takeM ts with
          | none => rfl
          | some out =>
            show finM s (some ([] ++ out)) = _
            rw [List.nil_append]
            unfold finM
            simp only
            rw [if_neg]
            · simp
            · rintro ⟨h1, h2⟩
              obtain ⟨g1, g2, g3, g4⟩ := layR_ok h1
              have hq := whole_laid (textsN out) (by rw [textsN_len]; omega) (textsN_size g3)
              rw [g4] at h2
              simp only at h2
              rw [h2, hW] at hq
              injection hq with hq _
              obtain ⟨o, ho⟩ := takeM_textsN ts out hM hq
              rw [hn] at ho
              cases ho
      · rw [if_pos (by simp; omega)]
        unfold takeR
        rw [hW]
        simp only
        rw [if_neg (fun h => h4 h.2)]
        simp
    · rw [if_neg (by omega), hj]
      rw [if_neg (by rw [List.isEmpty_iff, toList_nil]; exact hr)] at hW
      unfold takeR
      rw [hW]
      simp
  · rw [if_neg he] at hW
    rw [if_neg he]
    simp only
    rw [if_neg he, hj]
    unfold takeR
    rw [hW]
    simp only
    rw [if_neg (fun h => he h.1)]
    simp
theorem takeR_err (s : ByteArray) : (takeR s).2 = 0 ∨ (takeR s).2 = 2 := by
  unfold takeR
  split
  · split
    · exact .inr rfl
    · split
      · exact .inl rfl
      · exact .inr rfl
  · exact .inr rfl
theorem takeR_len (s : ByteArray) : (takeR s).1.length ≤ 100 := by
  unfold takeR
  split
  · split
    · exact Nat.zero_le _
    · split
      · rename_i h
        exact (layR_ok h.1).2.1
      · exact Nat.zero_le _
  · exact Nat.zero_le _
theorem lays_from (l : List S39) (hl : l.length ≤ 101) (hw : ∀ n ∈ l, wfN n) (K : Nat) (hK : 200 ≤ K) : ∀ (n i : Nat), i + n = l.length → cellarerlaw12_ChangeLays.l0 (K + n + 1) l (layR l).1 (layR l).2 (i : Int) = some true
  | 0, i, h => by
    rw [cellarerlaw12_ChangeLays.l0, if_neg (by omega)]
    by_cases he : (layR l).2 = 0
    · have hT : ∀ x, change_TakeA.f x = some (takeR x) := fun _ => rfl
      rw [if_pos he, hT, Option.bind_some, take_of_lay hw he]
      simp only
      rw [same12_self l (by omega) K (by omega), Option.bind_some, if_pos rfl, if_pos trivial]
      rfl
    · rw [if_neg he]; rfl
  | n + 1, i, h => by
    have hi : i < l.length := by omega
    show cellarerlaw12_ChangeLays.l0 ((K + n + 1) + 1) l (layR l).1 (layR l).2 (i : Int) = _
    rw [cellarerlaw12_ChangeLays.l0, if_pos (by omega), if_pos (by omega), rd39 hi, cmay, Option.bind_some, rmay, Option.bind_some, if_neg (by simp), wrap_i i (by omega)]
    exact lays_from l hl hw K hK n (i + 1) (by omega)
/-- ChangeLays answers true. -/
theorem lays_true (l0 : List S39) (a1 : ByteArray) (hw : ∀ n ∈ l0, wfN n) : ∃ k, cellarerlaw12_ChangeLays.f k l0 a1 = some true := by
  have hw1 := fewN_wf hw
  have hl := fewN_len l0
  have key : ∀ k, ∃ s : ByteArray, s.size ≤ 13000 ∧ cellarerlaw12_ChangeLays.f k l0 a1 = cellarerlaw12_ChangeLays.j0 k (fewN l0) s := by
    intro k
    unfold cellarerlaw12_ChangeLays.f cellarerlaw12_Few.f
    rw [Option.bind_some]
    by_cases hs : (a1.size : Int) > 13000
    · rw [if_pos hs, if_pos (by decide), if_pos (by omega)]
      exact ⟨a1.extract 0 13000, by rw [ByteArray.size_extract]; omega, rfl⟩
    · rw [if_neg hs]
      exact ⟨a1, by omega, rfl⟩
  obtain ⟨s, hs, e⟩ := key ((20000 + (fewN l0).length + 1) + 1 + 1)
  refine ⟨_, e.trans ?_⟩
  clear key e
  generalize fewN l0 = l at *
  have hL : ∀ x, change_Lay.f x = some (layR x) := fun _ => rfl
  have hT : ∀ x, change_TakeA.f x = some (takeR x) := fun _ => rfl
  rw [cellarerlaw12_ChangeLays.j0, hL, Option.bind_some, rlay l (by omega) hw1 _ (by omega), Option.bind_some, hT, Option.bind_some, rtake s (by omega) _ (by omega), Option.bind_some, if_pos rfl, if_pos rfl]
  have hn := takeR_len s
  rw [same12_self (takeR s).1 (by omega) _ (by omega), Option.bind_some, if_pos rfl]
  have hj1 : cellarerlaw12_ChangeLays.j1 (20000 + l.length + 1 + 1) l (layR l).1 (layR l).2 false = some true := by
    rw [cellarerlaw12_ChangeLays.j1, if_neg (by decide)]
    exact lays_from l (by omega) hw1 20000 (by omega) l.length 0 (by omega)
  rcases takeR_err s with h | h
  · rw [h]
    simp only
    rw [if_neg (by decide), if_pos (by decide)]
    exact hj1
  · rw [h]
    simp only
    rw [if_neg (by decide), if_neg (by decide)]
    exact hj1
theorem lays.answers (A0 : Option Addr) (c0 : Nat) (l0 : List S39) (a1 : ByteArray) (w : World) (hr0 : Kd.C k39 w A0 l0.length l0) (hc0 : l0.length ≤ c0) (hw : ∀ n ∈ l0, wfN n) :
    Calls Try.prog 3 #[.slice A0 l0.length c0, .string a1] w fun e w' => e = .returned (.bool true) ∧ Below w.heap.size w w' := by
  obtain ⟨k, hk⟩ := lays_true l0 a1 hw
  exact cellarerlaw12_ChangeLays.calls k A0 c0 l0 a1 true w hr0 hc0 hk
end Go.Proofs.Ytipahpkdddijmaa.Q

-- U2
namespace Go.Proofs.Ytipahpkdddijmaa.Q
open Go.RowKit Go.Proofs.YtipahpkdddijmaaW.PrintWords Go.Proofs.YtipahpkdddijmaaW.PrintLast Go.Proofs.YtipahpkdddijmaaW.PrintMore
set_option linter.unusedVariables false
set_option linter.unusedSimpArgs false

/-! Openings that tell of each cell's own fitness, too. -/
def OpensQ {α : Type} (P : Program) (d : Kd α) (t : TypeId) (Q : α → Prop) : Prop :=
  ∀ (H : Type) (enc : TypeId × Value → H) (W : World) (n : Nat) (cs : List Value) (x : DataW H × List MemPlace), DataW.trod enc P W 0 (fun _ => true) true n t cs = some x → ∃ y : α, d.K W y cs ∧ Q y
set_option maxRecDepth 100000 in
theorem opensQ_C {α : Type} {P : Program} {d : Kd α} {t e : TypeId} (ht : P.underlying t = some (.slice e)) (hs : P.cellsOf e = d.sz) {Q : α → Prop} (he : OpensQ P d e Q) (z : α) (H : Type) (enc : TypeId × Value → H) (W : World) (n : Nat) (cs : List Value) (x : DataW H × List MemPlace)
    (h : DataW.trod enc P W 0 (fun _ => true) true n t cs = some x) : ∃ (l : List α) (A : Option Addr) (c : Nat), cs = [.slice A l.length c] ∧ l.length ≤ c ∧ d.C W A l.length l ∧ ∀ x ∈ l, Q x := by
  rcases DataW.trod_slice ht h with ⟨rfl, _⟩ | ⟨a, len, cap, elems, rest, m, _, rfl, _, _, hl, hm, hlen, hel, _, _⟩
  · exact ⟨[], none, 0, rfl, Nat.le_refl _, ⟨rfl, by simp, fun h0 => by simp at h0⟩, fun x hx => by cases hx⟩
  have each : ∀ i : Nat, ∃ p : α, i < len → Q p ∧ ∃ c : List Value, c.length = d.sz ∧ d.K W p c ∧ ∀ j u, c[j]? = some u → W.cell? (a.add (i * d.sz + j)) = some u := by
    intro i
    by_cases hi : i < len
    · have h1 := hel i hi
      rw [List.getElem?_eq_getElem (by omega), Option.bind_eq_some_iff] at h1
      obtain ⟨c, hc, ht'⟩ := h1
      obtain ⟨y, hy, hq⟩ := he H enc W m c _ ht'
      refine ⟨y, fun _ => ⟨hq, c, d.K_len hy, hy, fun j u hu => ?_⟩⟩
      obtain ⟨_, hcl, hcell⟩ := World.cells?_some hc
      have := hcell j (by have := (List.getElem?_eq_some_iff.1 hu).1; omega)
      rw [hs, add_add] at this
      rw [this, hu]
    · exact ⟨z, fun h => absurd h hi⟩
  obtain ⟨f, hf⟩ := Classical.skolem.1 each
  refine ⟨(List.range len).map f, some a, cap, by simp, by simpa using hl, ⟨by simp, by simp [maxLen] at hm ⊢; omega, fun _ => ⟨a, rfl, fun j p hj => ?_⟩⟩, fun x hx => by
    obtain ⟨j, hj, rfl⟩ := List.mem_map.1 hx
    exact (hf j (List.mem_range.1 hj)).1⟩
  rw [List.getElem?_map] at hj
  have hjl : j < len := by
    rcases Nat.lt_or_ge j len with h | h
    · exact h
    · rw [List.getElem?_eq_none (by simpa using h)] at hj; cases hj
  rw [List.getElem?_range hjl] at hj
  injection hj with hj
  subst hj
  exact (hf j hjl).2
theorem wf_u64 {n : Int} (h : (Lit.int .u64 n).wf = true) : 0 ≤ n ∧ n ≤ 18446744073709551615 := by
  have h2 : (decide ((IntKind.u64).min ≤ n) && decide (n ≤ (IntKind.u64).max)) = true := h
  rw [Bool.and_eq_true, decide_eq_true_eq, decide_eq_true_eq, show (IntKind.u64).min = 0 from rfl, show (IntKind.u64).max = 18446744073709551615 from rfl] at h2
  exact h2
set_option maxRecDepth 100000 in
theorem opensQ39 : OpensQ Try.prog k39 39 wfN := by
  intro H enc W n cs x h
  obtain ⟨y0, y1, m, rfl, hl, t0, t1⟩ := Go.ChangeShapes.trod_struct2 Try.underlying39 h
  rw [cells39] at hl
  match cs, hl with
  | [a, b, c, d], _ =>
    simp only [cells35, cells37, List.drop, List.take] at t0 t1
    obtain ⟨i, e0, _, wi⟩ := DataW.trod_int Try.underlying35 t0
    obtain ⟨y, hy⟩ := opens37 _ _ _ _ _ _ t1
    have e1 := k37_open hy
    injection e0 with e0; injection e1 with e1 e2; injection e2 with e2 e3; injection e3 with e3
    subst e0 e1 e2 e3
    exact ⟨⟨i, y⟩, k39_mk W ⟨i, y⟩, wf_u64 wi⟩
set_option maxRecDepth 100000 in
theorem openQ_row {α : Type} {d : Kd α} {t e : TypeId} (ht : Try.prog.underlying t = some (.slice e)) (hs : Try.prog.cellsOf e = d.sz) {Q : α → Prop} (he : OpensQ Try.prog d e Q) (z : α) {H : Type} {enc : TypeId × Value → H} {W : World} {base : Nat} {v : Value} {x : DataW H} {p : List MemPlace} (hv : Value.okWide Try.prog W .any base t v) (h : DataW.Trod enc Try.prog W 0 (fun _ => true) true t v x p) :
    ∃ (l : List α) (A : Option Addr) (c : Nat), v = .slice A l.length c ∧ l.length ≤ c ∧ d.C W A l.length l ∧ ∀ x ∈ l, Q x := by
  obtain ⟨a, n, c, rfl⟩ := Go.WideShapes.okWide_slice ht hv
  obtain ⟨m, hm⟩ := h
  obtain ⟨l, A, c', e, hle, hC, hQ⟩ := opensQ_C ht hs he z H enc W m _ _ hm
  refine ⟨l, A, c', ?_, hle, hC, hQ⟩
  simpa [Value.cells] using e
set_option maxRecDepth 100000 in
theorem openQ_notes {H : Type} {enc : TypeId × Value → H} {W : World} {base : Nat} {v : Value} {x : DataW H} {p : List MemPlace} (hv : Value.okWide Try.prog W .any base 22 v) (h : DataW.Trod enc Try.prog W 0 (fun _ => true) true 22 v x p) :
    ∃ (l : List S39) (A : Option Addr) (c : Nat), v = .slice A l.length c ∧ l.length ≤ c ∧ Kd.C k39 W A l.length l ∧ ∀ n ∈ l, wfN n := openQ_row Try.underlying22 cells39 opensQ39 z39 hv h
end Go.Proofs.Ytipahpkdddijmaa.Q

-- LawLays
namespace Go.Proofs.Ytipahpkdddijmaa.changeLays
open Go.ChangeShapes Go.WideShapes Go.ChangeAt Go.RowKit
open Go.ChangeMaps (open_string shut_string)
set_option linter.unusedVariables false

theorem ownChangeLays : ownKnob Try.prog.godebug = none := by kernel_rfl
theorem laidOutChangeLays : laidOutB Try.prog = true := by kernel_rfl
set_option maxRecDepth 100000 in
theorem lifted (os : Os) (started : os.Started) (H : Type) (enc : TypeId × Value → H) :
    ReturnsInHanded {} Try.checked os 3 .any (Rows.changeLaysSpec.pre6 enc Try.prog Try.f3 Rows.changeLaysRow.domain false) (Rows.changeLaysSpec.post enc Try.prog Try.f3 false true false false) := by
  refine returnsInHanded_of_change_sized (C := Try.checked) ownChangeLays started (by kernel_rfl) Try.func3
    (ChangeSpec.witness6 (enc := enc) (C := Try.checked) false ⟨#[], #[.slice none 0 0, .string ByteArray.empty], []⟩ 8 (by kernel_rfl) (by kernel_rfl) (by kernel_rfl) (by kernel_rfl)) ?_
  intro W base args ds gs before hval0 hW hcnd hsz0 _
  have hval : ∀ (j : Nat) t v, Try.f3.params[j]? = some t → args[j]? = some v → Value.okWide Try.prog W .any base t v := hval0
  have hW' := hW
  obtain ⟨p, q, hA0, hV, rfl, hfz, hnd⟩ := hW
  have hA : DataW.TrodAll enc Try.prog W 0 (fun _ => true) true Try.f3.params.toList args.toList ds p := hA0
  rw [Try.params3] at hA hval
  obtain ⟨v0, vs0, d0, ds0, p0, q0, hargs, rfl, rfl, h0, r0⟩ := trodAll_cons hA
  obtain ⟨v1, vs1, d1, ds1, p1, q1, rfl, rfl, rfl, h1, r1⟩ := trodAll_cons r0
  obtain ⟨rfl, rfl, rfl⟩ := trodAll_nil r1
  obtain rfl : args = #[v0, v1] := by cases args; simp_all
  obtain ⟨rfl, rfl⟩ := trodVars_none hV
  have k0 := h0
  have lt0 : ∀ x ∈ p0, x.block < W.heap.size := by obtain ⟨m, hm⟩ := k0; exact DataW.trod_lt m _ _ _ hm
  obtain ⟨l_0, A_0, c_0, rfl, hl_0, hC_0, hw_0⟩ := Q.openQ_notes (hval 0 22 v0 rfl rfl) h0
  obtain ⟨s_1, rfl, rfl, rfl, z_1⟩ := open_string Try.underlying9 (hval 1 9 v1 rfl rfl) h1
  clear hA0 hval0 hsz0
  refine (Q.lays.answers A_0 c_0 l_0 s_1 W hC_0 hl_0 hw_0).mono fun e W' ⟨he, bel⟩ => ?_
  subst he
  exact ⟨_, rfl, _, _, _, [], _, [], hW', trodAll_mk1 (shut_bool Try.underlying4 _), (trodAll_cons_mk (Below.trod laidOutChangeLays (by kernel_rfl) (of_decide_eq_true (by kernel_rfl)) k0 bel lt0) (trodAll_cons_mk (shut_string Try.underlying9 z_1) trodAll_mk0)), rfl, bel.frame _, fun h => by cases h⟩
theorem over : Rows.changeLaysRow.holds Try.pinned (OpenSpec.ofChange Rows.changeLaysSpec) :=
  OpenClaim.holds_of_wide 3 Try.f3 rfl rfl rfl rfl rfl rfl rfl ⟨rfl, rfl, rfl, rfl, rfl⟩ rfl rfl rfl rfl rfl (by kernel_rfl) Try.func3 (by kernel_rfl)
    (of_decide_eq_true (by kernel_rfl)) (by unfold Func.isWrapper; first | (rw [if_pos (by decide +kernel)]; kernel_rfl) | (rw [if_neg (by decide +kernel)]; exact ⟨rfl, rfl⟩))
    (fun os started H enc _ => lifted os started H enc)
end Go.Proofs.Ytipahpkdddijmaa.changeLays
namespace Go.Proofs.Ytipahpkdddijmaa
open Go
/-- The row. -/
theorem changeLays_holds : Rows.ChangeLaysSaid := changeLays.over
#print axioms changeLays_holds
end Go.Proofs.Ytipahpkdddijmaa
