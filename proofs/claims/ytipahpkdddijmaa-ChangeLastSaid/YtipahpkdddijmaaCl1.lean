/- The law ChangeLast returns true for every input that its row lets in, under the row's own conditions and no others. -/
import Derived.Test.YtipahpkdddijmaaCd2
import Derived.Test.YtipahpkdddijmaaCl0
import Derived.Test.YtipahpkdddijmaaProg
import Derived.Below
import Derived.Deep.Draws
import Derived.Deep.AppendLies
import Derived.Maps.AppendAt
import Derived.OwnWalk
import Derived.Laws.BytesArg
import Derived.Laws.MakeOwn
import Derived.Laws.OwnMore
import Derived.Deep.OwnRows
import Derived.Tactics
import Derived.Lib.ConvBytes
import Derived.Laws.Slices
import Derived.WalkKit
import Derived.KernelRfl
import Derived.RowKit3
import Derived.Deep.LoopGhost
import Derived.Deep.QuietTactic
import Derived.BigQuiet
import Derived.WideLaws
import Derived.Deep.DeepCutAuto
import Derived.Deep.CutBlock
import Derived.Deep.RegionHeld3
import Derived.Laws.Rows
import Derived.Lib.AppendStr
import Derived.ArgAppend
import Derived.Laws.IdiomCopy
import Derived.OrdersHeld
import Derived.Laws.BitsLemmas
import Derived.RowKit
import Derived.Laws.StructEq
import Derived.Maps.OwnSet
import Derived.Maps.RangeWalk
import Derived.Lib.BufferMore
import Derived.Lib.Bytealg
import Derived.Shelf.SlSortCmp.WholeK
import Derived.Shelf.Strings.Builder1
import Derived.Shelf.Small.Bits
import Derived.Shelf.Small.Strs
import Derived.Shelf.Strings.BuilderF
import Derived.Shelf.Strconv.Itoa0
import Derived.Shelf.SlSortCmp.QuietGrown
import Derived.Laws.CopyOwn
import Derived.Lib.Overlaps
import Derived.Deep.RegionLaw
import Derived.Lib.Builder
import Derived.Deep.DeepMust
import Derived.ProofKit
import Derived.Deep.Strs
import Derived.Test.YtipahpkdddijmaaRows
import Derived.OpenShut
import Derived.ShutString
import Derived.ChangeOld
import Derived.SizedLaws
-- L2
namespace Go.Proofs.Ytipahpkdddijmaa.Q
open Go.RowKit Go.Proofs.YtipahpkdddijmaaW.PrintWords Go.Proofs.YtipahpkdddijmaaW.PrintLast Go.Proofs.YtipahpkdddijmaaW.PrintMore
attribute [local go_sem] max2_int min2_int max_two min_two max_three min_three max_four min_four   -- for this text's walks alone
set_option linter.unusedVariables false
set_option linter.unusedSimpArgs false

mutual
def cellarerlaw12_ChangeLast.l0 : Nat → List (S39) → Int → List (S39) → Bool → Int → ByteArray → ByteArray → Bool → Option (Bool)
  | 0, _, _, _, _, _, _, _, _ => none
  | k + 1, x0, x5, x6, x7, x8, x229000, x229001, x229002 => if x8 < (x0.length : Int) then (if 0 ≤ x8 then (if ((rd_T39 x0 x8).f0) > x5 then (some false) else (cellarerlaw12_ChangeLast.l0 k x0 x5 x6 x7 (wrap64 (x8 + 1)) x229000 x229001 x229002)) else (none)) else (cellarerlaw12_ChangeLast.l1 k x0 x5 x6 x7 0 x229000 x229001 x229002)
def cellarerlaw12_ChangeLast.l1 : Nat → List (S39) → Int → List (S39) → Bool → Int → ByteArray → ByteArray → Bool → Option (Bool)
  | 0, _, _, _, _, _, _, _, _ => none
  | k + 1, x0, x5, x6, x7, x9, x229000, x229001, x229002 => if x9 < (x6.length : Int) then (if x7 = true then (cellarerlaw12_ChangeLast.l1 k x0 x5 x6 true (wrap64 (x9 + 1)) x229000 x229001 x229002) else (if 0 ≤ x9 then (cellarerlaw12_ChangeLast.l1 k x0 x5 x6 (((rd_T39 x6 x9).f0) == x5) (wrap64 (x9 + 1)) x229000 x229001 x229002) else (none))) else (if x7 = true then (cellarerlaw12_ChangeLast.j2 k x0 x5 x7 (x5 == 18446744073709551615) x229000 x229001 x229002) else (cellarerlaw12_ChangeLast.j2 k x0 x5 x7 true x229000 x229001 x229002))
def cellarerlaw12_ChangeLast.j2 : Nat → List (S39) → Int → Bool → Bool → ByteArray → ByteArray → Bool → Option (Bool)
  | 0, _, _, _, _, _, _, _ => none
  | k + 1, x0, x5, x7, x56, x229000, x229001, x229002 => if x56 = true then (if x7 = true then ((cellarerlaw12_awake.f).bind fun t238 => (some t238)) else (some false)) else ((some (([] : List (S39)) : List (S39))).bind fun y240 => (if y240.length + x0.length < 2932031007402 then ((some (y240 ++ x0 : List (S39))).bind fun y243 => ((some (([(⟨IntKind.u64.wrap (x5 + 1), (⟨x229000, x229001, x229002⟩ : S37)⟩ : S39)] : List (S39)) : List (S39))).bind fun y246 => (if y243.length + y246.length < 2932031007402 then ((change_Live.f (y243 ++ y246) x0).bind fun t252 => (cellarerlaw12_ChangeLast.l2 k t252 0 x229000 x229001 x229002)) else (none)))) else (none)))
def cellarerlaw12_ChangeLast.l2 : Nat → List (S39) → Int → ByteArray → ByteArray → Bool → Option (Bool)
  | 0, _, _, _, _, _ => none
  | k + 1, x11, x12, x229000, x229001, x229002 => if x12 < (x11.length : Int) then (if 0 ≤ x12 then (if ((rd_T39 x11 x12).f1.f0).toList = x229000.toList then (some false) else (cellarerlaw12_ChangeLast.l2 k x11 (wrap64 (x12 + 1)) x229000 x229001 x229002)) else (none)) else ((cellarerlaw12_awake.f).bind fun t256 => (some t256))
end
def cellarerlaw12_ChangeLast.f (k : Nat) (l0 : List (S39)) (a1_0 : ByteArray) (a1_1 : ByteArray) (a1_2 : Bool) : Option (Bool) := (cellarerlaw12_Few.f l0).bind fun t229 => ((change_Last.f t229).bind fun t232 => ((change_Count.f t229).bind fun t233 => (cellarerlaw12_ChangeLast.l0 k t229 t232 t233 ((t229.length : Int) == 0) 0 a1_0 a1_1 a1_2)))
theorem cellarerlaw12_ChangeLast.mono_l : ∀ k, (∀ y0 y1 y2 y3 y4 y5 y6 y7, LeO (cellarerlaw12_ChangeLast.l0 k y0 y1 y2 y3 y4 y5 y6 y7) (cellarerlaw12_ChangeLast.l0 (k + 1) y0 y1 y2 y3 y4 y5 y6 y7)) ∧ (∀ y0 y1 y2 y3 y4 y5 y6 y7, LeO (cellarerlaw12_ChangeLast.l1 k y0 y1 y2 y3 y4 y5 y6 y7) (cellarerlaw12_ChangeLast.l1 (k + 1) y0 y1 y2 y3 y4 y5 y6 y7)) ∧ (∀ y0 y1 y2 y3 y4 y5 y6, LeO (cellarerlaw12_ChangeLast.j2 k y0 y1 y2 y3 y4 y5 y6) (cellarerlaw12_ChangeLast.j2 (k + 1) y0 y1 y2 y3 y4 y5 y6)) ∧ (∀ y0 y1 y2 y3 y4, LeO (cellarerlaw12_ChangeLast.l2 k y0 y1 y2 y3 y4) (cellarerlaw12_ChangeLast.l2 (k + 1) y0 y1 y2 y3 y4))
  | 0 => ⟨fun _ _ _ _ _ _ _ _ r h => by simp [cellarerlaw12_ChangeLast.l0] at h, fun _ _ _ _ _ _ _ _ r h => by simp [cellarerlaw12_ChangeLast.l1] at h, fun _ _ _ _ _ _ _ r h => by simp [cellarerlaw12_ChangeLast.j2] at h, fun _ _ _ _ _ r h => by simp [cellarerlaw12_ChangeLast.l2] at h⟩
  | k + 1 => by
    obtain ⟨ih0, ih1, ih2, ih3⟩ := cellarerlaw12_ChangeLast.mono_l k
    refine ⟨?_, ?_, ?_, ?_⟩
    · intro y0 y1 y2 y3 y4 y5 y6 y7
      unfold cellarerlaw12_ChangeLast.l0
      repeat' first
      | (with_reducible exact ih0 _ _ _ _ _ _ _ _)
      | (with_reducible exact ih1 _ _ _ _ _ _ _ _)
      | (with_reducible exact ih2 _ _ _ _ _ _ _)
      | (with_reducible exact ih3 _ _ _ _ _)
      | (with_reducible exact LeO.refl _)
      | (with_reducible exact LeO.none _)
      | (with_reducible refine LeO.ite ?_ ?_)
      | (with_reducible refine LeO.bind ?_ (fun _ => ?_))
      | exact ih0 _ _ _ _ _ _ _ _
      | exact ih1 _ _ _ _ _ _ _ _
      | exact ih2 _ _ _ _ _ _ _
      | exact ih3 _ _ _ _ _
      | exact LeO.none _
      | refine LeO.ite ?_ ?_
      | refine LeO.bind ?_ (fun _ => ?_)
    · intro y0 y1 y2 y3 y4 y5 y6 y7
      unfold cellarerlaw12_ChangeLast.l1
      repeat' first
      | (with_reducible exact ih0 _ _ _ _ _ _ _ _)
      | (with_reducible exact ih1 _ _ _ _ _ _ _ _)
      | (with_reducible exact ih2 _ _ _ _ _ _ _)
      | (with_reducible exact ih3 _ _ _ _ _)
      | (with_reducible exact LeO.refl _)
      | (with_reducible exact LeO.none _)
      | (with_reducible refine LeO.ite ?_ ?_)
      | (with_reducible refine LeO.bind ?_ (fun _ => ?_))
      | exact ih0 _ _ _ _ _ _ _ _
      | exact ih1 _ _ _ _ _ _ _ _
      | exact ih2 _ _ _ _ _ _ _
      | exact ih3 _ _ _ _ _
      | exact LeO.none _
      | refine LeO.ite ?_ ?_
      | refine LeO.bind ?_ (fun _ => ?_)
    · intro y0 y1 y2 y3 y4 y5 y6
      unfold cellarerlaw12_ChangeLast.j2
      repeat' first
      | (with_reducible exact ih0 _ _ _ _ _ _ _ _)
      | (with_reducible exact ih1 _ _ _ _ _ _ _ _)
      | (with_reducible exact ih2 _ _ _ _ _ _ _)
      | (with_reducible exact ih3 _ _ _ _ _)
      | (with_reducible exact LeO.refl _)
      | (with_reducible exact LeO.none _)
      | (with_reducible refine LeO.ite ?_ ?_)
      | (with_reducible refine LeO.bind ?_ (fun _ => ?_))
      | exact ih0 _ _ _ _ _ _ _ _
      | exact ih1 _ _ _ _ _ _ _ _
      | exact ih2 _ _ _ _ _ _ _
      | exact ih3 _ _ _ _ _
      | exact LeO.none _
      | refine LeO.ite ?_ ?_
      | refine LeO.bind ?_ (fun _ => ?_)
    · intro y0 y1 y2 y3 y4
      unfold cellarerlaw12_ChangeLast.l2
      repeat' first
      | (with_reducible exact ih0 _ _ _ _ _ _ _ _)
      | (with_reducible exact ih1 _ _ _ _ _ _ _ _)
      | (with_reducible exact ih2 _ _ _ _ _ _ _)
      | (with_reducible exact ih3 _ _ _ _ _)
      | (with_reducible exact LeO.refl _)
      | (with_reducible exact LeO.none _)
      | (with_reducible refine LeO.ite ?_ ?_)
      | (with_reducible refine LeO.bind ?_ (fun _ => ?_))
      | exact ih0 _ _ _ _ _ _ _ _
      | exact ih1 _ _ _ _ _ _ _ _
      | exact ih2 _ _ _ _ _ _ _
      | exact ih3 _ _ _ _ _
      | exact LeO.none _
      | refine LeO.ite ?_ ?_
      | refine LeO.bind ?_ (fun _ => ?_)
theorem cellarerlaw12_ChangeLast.mono : ∀ a0 a1 a2 a3 k, LeO (cellarerlaw12_ChangeLast.f k a0 a1 a2 a3) (cellarerlaw12_ChangeLast.f (k + 1) a0 a1 a2 a3) := by
  intro a0 a1 a2 a3 k
  obtain ⟨ih0, ih1, ih2, ih3⟩ := cellarerlaw12_ChangeLast.mono_l k
  unfold cellarerlaw12_ChangeLast.f
  repeat' first
      | (with_reducible exact ih0 _ _ _ _ _ _ _ _)
      | (with_reducible exact ih1 _ _ _ _ _ _ _ _)
      | (with_reducible exact ih2 _ _ _ _ _ _ _)
      | (with_reducible exact ih3 _ _ _ _ _)
      | (with_reducible exact LeO.refl _)
      | (with_reducible exact LeO.none _)
      | (with_reducible refine LeO.ite ?_ ?_)
      | (with_reducible refine LeO.bind ?_ (fun _ => ?_))
      | exact ih0 _ _ _ _ _ _ _ _
      | exact ih1 _ _ _ _ _ _ _ _
      | exact ih2 _ _ _ _ _ _ _
      | exact ih3 _ _ _ _ _
      | exact LeO.none _
      | refine LeO.ite ?_ ?_
      | refine LeO.bind ?_ (fun _ => ?_)
def cellarerlaw12_ChangeLast.T17 : Bool × List (List Nat × List Nat) := (true, [([], []), ([], []), ([0, 1], [0, 1]), ([], []), ([3], [3]), ([2, 4, 2], [2, 4]), ([], []), ([5, 6, 5], [5, 6]), ([7, 7, 0, 1, 2, 3, 4, 5, 6, 7], [7])])
def cellarerlaw12_ChangeLast.B17 : List Nat := [0, 0, 3, 0, 8, 31, 0, 127, 255]
theorem cellarerlaw12_ChangeLast.tab17 : rtab .any (opsOf Try.f7 17) = cellarerlaw12_ChangeLast.T17 := by kernel_rfl
theorem cellarerlaw12_ChangeLast.bits17 : waitsOk cellarerlaw12_ChangeLast.T17.2 cellarerlaw12_ChangeLast.B17 = true := by kernel_rfl
def cellarerlaw12_ChangeLast.T21 : Bool × List (List Nat × List Nat) := (true, [([], []), ([], []), ([0, 1], [0, 1]), ([2], [2]), ([3], [3]), ([4], [4]), ([], []), ([6], [6]), ([5, 7], [5, 7])])
def cellarerlaw12_ChangeLast.B21 : List Nat := [0, 0, 3, 7, 15, 31, 0, 64, 255]
theorem cellarerlaw12_ChangeLast.tab21 : rtab .any (opsOf Try.f7 21) = cellarerlaw12_ChangeLast.T21 := by kernel_rfl
theorem cellarerlaw12_ChangeLast.bits21 : waitsOk cellarerlaw12_ChangeLast.T21.2 cellarerlaw12_ChangeLast.B21 = true := by kernel_rfl
set_option maxHeartbeats 8000000 in
set_option maxRecDepth 100000 in
theorem cellarerlaw12_ChangeLast.calls (k : Nat) (A0 : Option Addr) (c0 : Nat) (l0 : List (S39)) (a1_0 : ByteArray) (a1_1 : ByteArray) (a1_2 : Bool) (r : Bool) (w : World) (hr0 : Kd.C k39 w A0 l0.length l0) (hc0 : l0.length ≤ c0) (h : cellarerlaw12_ChangeLast.f k l0 a1_0 a1_1 a1_2 = some r) :
    Calls Try.prog 7 #[.slice A0 l0.length c0, .agg #[.string a1_0, .string a1_1, .bool a1_2]] w fun e w' => e = .returned (.bool r) ∧ Below w.heap.size w w' := by
  have hu37 := Try.underlying37
  have hu39 := Try.underlying39
  have HR0 := Aside0.mk hr0
  have HC0 := Aside0.mk hc0
  clear hr0 hc0
  have HB := Aside0.mk (Below.refl w.heap.size w)
  have H : ((cellarerlaw12_Few.f l0).bind fun t229 => ((change_Last.f t229).bind fun t232 => ((change_Count.f t229).bind fun t233 => (cellarerlaw12_ChangeLast.l0 k t229 t232 t233 ((t229.length : Int) == 0) 0 a1_0 a1_1 a1_2)))) = some r := h
  clear h
  replace H := Option.bind_eq_some_iff.mp H
  obtain ⟨t229, A30, H⟩ := H
  replace H : ((change_Last.f t229).bind fun t232 => ((change_Count.f t229).bind fun t233 => (cellarerlaw12_ChangeLast.l0 k t229 t232 t233 ((t229.length : Int) == 0) 0 a1_0 a1_1 a1_2))) = some r := H
  have A3 := Aside0.mk A30
  clear A30
  replace H := Option.bind_eq_some_iff.mp H
  obtain ⟨t232, A40, H⟩ := H
  replace H : ((change_Count.f t229).bind fun t233 => (cellarerlaw12_ChangeLast.l0 k t229 t232 t233 ((t229.length : Int) == 0) 0 a1_0 a1_1 a1_2)) = some r := H
  have A4 := Aside0.mk A40
  clear A40
  replace H := Option.bind_eq_some_iff.mp H
  obtain ⟨t233, A50, H⟩ := H
  replace H : (cellarerlaw12_ChangeLast.l0 k t229 t232 t233 ((t229.length : Int) == 0) 0 a1_0 a1_1 a1_2) = some r := H
  have A5 := Aside0.mk A50
  clear A50
  have H' := Aside0.mk H
  clear H
  go_enter Try.func7, Try.ntmps7
  go_wp2_with (first | ((with_reducible refine gate_dst (N := 3) rfl ?_); refine box_event ?hg (N := 3) ?hd (cs := #[.string a1_0, .string a1_1, .bool a1_2]) (t := 37) ?hr ?_; (case hd => rfl); (case hg => rfl); (case hr => first | (go_simp; done) | (go_simp; rfl)); intro gb228 hg w6 hbox hb; have n0_ := Aside0.mk (below_step (by repeat (first | (with_reducible first | exact HB.out | apply below_alloc | apply pw_below_drewN | apply below_drew1) | exact HB.out)) hb); have n1_ := Aside0.mk (hbox); have n2_ := Aside0.mk ((by rw [hg]; exact (below_size (by repeat (first | (with_reducible first | exact HB.out | apply below_alloc | apply pw_below_drewN | apply below_drew1) | exact HB.out))) : w.heap.size ≤ gb228)); have n3_ := Aside0.mk ((by rw [hg]; exact (below_size (by repeat (first | (with_reducible first | exact HB.out | apply below_alloc | apply pw_below_drewN | apply below_drew1) | exact HB.out))) : w.heap.size ≤ gb228)); clear HB; have HB := n0_; have BK228 := n1_; have GW228 := n2_; have GE228 := n3_; clear n0_ n1_ n2_ n3_; clear hb hbox hg) | ((with_reducible refine gate_callee (f := 10) rfl ?_); refine goesL_ (some 14) rfl rfl Try.func10 (by kernel_rfl) rfl #[.slice A0 l0.length c0] rfl (by (try simp only [List.map_toArray, List.map_cons, List.map_nil]); first | done | rfl | (simp only [List.length_drop, List.length_take]; rfl)) ?_; (with_reducible refine (cellarerlaw12_Few.calls _ _ l0 t229 _ ?side1 ?side2 A3.out).mono ?_); (case side1 => repeat (first | exact (Kd.C_below HR0.out HB.out) | (with_reducible refine Kd.C_alloc ?_ _) | (with_reducible refine Kd.C_drewN ?_ _) | (with_reducible refine Kd.C_drew ?_))); (case side2 => exact HC0.out); rintro e w7 ⟨v230, rfl, ho0, hb⟩; refine ⟨_, rfl, ?_⟩; have n0_ := Aside0.mk (Kd.R_lower ho0 (below_size (by repeat (first | (with_reducible first | exact HB.out | apply below_alloc | apply pw_below_drewN | apply below_drew1 | refine below_set ?_ GE228.out) | exact HB.out)))); have n1_ := Aside0.mk (blk_below (g := gb228) (o := .cells #[.string a1_0, .string a1_1, .bool a1_2] 37 (0, 0)) (by (with_reducible repeat (first | refine blk_drewN ?_ _ | refine blk_drew ?_ | refine blk_alloc ?_ _)); exact BK228.out) hb); have n2_ := Aside0.mk (below_step (by repeat (first | (with_reducible first | exact HB.out | apply below_alloc | apply pw_below_drewN | apply below_drew1 | refine below_set ?_ GE228.out) | exact HB.out)) hb); clear BK228; clear HB; have HO231 := n0_; have BK228 := n1_; have HB := n2_; clear n0_ n1_ n2_; (try clear hb); (try clear hb2); (try clear hk); (try clear hi); (try clear ho0); obtain ⟨Ao8, co8, eo8⟩ := Kd.R_slice HO231.out; subst eo8) | ((with_reducible refine gate_callee (f := 23) rfl ?_); refine goesL_ (some 16) rfl rfl Try.func23 (by kernel_rfl) rfl #[.slice Ao8 t229.length co8] rfl (by (try simp only [List.map_toArray, List.map_cons, List.map_nil]); first | done | rfl | (simp only [List.length_drop, List.length_take]; rfl)) ?_; (with_reducible refine (change_Last.calls _ _ t229 t232 _ ?side1 ?side2 A4.out).mono ?_); (case side1 => repeat (first | exact (Kd.R_reads' HO231.out).2.2 | (with_reducible refine Kd.C_alloc ?_ _) | (with_reducible refine Kd.C_drewN ?_ _) | (with_reducible refine Kd.C_drew ?_))); (case side2 => exact (Kd.R_reads' HO231.out).2.1); rintro e w9 ⟨rfl, hb⟩; refine ⟨_, rfl, ?_⟩; have n0_ := Aside0.mk (Kd.R_below (by (with_reducible repeat (first | apply Kd.R_alloc | apply Kd.R_drewN | apply Kd.R_drew)); exact HO231.out) hb); have n1_ := Aside0.mk (blk_below (g := gb228) (o := .cells #[.string a1_0, .string a1_1, .bool a1_2] 37 (0, 0)) (by (with_reducible repeat (first | refine blk_drewN ?_ _ | refine blk_drew ?_ | refine blk_alloc ?_ _)); exact BK228.out) hb); have n2_ := Aside0.mk (below_step (by repeat (first | (with_reducible first | exact HB.out | apply below_alloc | apply pw_below_drewN | apply below_drew1 | refine below_set ?_ GE228.out) | exact HB.out)) hb); clear HO231; clear BK228; clear HB; have HO231 := n0_; have BK228 := n1_; have HB := n2_; clear n0_ n1_ n2_; (try clear hb); (try clear hb2); (try clear hk); (try clear hi)) | ((with_reducible refine gate_callee (f := 19) rfl ?_); refine goesL_ (some 18) rfl rfl Try.func19 (by kernel_rfl) rfl #[.slice Ao8 t229.length co8] rfl (by (try simp only [List.map_toArray, List.map_cons, List.map_nil]); first | done | rfl | (simp only [List.length_drop, List.length_take]; rfl)) ?_; (with_reducible refine (change_Count.calls _ _ t229 t233 _ ?side1 ?side2 A5.out).mono ?_); (case side1 => repeat (first | exact (Kd.R_reads' HO231.out).2.2 | (with_reducible refine Kd.C_alloc ?_ _) | (with_reducible refine Kd.C_drewN ?_ _) | (with_reducible refine Kd.C_drew ?_))); (case side2 => exact (Kd.R_reads' HO231.out).2.1); rintro e w10 ⟨v234, rfl, ho0, hb⟩; refine ⟨_, rfl, ?_⟩; have n0_ := Aside0.mk (Kd.R_elder' (by (with_reducible repeat (first | apply Kd.R_alloc | apply Kd.R_drewN | apply Kd.R_drew)); exact HO231.out) (Kd.R_base ho0) hb); have n1_ := Aside0.mk (Kd.R_lower (Kd.R_new' ho0 (Kd.R_lt (by (with_reducible repeat (first | apply Kd.R_alloc | apply Kd.R_drewN | apply Kd.R_drew)); exact HO231.out))) (below_size (by repeat (first | (with_reducible first | exact HB.out | apply below_alloc | apply pw_below_drewN | apply below_drew1 | refine below_set ?_ GE228.out) | exact HB.out)))); have n2_ := Aside0.mk (blk_below (g := gb228) (o := .cells #[.string a1_0, .string a1_1, .bool a1_2] 37 (0, 0)) (by (with_reducible repeat (first | refine blk_drewN ?_ _ | refine blk_drew ?_ | refine blk_alloc ?_ _)); exact BK228.out) hb); have n3_ := Aside0.mk (below_step (by repeat (first | (with_reducible first | exact HB.out | apply below_alloc | apply pw_below_drewN | apply below_drew1 | refine below_set ?_ GE228.out) | exact HB.out)) hb); clear HO231; clear BK228; clear HB; have HO231 := n0_; have HO235 := n1_; have BK228 := n2_; have HB := n3_; clear n0_ n1_ n2_ n3_; (try clear hb); (try clear hb2); (try clear hk); (try clear hi); (try clear ho0)))
  go_loopg [8] k (fun kq v8 w' => ∃ (x8_1 : Int), v8 = .int .i64 x8_1 ∧ Aside0 (cellarerlaw12_ChangeLast.l0 kq t229 t232 t233 ((t229.length : Int) == 0) x8_1 a1_0 a1_1 a1_2 = some r) ∧ Aside0 (kq ≤ k) ∧ Aside0 (Kd.R k39 39 w' w.heap.size (fun k_ => some k_ ≠ (v234 : Value).ownBlock) (.slice Ao8 t229.length co8) t229) ∧ Aside0 (Kd.R k39 39 w' w.heap.size (fun k_ => some k_ ≠ ((.slice Ao8 t229.length co8) : Value).ownBlock) v234 t233) ∧ Aside0 (w'.heap[gb228]? = some (.cells #[.string a1_0, .string a1_1, .bool a1_2] 37 (0, 0))) ∧ Aside0 (Below w.heap.size w w'))
  case atStart => exact ⟨(0), (by first | rfl | (simp; done) | (simp [*]; done)), H', ⟨Nat.le_refl _⟩, ⟨by (with_reducible repeat (first | apply Kd.R_alloc | apply Kd.R_drewN | apply Kd.R_drew)); exact Kd.R_mono HO231.out (fun _ hk => hk.2)⟩, ⟨by (with_reducible repeat (first | apply Kd.R_alloc | apply Kd.R_drewN | apply Kd.R_drew)); exact Kd.R_mono HO235.out (fun _ hk => hk.2)⟩, ⟨by (with_reducible repeat (first | refine blk_drewN ?_ _ | refine blk_drew ?_ | refine blk_alloc ?_ _)); exact BK228.out⟩, ⟨by repeat (first | (with_reducible first | exact HB.out | apply below_alloc | apply pw_below_drewN | apply below_drew1 | refine below_set ?_ GE228.out) | exact HB.out)⟩⟩
  case round =>
    clear H'
    try clear c1
    try clear c2
    try clear p2
    try clear c7
    try clear c10
    obtain ⟨x8_1, rfl, HA, HK1, HO_0, HO_6, BK228, HB⟩ := hrel
    cases gk with
    | zero => exact absurd HA.out (by simp [cellarerlaw12_ChangeLast.l0])
    | succ k1 =>
      have H := HA.out
      clear HA
      simp only [cellarerlaw12_ChangeLast.l0] at H
      by_cases c11 : x8_1 < (t229.length : Int)
      · rw [if_pos c11] at H
        have c11b0 : decide (x8_1 < (t229.length : Int)) = true := decide_eq_true c11
        clear c11
        by_cases c12 : 0 ≤ x8_1
        · rw [if_pos c12] at H
          have c12b0 : decide (0 ≤ x8_1) = true := decide_eq_true c12
          clear c12
          by_cases c13 : ((rd_T39 t229 x8_1).f0) > t232
          · rw [if_pos c13] at H
            have c13b0 : decide (t232 < ((rd_T39 t229 x8_1).f0)) = true := decide_eq_true c13
            clear c13
            obtain rfl := Option.some.inj H
            have p236 : 0 ≤ (x8_1 : Int) := of_decide_eq_true (by first | (with_reducible assumption) | assumption)
            have q236 : x8_1 < (t229.length : Int) := of_decide_eq_true (by first | (with_reducible assumption) | assumption)
            obtain ⟨ad236, e236, hx236_0, hx236_1, hx236_2, hx236_3⟩ := at_T39 (Kd.R_reads' HO_0.out).2.2 x8_1 p236 q236
            cases e236
            replace p236 := eq_true p236
            replace q236 := eq_true q236
            go_wp2
            go_ret
            exact ⟨by first | rfl | (simp [errW_none, errW_some] <;> rfl) | (simp [*, errW_none, errW_some] <;> rfl), by repeat (first | (with_reducible first | exact HB.out | apply below_alloc | apply pw_below_drewN | apply below_drew1 | refine below_set ?_ GE228.out) | exact HB.out)⟩
          · rw [if_neg c13] at H
            have c13b0 : decide (t232 < ((rd_T39 t229 x8_1).f0)) = false := decide_eq_false c13
            clear c13
            have H' := Aside0.mk H
            clear H
            have p236 : 0 ≤ (x8_1 : Int) := of_decide_eq_true (by first | (with_reducible assumption) | assumption)
            have q236 : x8_1 < (t229.length : Int) := of_decide_eq_true (by first | (with_reducible assumption) | assumption)
            obtain ⟨ad236, e236, hx236_0, hx236_1, hx236_2, hx236_3⟩ := at_T39 (Kd.R_reads' HO_0.out).2.2 x8_1 p236 q236
            cases e236
            replace p236 := eq_true p236
            replace q236 := eq_true q236
            go_wp2
            go_roundg k1
            case measure => have := HK1.out; omega
            case rel => exact ⟨(wrap64 (x8_1 + 1)), (by first | rfl | (simp; done) | (simp [*]; done)), H', ⟨by have := HK1.out; omega⟩, ⟨by (with_reducible repeat (first | apply Kd.R_alloc | apply Kd.R_drewN | apply Kd.R_drew)); exact HO_0.out⟩, ⟨by (with_reducible repeat (first | apply Kd.R_alloc | apply Kd.R_drewN | apply Kd.R_drew)); exact HO_6.out⟩, ⟨by (with_reducible repeat (first | refine blk_drewN ?_ _ | refine blk_drew ?_ | refine blk_alloc ?_ _)); exact BK228.out⟩, ⟨by repeat (first | (with_reducible first | exact HB.out | apply below_alloc | apply pw_below_drewN | apply below_drew1 | refine below_set ?_ GE228.out) | exact HB.out)⟩⟩
        · rw [if_neg c12] at H
          exact absurd H (by simp)
      · rw [if_neg c11] at H
        have c11b0 : decide (x8_1 < (t229.length : Int)) = false := decide_eq_false c11
        clear c11
        have H' := Aside0.mk H
        clear H
        go_wp2
        go_loopg [7, 9] k1 (fun kq v7 v9 w' => ∃ (x7_2 : Bool) (x9_2 : Int), v7 = .bool x7_2 ∧ v9 = .int .i64 x9_2 ∧ Aside0 (cellarerlaw12_ChangeLast.l1 kq t229 t232 t233 x7_2 x9_2 a1_0 a1_1 a1_2 = some r) ∧ Aside0 (kq ≤ k1) ∧ Aside0 (Kd.R k39 39 w' w.heap.size (fun k_ => some k_ ≠ (v234 : Value).ownBlock) (.slice Ao8 t229.length co8) t229) ∧ Aside0 (Kd.R k39 39 w' w.heap.size (fun k_ => some k_ ≠ ((.slice Ao8 t229.length co8) : Value).ownBlock) v234 t233) ∧ Aside0 (w'.heap[gb228]? = some (.cells #[.string a1_0, .string a1_1, .bool a1_2] 37 (0, 0))) ∧ Aside0 (Below w.heap.size w w'))
        case atStart => exact ⟨(((t229.length : Int) == 0)), (0), (by first | rfl | (simp; done) | (simp [*]; done)), (by first | rfl | (simp; done) | (simp [*]; done)), H', ⟨Nat.le_refl _⟩, ⟨by (with_reducible repeat (first | apply Kd.R_alloc | apply Kd.R_drewN | apply Kd.R_drew)); exact HO_0.out⟩, ⟨by (with_reducible repeat (first | apply Kd.R_alloc | apply Kd.R_drewN | apply Kd.R_drew)); exact HO_6.out⟩, ⟨by (with_reducible repeat (first | refine blk_drewN ?_ _ | refine blk_drew ?_ | refine blk_alloc ?_ _)); exact BK228.out⟩, ⟨by repeat (first | (with_reducible first | exact HB.out | apply below_alloc | apply pw_below_drewN | apply below_drew1 | refine below_set ?_ GE228.out) | exact HB.out)⟩⟩
        case round =>
          clear H'
          try clear c1
          try clear c2
          try clear p2
          try clear q2
          try clear hx2
          try clear p6
          try clear c7
          try clear c10
          try clear c11
          try clear c11b0
          try clear c12
          try clear c12b0
          try clear c13
          try clear c13b0
          try clear hx236_0
          try clear hx236_1
          try clear hx236_2
          try clear hx236_3
          try clear p2
          try clear p236
          try clear q236
          obtain ⟨x7_2, x9_2, rfl, rfl, HA, HK2, HO_0, HO_6, BK228, HB⟩ := hrel
          cases gk with
          | zero => exact absurd HA.out (by simp [cellarerlaw12_ChangeLast.l1])
          | succ k2 =>
            have H := HA.out
            clear HA
            simp only [cellarerlaw12_ChangeLast.l1] at H
            by_cases c14 : x9_2 < (t233.length : Int)
            · rw [if_pos c14] at H
              have c14b0 : decide (x9_2 < (t233.length : Int)) = true := decide_eq_true c14
              clear c14
              by_cases c15 : x7_2 = true
              · subst c15
                have H1 : (cellarerlaw12_ChangeLast.l1 k2 t229 t232 t233 true (wrap64 (x9_2 + 1)) a1_0 a1_1 a1_2) = some r := by rw [if_pos rfl] at H; exact H
                clear H
                have H := H1
                clear H1
                have H' := Aside0.mk H
                clear H
                obtain ⟨Ao16, co16, eo16⟩ := Kd.R_slice HO_6.out
                subst eo16
                go_wp2
                go_roundg k2
                case measure => have := HK1.out; have := HK2.out; omega
                case rel => exact ⟨(true), (wrap64 (x9_2 + 1)), (by first | rfl | (simp; done) | (simp [*]; done)), (by first | rfl | (simp; done) | (simp [*]; done)), H', ⟨by have := HK1.out; have := HK2.out; omega⟩, ⟨by (with_reducible repeat (first | apply Kd.R_alloc | apply Kd.R_drewN | apply Kd.R_drew)); exact HO_0.out⟩, ⟨by (with_reducible repeat (first | apply Kd.R_alloc | apply Kd.R_drewN | apply Kd.R_drew)); exact HO_6.out⟩, ⟨by (with_reducible repeat (first | refine blk_drewN ?_ _ | refine blk_drew ?_ | refine blk_alloc ?_ _)); exact BK228.out⟩, ⟨by repeat (first | (with_reducible first | exact HB.out | apply below_alloc | apply pw_below_drewN | apply below_drew1 | refine below_set ?_ GE228.out) | exact HB.out)⟩⟩
              · replace c15 := Bool.eq_false_iff.mpr c15
                subst c15
                have H1 : (if 0 ≤ x9_2 then (cellarerlaw12_ChangeLast.l1 k2 t229 t232 t233 (((rd_T39 t233 x9_2).f0) == t232) (wrap64 (x9_2 + 1)) a1_0 a1_1 a1_2) else (none)) = some r := by rw [if_neg (show ¬ (false = true) by decide)] at H; exact H
                clear H
                have H := H1
                clear H1
                by_cases c17 : 0 ≤ x9_2
                · rw [if_pos c17] at H
                  have c17b0 : decide (0 ≤ x9_2) = true := decide_eq_true c17
                  clear c17
                  have H' := Aside0.mk H
                  clear H
                  obtain ⟨Ao18, co18, eo18⟩ := Kd.R_slice HO_6.out
                  subst eo18
                  have p237 : 0 ≤ (x9_2 : Int) := of_decide_eq_true (by first | (with_reducible assumption) | assumption)
                  have q237 : x9_2 < (t233.length : Int) := of_decide_eq_true (by first | (with_reducible assumption) | assumption)
                  obtain ⟨ad237, e237, hx237_0, hx237_1, hx237_2, hx237_3⟩ := at_T39 (Kd.R_reads' HO_6.out).2.2 x9_2 p237 q237
                  cases e237
                  replace p237 := eq_true p237
                  replace q237 := eq_true q237
                  go_wp2
                  go_roundg k2
                  case measure => have := HK1.out; have := HK2.out; omega
                  case rel => exact ⟨((((rd_T39 t233 x9_2).f0) == t232)), (wrap64 (x9_2 + 1)), (by first | rfl | (simp; done) | (simp [*]; done)), (by first | rfl | (simp; done) | (simp [*]; done)), H', ⟨by have := HK1.out; have := HK2.out; omega⟩, ⟨by (with_reducible repeat (first | apply Kd.R_alloc | apply Kd.R_drewN | apply Kd.R_drew)); exact HO_0.out⟩, ⟨by (with_reducible repeat (first | apply Kd.R_alloc | apply Kd.R_drewN | apply Kd.R_drew)); exact HO_6.out⟩, ⟨by (with_reducible repeat (first | refine blk_drewN ?_ _ | refine blk_drew ?_ | refine blk_alloc ?_ _)); exact BK228.out⟩, ⟨by repeat (first | (with_reducible first | exact HB.out | apply below_alloc | apply pw_below_drewN | apply below_drew1 | refine below_set ?_ GE228.out) | exact HB.out)⟩⟩
                · rw [if_neg c17] at H
                  exact absurd H (by simp)
            · rw [if_neg c14] at H
              have c14b0 : decide (x9_2 < (t233.length : Int)) = false := decide_eq_false c14
              clear c14
              have HC19 := Aside0.mk H
              clear H
              obtain ⟨Ao20, co20, eo20⟩ := Kd.R_slice HO_6.out
              subst eo20
              go_upto_region 14 with (fail)
              go_cut [56] (fun v56 wc => ∃ (kq : Nat) (x56_18 : Bool), v56 = .bool x56_18 ∧ Aside0 (cellarerlaw12_ChangeLast.j2 kq t229 t232 x7_2 x56_18 a1_0 a1_1 a1_2 = some r) ∧ Aside0 (kq ≤ k2) ∧ Aside0 (Kd.R k39 39 wc w.heap.size (fun _ => True) (.slice Ao8 t229.length co8) t229) ∧ Aside0 (wc.heap[gb228]? = some (.cells #[.string a1_0, .string a1_1, .bool a1_2] 37 (0, 0))) ∧ Aside0 (Below w.heap.size w wc))
              case first =>
                have H := HC19.out
                clear HC19
                by_cases c21 : x7_2 = true
                · subst c21
                  have H1 : (cellarerlaw12_ChangeLast.j2 k2 t229 t232 true (t232 == 18446744073709551615) a1_0 a1_1 a1_2) = some r := by rw [if_pos rfl] at H; exact H
                  clear H
                  have H := H1
                  clear H1
                  have H' := Aside0.mk H
                  clear H
                  go_wp2
                  go_meet
                  case rel => exact ⟨_, ((t232 == 18446744073709551615)), (by first | rfl | (simp; done) | (simp [*]; done)), H', ⟨by have := HK1.out; have := HK2.out; first | omega | exact Nat.le_refl _⟩, ⟨by (with_reducible repeat (first | apply Kd.R_alloc | apply Kd.R_drewN | apply Kd.R_drew)); exact Kd.R_mono HO_0.out (fun _ hk => trivial)⟩, ⟨by (with_reducible repeat (first | refine blk_drewN ?_ _ | refine blk_drew ?_ | refine blk_alloc ?_ _)); exact BK228.out⟩, ⟨by repeat (first | (with_reducible first | exact HB.out | apply below_alloc | apply pw_below_drewN | apply below_drew1 | refine below_set ?_ GE228.out) | exact HB.out)⟩⟩
                · replace c21 := Bool.eq_false_iff.mpr c21
                  subst c21
                  have H1 : (cellarerlaw12_ChangeLast.j2 k2 t229 t232 false true a1_0 a1_1 a1_2) = some r := by rw [if_neg (show ¬ (false = true) by decide)] at H; exact H
                  clear H
                  have H := H1
                  clear H1
                  have H' := Aside0.mk H
                  clear H
                  go_wp2
                  go_meet
                  case rel => exact ⟨_, (true), (by first | rfl | (simp; done) | (simp [*]; done)), H', ⟨by have := HK1.out; have := HK2.out; first | omega | exact Nat.le_refl _⟩, ⟨by (with_reducible repeat (first | apply Kd.R_alloc | apply Kd.R_drewN | apply Kd.R_drew)); exact Kd.R_mono HO_0.out (fun _ hk => trivial)⟩, ⟨by (with_reducible repeat (first | refine blk_drewN ?_ _ | refine blk_drew ?_ | refine blk_alloc ?_ _)); exact BK228.out⟩, ⟨by repeat (first | (with_reducible first | exact HB.out | apply below_alloc | apply pw_below_drewN | apply below_drew1 | refine below_set ?_ GE228.out) | exact HB.out)⟩⟩
              case rest =>
                clear HC19
                try clear c1
                try clear c2
                try clear p2
                try clear q2
                try clear hx2
                try clear p6
                try clear c7
                try clear c10
                try clear c11
                try clear c11b0
                try clear c12
                try clear c12b0
                try clear c13
                try clear c13b0
                try clear c14
                try clear c14b0
                try clear c15
                try clear c17
                try clear c17b0
                try clear c19
                try clear c21
                try clear hx236_0
                try clear hx236_1
                try clear hx236_2
                try clear hx236_3
                try clear hx237_0
                try clear hx237_1
                try clear hx237_2
                try clear hx237_3
                try clear p2
                try clear p236
                try clear p237
                try clear p6
                try clear q2
                try clear q236
                try clear q237
                obtain ⟨kq, x56_18, rfl, HA, HJ18, HO_0, BK228, HB⟩ := hcut
                cases kq with
                | zero => exact absurd HA.out (by simp [cellarerlaw12_ChangeLast.j2])
                | succ kj18 =>
                  have H := HA.out
                  clear HA
                  simp only [cellarerlaw12_ChangeLast.j2] at H
                  by_cases c22 : x56_18 = true
                  · subst c22
                    have H1 : (if x7_2 = true then ((cellarerlaw12_awake.f).bind fun t238 => (some t238)) else (some false)) = some r := by rw [if_pos rfl] at H; exact H
                    clear H
                    have H := H1
                    clear H1
                    by_cases c23 : x7_2 = true
                    · subst c23
                      have H1 : ((cellarerlaw12_awake.f).bind fun t238 => (some t238)) = some r := by rw [if_pos rfl] at H; exact H
                      clear H
                      have H := H1
                      clear H1
                      replace H := Option.bind_eq_some_iff.mp H
                      obtain ⟨t238, A240, H⟩ := H
                      replace H : (some t238) = some r := H
                      have A24 := Aside0.mk A240
                      clear A240
                      obtain rfl := Option.some.inj H
                      go_wp2_with (first | (go_at_call 18; (with_reducible refine (cellarerlaw12_awake.calls  t238 _ A24.out).mono ?_); rintro e w25 ⟨rfl, hb⟩; have n0_ := Aside0.mk (Kd.R_below (by (with_reducible repeat (first | apply Kd.R_alloc | apply Kd.R_drewN | apply Kd.R_drew)); exact HO_0.out) hb); have n1_ := Aside0.mk (blk_below (g := gb228) (o := .cells #[.string a1_0, .string a1_1, .bool a1_2] 37 (0, 0)) (by (with_reducible repeat (first | refine blk_drewN ?_ _ | refine blk_drew ?_ | refine blk_alloc ?_ _)); exact BK228.out) hb); have n2_ := Aside0.mk (below_step (by repeat (first | (with_reducible first | exact HB.out | apply below_alloc | apply pw_below_drewN | apply below_drew1 | refine below_set ?_ GE228.out) | exact HB.out)) hb); clear HO_0; clear BK228; clear HB; have HO_0 := n0_; have BK228 := n1_; have HB := n2_; clear n0_ n1_ n2_; (try clear hb); (try clear hb2); (try clear hk); (try clear hi)))
                      go_ret
                      exact ⟨by first | rfl | (simp [errW_none, errW_some] <;> rfl) | (simp [*, errW_none, errW_some] <;> rfl), by repeat (first | (with_reducible first | exact HB.out | apply below_alloc | apply pw_below_drewN | apply below_drew1 | refine below_set ?_ GE228.out) | exact HB.out)⟩
                    · replace c23 := Bool.eq_false_iff.mpr c23
                      subst c23
                      have H1 : (some false) = some r := by rw [if_neg (show ¬ (false = true) by decide)] at H; exact H
                      clear H
                      have H := H1
                      clear H1
                      obtain rfl := Option.some.inj H
                      go_wp2
                      go_ret
                      exact ⟨by first | rfl | (simp [errW_none, errW_some] <;> rfl) | (simp [*, errW_none, errW_some] <;> rfl), by repeat (first | (with_reducible first | exact HB.out | apply below_alloc | apply pw_below_drewN | apply below_drew1 | refine below_set ?_ GE228.out) | exact HB.out)⟩
                  · replace c22 := Bool.eq_false_iff.mpr c22
                    subst c22
                    have H1 : ((some (([] : List (S39)) : List (S39))).bind fun y240 => (if y240.length + t229.length < 2932031007402 then ((some (y240 ++ t229 : List (S39))).bind fun y243 => ((some (([(⟨IntKind.u64.wrap (t232 + 1), (⟨a1_0, a1_1, a1_2⟩ : S37)⟩ : S39)] : List (S39)) : List (S39))).bind fun y246 => (if y243.length + y246.length < 2932031007402 then ((change_Live.f (y243 ++ y246) t229).bind fun t252 => (cellarerlaw12_ChangeLast.l2 kj18 t252 0 a1_0 a1_1 a1_2)) else (none)))) else (none))) = some r := by rw [if_neg (show ¬ (false = true) by decide)] at H; exact H
                    clear H
                    have H := H1
                    clear H1
                    obtain ⟨y240, hy240⟩ : ∃ y_ : List (S39), y_ = (([] : List (S39))) := ⟨_, rfl⟩
                    replace H : (if y240.length + t229.length < 2932031007402 then ((some (y240 ++ t229 : List (S39))).bind fun y243 => ((some (([(⟨IntKind.u64.wrap (t232 + 1), (⟨a1_0, a1_1, a1_2⟩ : S37)⟩ : S39)] : List (S39)) : List (S39))).bind fun y246 => (if y243.length + y246.length < 2932031007402 then ((change_Live.f (y243 ++ y246) t229).bind fun t252 => (cellarerlaw12_ChangeLast.l2 kj18 t252 0 a1_0 a1_1 a1_2)) else (none)))) else (none)) = some r := by first | (rw [hy240]; with_reducible exact H) | (have H2_ := (Option.bind_some _ _).symm.trans H; rw [hy240]; with_reducible exact H2_) | (have H2_ := (Option.bind_some _ _).symm.trans H; with_reducible exact H2_) | with_reducible exact H | (rw [hy240]; exact H) | exact H
                    have Ny240 := Aside0.mk hy240
                    clear hy240
                    by_cases c26 : y240.length + t229.length < 2932031007402
                    · rw [if_pos c26] at H
                      have LMc26 := Aside0.mk c26
                      clear c26
                      obtain ⟨y243, hy243⟩ : ∃ y_ : List (S39), y_ = (y240 ++ t229) := ⟨_, rfl⟩
                      replace H : ((some (([(⟨IntKind.u64.wrap (t232 + 1), (⟨a1_0, a1_1, a1_2⟩ : S37)⟩ : S39)] : List (S39)) : List (S39))).bind fun y246 => (if y243.length + y246.length < 2932031007402 then ((change_Live.f (y243 ++ y246) t229).bind fun t252 => (cellarerlaw12_ChangeLast.l2 kj18 t252 0 a1_0 a1_1 a1_2)) else (none))) = some r := by first | (rw [hy243]; with_reducible exact H) | (have H2_ := (Option.bind_some _ _).symm.trans H; rw [hy243]; with_reducible exact H2_) | (have H2_ := (Option.bind_some _ _).symm.trans H; with_reducible exact H2_) | with_reducible exact H | (rw [hy243]; exact H) | exact H
                      have Ny243 := Aside0.mk hy243
                      clear hy243
                      obtain ⟨y246, hy246⟩ : ∃ y_ : List (S39), y_ = (([(⟨IntKind.u64.wrap (t232 + 1), (⟨a1_0, a1_1, a1_2⟩ : S37)⟩ : S39)] : List (S39))) := ⟨_, rfl⟩
                      replace H : (if y243.length + y246.length < 2932031007402 then ((change_Live.f (y243 ++ y246) t229).bind fun t252 => (cellarerlaw12_ChangeLast.l2 kj18 t252 0 a1_0 a1_1 a1_2)) else (none)) = some r := by first | (rw [hy246]; with_reducible exact H) | (have H2_ := (Option.bind_some _ _).symm.trans H; rw [hy246]; with_reducible exact H2_) | (have H2_ := (Option.bind_some _ _).symm.trans H; with_reducible exact H2_) | with_reducible exact H | (rw [hy246]; exact H) | exact H
                      have Ny246 := Aside0.mk hy246
                      clear hy246
                      by_cases c27 : y243.length + y246.length < 2932031007402
                      · rw [if_pos c27] at H
                        have LMc27 := Aside0.mk c27
                        clear c27
                        obtain ⟨y249, hy249⟩ : ∃ y_ : List (S39), y_ = (y243 ++ y246) := ⟨_, rfl⟩
                        replace H : ((change_Live.f y249 t229).bind fun t252 => (cellarerlaw12_ChangeLast.l2 kj18 t252 0 a1_0 a1_1 a1_2)) = some r := by first | (rw [hy249]; with_reducible exact H) | (have H2_ := (Option.bind_some _ _).symm.trans H; rw [hy249]; with_reducible exact H2_) | (have H2_ := (Option.bind_some _ _).symm.trans H; with_reducible exact H2_) | with_reducible exact H | (rw [hy249]; exact H) | exact H
                        have Ny249 := Aside0.mk hy249
                        clear hy249
                        replace H := Option.bind_eq_some_iff.mp H
                        obtain ⟨t252, A280, H⟩ := H
                        replace H : (cellarerlaw12_ChangeLast.l2 kj18 t252 0 a1_0 a1_1 a1_2) = some r := H
                        have A28 := Aside0.mk A280
                        clear A280
                        have H' := Aside0.mk H
                        clear H
                        have hcz29_0 : wc.cell? ⟨gb228, 0, none⟩ = some (.string a1_0) := (blk_cell BK228.out 0).trans rfl
                        have hcz29_1 : wc.cell? ⟨gb228, 1, none⟩ = some (.string a1_1) := (blk_cell BK228.out 1).trans rfl
                        have hcz29_2 : wc.cell? ⟨gb228, 2, none⟩ = some (.bool a1_2) := (blk_cell BK228.out 2).trans rfl
                        have hfz29_0 := blk_frozen BK228.out 0
                        have hfz29_1 := blk_frozen BK228.out 1
                        have hfz29_2 := blk_frozen BK228.out 2
                        try go_wp2_with (first | ((with_reducible refine gate_dst (N := 10) rfl ?_); refine box_event ?hg (N := 10) ?hd (cs := #[.int .u64 0, .string (⟨#[]⟩ : ByteArray), .string (⟨#[]⟩ : ByteArray), .bool false]) (t := 39) ?hr ?_; (case hd => rfl); (case hg => rfl); (case hr => first | (go_simp; done) | (go_simp; rfl)); intro gb239 hg w30 hbox hb; have n0_ := Aside0.mk (Kd.R_below (Kd.R_elderB (by (with_reducible repeat (first | apply Kd.R_alloc | apply Kd.R_drewN | apply Kd.R_drew)); exact HO_0.out) gb239 (Nat.le_of_eq hg.symm)) hb); have n1_ := Aside0.mk (blk_below (g := gb228) (o := .cells #[.string a1_0, .string a1_1, .bool a1_2] 37 (0, 0)) (by (with_reducible repeat (first | refine blk_drewN ?_ _ | refine blk_drew ?_ | refine blk_alloc ?_ _)); exact BK228.out) hb); have n2_ := Aside0.mk (below_step (by repeat (first | (with_reducible first | exact HB.out | apply below_alloc | apply pw_below_drewN | apply below_drew1 | refine below_set ?_ GE228.out) | exact HB.out)) hb); have n3_ := Aside0.mk (hbox); have n4_ := Aside0.mk ((by rw [hg]; exact (below_size (by repeat (first | (with_reducible first | exact HB.out | apply below_alloc | apply pw_below_drewN | apply below_drew1 | refine below_set ?_ GE228.out) | exact HB.out))) : w.heap.size ≤ gb239)); have n5_ := Aside0.mk ((by rw [hg]; exact (below_size (by repeat (first | (with_reducible first | exact HB.out | apply below_alloc | apply pw_below_drewN | apply below_drew1 | refine below_set ?_ GE228.out) | exact HB.out))) : w.heap.size ≤ gb239)); have n6_ := Aside0.mk ((by rw [hg]; exact Nat.ne_of_lt (blk_lt (g := gb228) (o := .cells #[.string a1_0, .string a1_1, .bool a1_2] 37 (0, 0)) (by (with_reducible repeat (first | refine blk_drewN ?_ _ | refine blk_drew ?_ | refine blk_alloc ?_ _)); exact BK228.out)) : gb228 ≠ gb239)); have n7_ := Aside0.mk ((by rw [hg]; exact Nat.ne_of_gt (blk_lt (g := gb228) (o := .cells #[.string a1_0, .string a1_1, .bool a1_2] 37 (0, 0)) (by (with_reducible repeat (first | refine blk_drewN ?_ _ | refine blk_drew ?_ | refine blk_alloc ?_ _)); exact BK228.out)) : gb239 ≠ gb228)); clear HO_0; clear BK228; clear HB; have HO_0 := n0_; have BK228 := n1_; have HB := n2_; have BK239 := n3_; have GW239 := n4_; have GE239 := n5_; have NB228_239 := n6_; have NB239_228 := n7_; clear n0_ n1_ n2_ n3_ n4_ n5_ n6_ n7_; clear hb hbox hg; have hnb31 := NB239_228.out; have hnc31 := NB228_239.out; have hcz32_0 : w30.cell? ⟨gb239, 0, none⟩ = some (.int .u64 0) := (blk_cell BK239.out 0).trans rfl; have hcz32_1 : w30.cell? ⟨gb239, 1, none⟩ = some (.string (⟨#[]⟩ : ByteArray)) := (blk_cell BK239.out 1).trans rfl; have hcz32_2 : w30.cell? ⟨gb239, 2, none⟩ = some (.string (⟨#[]⟩ : ByteArray)) := (blk_cell BK239.out 2).trans rfl; have hcz32_3 : w30.cell? ⟨gb239, 3, none⟩ = some (.bool false) := (blk_cell BK239.out 3).trans rfl; have hfz32_0 := blk_frozen BK239.out 0; have hfz32_1 := blk_frozen BK239.out 1; have hfz32_2 := blk_frozen BK239.out 2; have hfz32_3 := blk_frozen BK239.out 3))
                        have n0_ : Aside0 (Kd.R k39 39 ((((w30.setCell ⟨gb239, 0, none⟩ (.int .u64 (IntKind.u64.wrap (t232 + 1)))).setCell ⟨gb239, 1, none⟩ (.string a1_0)).setCell ⟨gb239, 2, none⟩ (.string a1_1)).setCell ⟨gb239, 3, none⟩ (.bool a1_2)) w.heap.size (fun k_ => k_ ≠ gb239) (.slice Ao8 t229.length co8) t229) := ⟨by (with_reducible repeat (first | apply Kd.R_alloc | apply Kd.R_drewN | apply Kd.R_drew)); exact Kd.R_mono (Kd.R_far (p := ⟨gb239, 3, none⟩) (Kd.R_far (p := ⟨gb239, 2, none⟩) (Kd.R_far (p := ⟨gb239, 1, none⟩) (Kd.R_far (p := ⟨gb239, 0, none⟩) (Kd.R_mono HO_0.out (fun k_ hk => (⟨hk, hk.2⟩ : _ ∧ k_ ≠ gb239))) (fun _ hk => hk.2) (.int .u64 (IntKind.u64.wrap (t232 + 1)))) (fun _ hk => hk.2) (.string a1_0)) (fun _ hk => hk.2) (.string a1_1)) (fun _ hk => hk.2) (.bool a1_2)) (fun _ hk => hk.1.2)⟩
                        have n1_ : Aside0 (((((w30.setCell ⟨gb239, 0, none⟩ (.int .u64 (IntKind.u64.wrap (t232 + 1)))).setCell ⟨gb239, 1, none⟩ (.string a1_0)).setCell ⟨gb239, 2, none⟩ (.string a1_1)).setCell ⟨gb239, 3, none⟩ (.bool a1_2)).heap[gb228]? = some (.cells #[.string a1_0, .string a1_1, .bool a1_2] 37 (0, 0))) := ⟨by (with_reducible repeat (first | refine blk_drewN ?_ _ | refine blk_drew ?_ | refine blk_alloc ?_ _)); refine blk_far ?_ NB228_239.out _; (with_reducible repeat (first | refine blk_drewN ?_ _ | refine blk_drew ?_ | refine blk_alloc ?_ _)); refine blk_far ?_ NB228_239.out _; (with_reducible repeat (first | refine blk_drewN ?_ _ | refine blk_drew ?_ | refine blk_alloc ?_ _)); refine blk_far ?_ NB228_239.out _; (with_reducible repeat (first | refine blk_drewN ?_ _ | refine blk_drew ?_ | refine blk_alloc ?_ _)); refine blk_far ?_ NB228_239.out _; (with_reducible repeat (first | refine blk_drewN ?_ _ | refine blk_drew ?_ | refine blk_alloc ?_ _)); exact BK228.out⟩
                        have n2_ : Aside0 (((((w30.setCell ⟨gb239, 0, none⟩ (.int .u64 (IntKind.u64.wrap (t232 + 1)))).setCell ⟨gb239, 1, none⟩ (.string a1_0)).setCell ⟨gb239, 2, none⟩ (.string a1_1)).setCell ⟨gb239, 3, none⟩ (.bool a1_2)).heap[gb239]? = some (.cells #[.int .u64 (IntKind.u64.wrap (t232 + 1)), .string a1_0, .string a1_1, .bool a1_2] 39 (0, 0))) := ⟨by (with_reducible repeat (first | refine blk_drewN ?_ _ | refine blk_drew ?_ | refine blk_alloc ?_ _)); refine blk_put (cs := #[.int .u64 (IntKind.u64.wrap (t232 + 1)), .string a1_0, .string a1_1, .bool false]) ?_ 3 _ rfl; (with_reducible repeat (first | refine blk_drewN ?_ _ | refine blk_drew ?_ | refine blk_alloc ?_ _)); refine blk_put (cs := #[.int .u64 (IntKind.u64.wrap (t232 + 1)), .string a1_0, .string (⟨#[]⟩ : ByteArray), .bool false]) ?_ 2 _ rfl; (with_reducible repeat (first | refine blk_drewN ?_ _ | refine blk_drew ?_ | refine blk_alloc ?_ _)); refine blk_put (cs := #[.int .u64 (IntKind.u64.wrap (t232 + 1)), .string (⟨#[]⟩ : ByteArray), .string (⟨#[]⟩ : ByteArray), .bool false]) ?_ 1 _ rfl; (with_reducible repeat (first | refine blk_drewN ?_ _ | refine blk_drew ?_ | refine blk_alloc ?_ _)); refine blk_put (cs := #[.int .u64 0, .string (⟨#[]⟩ : ByteArray), .string (⟨#[]⟩ : ByteArray), .bool false]) ?_ 0 _ rfl; (with_reducible repeat (first | refine blk_drewN ?_ _ | refine blk_drew ?_ | refine blk_alloc ?_ _)); exact BK239.out⟩
                        have n3_ : Aside0 (Below w.heap.size w ((((w30.setCell ⟨gb239, 0, none⟩ (.int .u64 (IntKind.u64.wrap (t232 + 1)))).setCell ⟨gb239, 1, none⟩ (.string a1_0)).setCell ⟨gb239, 2, none⟩ (.string a1_1)).setCell ⟨gb239, 3, none⟩ (.bool a1_2))) := ⟨by repeat (first | (with_reducible first | exact HB.out | apply below_alloc | apply pw_below_drewN | apply below_drew1 | refine below_set ?_ GE228.out | refine below_set ?_ GE239.out) | exact HB.out)⟩
                        (try clear HO_0)
                        (try clear BK228)
                        (try clear BK239)
                        (try clear HB)
                        generalize ((((w30.setCell ⟨gb239, 0, none⟩ (.int .u64 (IntKind.u64.wrap (t232 + 1)))).setCell ⟨gb239, 1, none⟩ (.string a1_0)).setCell ⟨gb239, 2, none⟩ (.string a1_1)).setCell ⟨gb239, 3, none⟩ (.bool a1_2)) = w33 at n0_ n1_ n2_ n3_ ⊢
                        have HO_0 := n0_
                        have BK228 := n1_
                        have BK239 := n2_
                        have HB := n3_
                        clear n0_ n1_ n2_ n3_
                        have n0_ := Aside0.mk (Kd.R_drew HO_0.out)
                        have n1_ := Aside0.mk (blk_drew BK228.out)
                        have n2_ := Aside0.mk (blk_drew BK239.out)
                        have n3_ := Aside0.mk (below_drew1 HB.out)
                        clear HO_0
                        clear BK228
                        clear BK239
                        clear HB
                        have HO_0 := n0_
                        have BK228 := n1_
                        have BK239 := n2_
                        have HB := n3_
                        clear n0_ n1_ n2_ n3_
                        refine start_ (n := 9) (S := fun w' => w'.cell? ⟨gb239, 0, none⟩ = some (.int .u64 (IntKind.u64.wrap (t232 + 1))) ∧ w'.cell? ⟨gb239, 1, none⟩ = some (.string a1_0) ∧ w'.cell? ⟨gb239, 2, none⟩ = some (.string a1_1) ∧ w'.cell? ⟨gb239, 3, none⟩ = some (.bool a1_2)) (ds := []) #[false, false, false, false, false, false, false, false, false] (by kernel_rfl) rfl rfl ⟨(blk_cell BK239.out 0).trans rfl, (blk_cell BK239.out 1).trans rfl, (blk_cell BK239.out 2).trans rfl, (blk_cell BK239.out 3).trans rfl⟩ (fun hHeld => ?_); refine with_tabW cellarerlaw12_ChangeLast.tab17 cellarerlaw12_ChangeLast.bits17 (fun HT_ HW_ => ?_)
                        generalize w33.drew = w34 at HO_0 BK228 BK239 HB hHeld ⊢
                        refine pure_ (i := 1) (N := some 66) (v := ?_) (a' := ?_) #[false, true, false, false, false, false, false, false, false] rfl rfl (any_of HT_.out (by kernel_rfl)) (fun _ _ _ h => h) (Or.inl ⟨by rfl, ?_⟩) ?_ ?_
                        rotate_left
                        · intro w'
                          go_simp
                          with_reducible rfl
                        rotate_left
                        · simp only [Act.put, List.setIfInBounds_toArray, List.set_cons_zero, List.set_cons_succ, i64_w, i32_w]
                          rfl
                        refine pure_ (i := 6) (N := some 71) (v := ?_) (a' := ?_) #[false, true, false, false, false, false, true, false, false] rfl rfl (any_of HT_.out (by kernel_rfl)) (fun _ _ _ h => h) (Or.inl ⟨by rfl, ?_⟩) ?_ ?_
                        rotate_left
                        · intro w'
                          go_simp
                          with_reducible rfl
                        rotate_left
                        · simp only [Act.put, List.setIfInBounds_toArray, List.set_cons_zero, List.set_cons_succ, i64_w, i32_w]
                          rfl
                        refine take_ (i := 3) (N := some 68) (v := ?_) (a' := ?_) #[false, true, false, true, false, false, true, false, false] rfl rfl (take_ofW HT_.out HW_.out (by kernel_rfl)) (fun _ _ _ h => h) (Or.inl ⟨by rfl, ?_⟩) hHeld ?_ ?_
                        rotate_left
                        · rintro w' ⟨s0, s1, s2, s3⟩
                          go_simp
                          with_reducible rfl
                        rotate_left
                        · simp only [Act.put, List.setIfInBounds_toArray, List.set_cons_zero, List.set_cons_succ, i64_w, i32_w]
                          rfl
                        refine join_ (σ := Value × Value × Value) 3 #[true, true, true, true, true, false, true, false, false] (fun s_ => [(65, s_.1), (67, s_.2.1), (69, s_.2.2)]) (fun s_ w' => (w'.cell? ⟨gb239, 0, none⟩ = some (.int .u64 (IntKind.u64.wrap (t232 + 1))) ∧ w'.cell? ⟨gb239, 1, none⟩ = some (.string a1_0) ∧ w'.cell? ⟨gb239, 2, none⟩ = some (.string a1_1) ∧ w'.cell? ⟨gb239, 3, none⟩ = some (.bool a1_2)) ∧ (Kd.R k39 39 w' w.heap.size (fun k_ => some k_ ≠ (s_.2.2 : Value).ownBlock ∧ some k_ ≠ (.slice Ao8 t229.length co8 : Value).ownBlock ∧ k_ ≠ gb239) s_.2.1 y243) ∧ (Kd.R k39 39 w' w.heap.size (fun k_ => some k_ ≠ (s_.2.1 : Value).ownBlock ∧ some k_ ≠ (.slice Ao8 t229.length co8 : Value).ownBlock ∧ k_ ≠ gb239) s_.2.2 y246) ∧ (Kd.R k39 39 w' w.heap.size (fun k_ => some k_ ≠ (s_.2.1 : Value).ownBlock ∧ some k_ ≠ (s_.2.2 : Value).ownBlock ∧ k_ ≠ gb239) (.slice Ao8 t229.length co8) t229) ∧ (w'.heap[gb228]? = some (.cells #[.string a1_0, .string a1_1, .bool a1_2] 37 (0, 0))) ∧ (w'.heap[gb239]? = some (.cells #[.int .u64 (IntKind.u64.wrap (t232 + 1)), .string a1_0, .string a1_1, .bool a1_2] 39 (0, 0))) ∧ (Below w.heap.size w w')) ?_ ?_
                        rotate_left
                        · intro hCont
                          refine two_ (i := 0) (j := 4) (Ni := some 65) (Nj := some 69) #[true, true, false, true, false, false, true, false, false] #[false, true, false, true, true, false, true, false, false] rfl rfl rfl rfl (two_of HT_.out (by kernel_rfl)) (by decide) (by decide) (fun K hK => ?_) (fun K hK => ?_)
                          · skip
                            refine Kd.R_lit_step k39 _ 39 ?hg (N := 65) ?hd (xs := ([] : List (S39))) (inner := []) (ok := fun _ => True) (okp := fun _ => True) ?hr ?hp (fun _ hk => hk) trivial (Below.refl _ _) (Nat.le_refl _) (by simp) ?_; (case hd => rfl); (case hg => rfl); (case hr => first | (go_simp; done) | (go_simp; rfl)); (case hp => exact (Reps.none _ _))
                            intro v241 w35 ho36 hb hg_ hnew_
                            clear hg_ hnew_
                            (first | rw [← Ny240.out] at ho36 | (simp only [Int.reduceToNat] at ho36; rw [← Ny240.out] at ho36))
                            have n0_ := Aside0.mk (Kd.R_elder' (by (with_reducible repeat (first | apply Kd.R_alloc | apply Kd.R_drewN | apply Kd.R_drew)); exact HO_0.out) (Kd.R_base ho36) hb)
                            have n1_ := Aside0.mk (Kd.R_lower (Kd.R_newB (Kd.R_new' ho36 (Kd.R_lt (by (with_reducible repeat (first | apply Kd.R_alloc | apply Kd.R_drewN | apply Kd.R_drew)); exact HO_0.out))) (g := gb239) (o := .cells #[.int .u64 (IntKind.u64.wrap (t232 + 1)), .string a1_0, .string a1_1, .bool a1_2] 39 (0, 0)) (by (with_reducible repeat (first | refine blk_drewN ?_ _ | refine blk_drew ?_ | refine blk_alloc ?_ _)); exact BK239.out)) (below_size (by repeat (first | (with_reducible first | exact HB.out | apply below_alloc | apply pw_below_drewN | apply below_drew1 | refine below_set ?_ GE228.out | refine below_set ?_ GE239.out) | exact HB.out))))
                            have n2_ := Aside0.mk (blk_below (g := gb228) (o := .cells #[.string a1_0, .string a1_1, .bool a1_2] 37 (0, 0)) (by (with_reducible repeat (first | refine blk_drewN ?_ _ | refine blk_drew ?_ | refine blk_alloc ?_ _)); exact BK228.out) hb)
                            have n3_ := Aside0.mk (blk_below (g := gb239) (o := .cells #[.int .u64 (IntKind.u64.wrap (t232 + 1)), .string a1_0, .string a1_1, .bool a1_2] 39 (0, 0)) (by (with_reducible repeat (first | refine blk_drewN ?_ _ | refine blk_drew ?_ | refine blk_alloc ?_ _)); exact BK239.out) hb)
                            have n4_ := Aside0.mk (below_step (by repeat (first | (with_reducible first | exact HB.out | apply below_alloc | apply pw_below_drewN | apply below_drew1 | refine below_set ?_ GE228.out | refine below_set ?_ GE239.out) | exact HB.out)) hb)
                            clear HO_0
                            clear BK228
                            clear BK239
                            clear HB
                            have HO_0 := n0_
                            have HO242 := n1_
                            have BK228 := n2_
                            have BK239 := n3_
                            have HB := n4_
                            clear n0_ n1_ n2_ n3_ n4_
                            clear hb ho36
                            refine hK.out _ _ ⟨(blk_cell BK239.out 0).trans rfl, (blk_cell BK239.out 1).trans rfl, (blk_cell BK239.out 2).trans rfl, (blk_cell BK239.out 3).trans rfl⟩ (fun hHeld => ?_)
                            clear hK K
                            refine norm_ (a' := ?_) ?_ ?_
                            rotate_left
                            · show Act.put _ (some 65) _ = _
                              simp only [Act.put, List.setIfInBounds_toArray, List.set_cons_zero, List.set_cons_succ, i64_w, i32_w]
                              rfl
                            refine two_ (i := 2) (j := 4) (Ni := some 67) (Nj := some 69) #[true, true, true, true, false, false, true, false, false] #[true, true, false, true, true, false, true, false, false] rfl rfl rfl rfl (two_of HT_.out (by kernel_rfl)) (by decide) (by decide) (fun K hK => ?_) (fun K hK => ?_)
                            · skip
                              refine Kd.R_append_rows_step k39 (w0 := w) w.heap.size (by rfl) (.tmp 65) (.tmp 66) 22 39 (.agg #[(.int .u64 0), (.string ⟨#[]⟩), (.string ⟨#[]⟩), (.bool false)]) 48 rfl Try.underlying22 info39 rfl (by decide) (by omega) v241 y240 t229 _ _ _ (fun k_ => some k_ ≠ (.slice Ao8 t229.length co8 : Value).ownBlock ∧ k_ ≠ gb239) (fun _ => False) rfl rfl ?aO ?aR (fun _ _ h => h) (fun _ h => h.elim) ?aF ?aB ?aS ?aL ?_
                              (case aR => repeat (first | exact (Kd.R_reads' HO_0.out).2.2 | (with_reducible refine Kd.C_alloc ?_ _) | (with_reducible refine Kd.C_drewN ?_ _) | (with_reducible refine Kd.C_drew ?_)))
                              (case aB => exact (by repeat (first | (with_reducible first | exact HB.out | apply below_alloc | apply pw_below_drewN | apply below_drew1 | refine below_set ?_ GE228.out | refine below_set ?_ GE239.out) | exact HB.out)))
                              (case aF => exact (fun k_ hk => ⟨Kd.fresh' (Kd.R_lt (by (with_reducible repeat (first | apply Kd.R_alloc | apply Kd.R_drewN | apply Kd.R_drew)); exact HO_0.out)) k_ hk, Kd.freshB (g := gb239) (o := .cells #[.int .u64 (IntKind.u64.wrap (t232 + 1)), .string a1_0, .string a1_1, .bool a1_2] 39 (0, 0)) (by (with_reducible repeat (first | refine blk_drewN ?_ _ | refine blk_drew ?_ | refine blk_alloc ?_ _)); exact BK239.out) k_ hk⟩))
                              (case aO => exact (by (with_reducible repeat (first | apply Kd.R_alloc | apply Kd.R_drewN | apply Kd.R_drew)); exact Kd.R_mono HO242.out (fun _ hk => ⟨hk.1.2, hk.2⟩)))
                              (case aS => exact (below_size (by repeat (first | (with_reducible first | exact HB.out | apply below_alloc | apply pw_below_drewN | apply below_drew1 | refine below_set ?_ GE228.out | refine below_set ?_ GE239.out) | exact HB.out))))
                              (case aL => have := LMc26.out; omega)
                              intro v244 w37 ho hb hg hat
                              rw [← Ny243.out] at ho
                              have n0_ := Aside0.mk (Kd.R_after (ok := (fun k_ => k_ ≠ gb239)) (by (with_reducible repeat (first | apply Kd.R_alloc | apply Kd.R_drewN | apply Kd.R_drew)); exact HO_0.out) hg hat)
                              have n1_ := Aside0.mk (blk_grown (g := gb228) (o := .cells #[.string a1_0, .string a1_1, .bool a1_2] 37 (0, 0)) (by (with_reducible repeat (first | refine blk_drewN ?_ _ | refine blk_drew ?_ | refine blk_alloc ?_ _)); exact BK228.out) hg (Kd.R_ne HO242.out BK228.out (by decide)))
                              have n2_ := Aside0.mk (blk_grown (g := gb239) (o := .cells #[.int .u64 (IntKind.u64.wrap (t232 + 1)), .string a1_0, .string a1_1, .bool a1_2] 39 (0, 0)) (by (with_reducible repeat (first | refine blk_drewN ?_ _ | refine blk_drew ?_ | refine blk_alloc ?_ _)); exact BK239.out) hg (Kd.R_away HO242.out (fun _ hk => hk.2)))
                              have n3_ := Aside0.mk (hb)
                              have n4_ := Aside0.mk (ho)
                              clear HO_0
                              clear BK228
                              clear BK239
                              clear HB
                              clear HO242
                              have HO_0 := n0_
                              have BK228 := n1_
                              have BK239 := n2_
                              have HB := n3_
                              have HO245 := n4_
                              clear n0_ n1_ n2_ n3_ n4_
                              clear ho hb hg hat
                              refine hK.out _ _ ⟨(blk_cell BK239.out 0).trans rfl, (blk_cell BK239.out 1).trans rfl, (blk_cell BK239.out 2).trans rfl, (blk_cell BK239.out 3).trans rfl⟩ (fun hHeld => ?_)
                              clear hK K
                              refine norm_ (a' := ?_) ?_ ?_
                              rotate_left
                              · show Act.put _ (some 67) _ = _
                                simp only [Act.put, List.setIfInBounds_toArray, List.set_cons_zero, List.set_cons_succ, i64_w, i32_w]
                                rfl
                              refine one_ (i := 4) (N := some 69) #[true, true, true, true, true, false, true, false, false] rfl rfl (one_of HT_.out (by kernel_rfl)) (by decide) (fun K hK => ?_)
                              refine Kd.R_lit_step k39 _ 39 ?hg (N := 69) ?hd (xs := ([(⟨IntKind.u64.wrap (t232 + 1), (⟨a1_0, a1_1, a1_2⟩ : S37)⟩ : S39)] : List (S39))) (inner := [.int .u64 (IntKind.u64.wrap (t232 + 1)), .string a1_0, .string a1_1, .bool a1_2]) (ok := fun _ => True) (okp := fun _ => True) ?hr ?hp (fun _ hk => hk) trivial (Below.refl _ _) (Nat.le_refl _) (by simp) ?_; (case hd => rfl); (case hg => rfl); (case hr => first | (go_simp; done) | (go_simp; rfl)); (case hp => exact (Reps.c4 (show Kd.M k39 _ _ _ (⟨IntKind.u64.wrap (t232 + 1), (⟨a1_0, a1_1, a1_2⟩ : S37)⟩ : S39) [.int .u64 (IntKind.u64.wrap (t232 + 1)), .string a1_0, .string a1_1, .bool a1_2] from (k39_mkM _ _ _ (⟨IntKind.u64.wrap (t232 + 1), (⟨a1_0, a1_1, a1_2⟩ : S37)⟩ : S39) )) (Reps.none _ _)))
                              intro v247 w38 ho39 hb hg_ hnew_
                              clear hg_ hnew_
                              (first | rw [← Ny246.out] at ho39 | (simp only [Int.reduceToNat] at ho39; rw [← Ny246.out] at ho39))
                              have n0_ := Aside0.mk (Kd.R_elder' (by (with_reducible repeat (first | apply Kd.R_alloc | apply Kd.R_drewN | apply Kd.R_drew)); exact HO_0.out) (Kd.R_base ho39) hb)
                              have n1_ := Aside0.mk (Kd.R_elder' (by (with_reducible repeat (first | apply Kd.R_alloc | apply Kd.R_drewN | apply Kd.R_drew)); exact HO245.out) (Kd.R_base ho39) hb)
                              have n2_ := Aside0.mk (Kd.R_lower (Kd.R_newB (Kd.R_new' (Kd.R_new' ho39 (Kd.R_lt (by (with_reducible repeat (first | apply Kd.R_alloc | apply Kd.R_drewN | apply Kd.R_drew)); exact HO_0.out))) (Kd.R_lt (by (with_reducible repeat (first | apply Kd.R_alloc | apply Kd.R_drewN | apply Kd.R_drew)); exact HO245.out))) (g := gb239) (o := .cells #[.int .u64 (IntKind.u64.wrap (t232 + 1)), .string a1_0, .string a1_1, .bool a1_2] 39 (0, 0)) (by (with_reducible repeat (first | refine blk_drewN ?_ _ | refine blk_drew ?_ | refine blk_alloc ?_ _)); exact BK239.out)) (below_size (by repeat (first | (with_reducible first | exact HB.out | apply below_alloc | apply pw_below_drewN | apply below_drew1 | refine below_set ?_ GE228.out | refine below_set ?_ GE239.out) | exact HB.out))))
                              have n3_ := Aside0.mk (blk_below (g := gb228) (o := .cells #[.string a1_0, .string a1_1, .bool a1_2] 37 (0, 0)) (by (with_reducible repeat (first | refine blk_drewN ?_ _ | refine blk_drew ?_ | refine blk_alloc ?_ _)); exact BK228.out) hb)
                              have n4_ := Aside0.mk (blk_below (g := gb239) (o := .cells #[.int .u64 (IntKind.u64.wrap (t232 + 1)), .string a1_0, .string a1_1, .bool a1_2] 39 (0, 0)) (by (with_reducible repeat (first | refine blk_drewN ?_ _ | refine blk_drew ?_ | refine blk_alloc ?_ _)); exact BK239.out) hb)
                              have n5_ := Aside0.mk (below_step (by repeat (first | (with_reducible first | exact HB.out | apply below_alloc | apply pw_below_drewN | apply below_drew1 | refine below_set ?_ GE228.out | refine below_set ?_ GE239.out) | exact HB.out)) hb)
                              clear HO_0
                              clear HO245
                              clear BK228
                              clear BK239
                              clear HB
                              have HO_0 := n0_
                              have HO245 := n1_
                              have HO248 := n2_
                              have BK228 := n3_
                              have BK239 := n4_
                              have HB := n5_
                              clear n0_ n1_ n2_ n3_ n4_ n5_
                              clear hb ho39
                              refine hK.out _ _ ⟨(blk_cell BK239.out 0).trans rfl, (blk_cell BK239.out 1).trans rfl, (blk_cell BK239.out 2).trans rfl, (blk_cell BK239.out 3).trans rfl⟩ (fun hHeld => ?_)
                              clear hK K
                              refine norm_ (a' := ?_) ?_ ?_
                              rotate_left
                              · show Act.put _ (some 69) _ = _
                                simp only [Act.put, List.setIfInBounds_toArray, List.set_cons_zero, List.set_cons_succ, i64_w, i32_w]
                                rfl
                              exact norm_ (by simp only [putAll, Act.put, List.setIfInBounds_toArray, List.set_cons_zero, List.set_cons_succ]) (hCont (v241, v244, v247) _ ⟨hHeld, (by (with_reducible repeat (first | apply Kd.R_alloc | apply Kd.R_drewN | apply Kd.R_drew)); exact Kd.R_mono HO245.out (fun _ hk => ⟨hk.2, ⟨hk.1.1, hk.1.2⟩⟩)), (by (with_reducible repeat (first | apply Kd.R_alloc | apply Kd.R_drewN | apply Kd.R_drew)); exact Kd.R_mono HO248.out (fun _ hk => ⟨hk.1.2, ⟨hk.1.1.2, hk.2⟩⟩)), (by (with_reducible repeat (first | apply Kd.R_alloc | apply Kd.R_drewN | apply Kd.R_drew)); exact Kd.R_mono HO_0.out (fun _ hk => ⟨hk.1.2, ⟨hk.2, hk.1.1⟩⟩)), (by (with_reducible repeat (first | refine blk_drewN ?_ _ | refine blk_drew ?_ | refine blk_alloc ?_ _)); exact BK228.out), (by (with_reducible repeat (first | refine blk_drewN ?_ _ | refine blk_drew ?_ | refine blk_alloc ?_ _)); exact BK239.out), (by repeat (first | (with_reducible first | exact HB.out | apply below_alloc | apply pw_below_drewN | apply below_drew1 | refine below_set ?_ GE228.out | refine below_set ?_ GE239.out) | exact HB.out))⟩)
                            · skip
                              refine Kd.R_lit_step k39 _ 39 ?hg (N := 69) ?hd (xs := ([(⟨IntKind.u64.wrap (t232 + 1), (⟨a1_0, a1_1, a1_2⟩ : S37)⟩ : S39)] : List (S39))) (inner := [.int .u64 (IntKind.u64.wrap (t232 + 1)), .string a1_0, .string a1_1, .bool a1_2]) (ok := fun _ => True) (okp := fun _ => True) ?hr ?hp (fun _ hk => hk) trivial (Below.refl _ _) (Nat.le_refl _) (by simp) ?_; (case hd => rfl); (case hg => rfl); (case hr => first | (go_simp; done) | (go_simp; rfl)); (case hp => exact (Reps.c4 (show Kd.M k39 _ _ _ (⟨IntKind.u64.wrap (t232 + 1), (⟨a1_0, a1_1, a1_2⟩ : S37)⟩ : S39) [.int .u64 (IntKind.u64.wrap (t232 + 1)), .string a1_0, .string a1_1, .bool a1_2] from (k39_mkM _ _ _ (⟨IntKind.u64.wrap (t232 + 1), (⟨a1_0, a1_1, a1_2⟩ : S37)⟩ : S39) )) (Reps.none _ _)))
                              intro v247 w37 ho38 hb hg_ hnew_
                              clear hg_ hnew_
                              (first | rw [← Ny246.out] at ho38 | (simp only [Int.reduceToNat] at ho38; rw [← Ny246.out] at ho38))
                              have n0_ := Aside0.mk (Kd.R_elder' (by (with_reducible repeat (first | apply Kd.R_alloc | apply Kd.R_drewN | apply Kd.R_drew)); exact HO_0.out) (Kd.R_base ho38) hb)
                              have n1_ := Aside0.mk (Kd.R_elder' (by (with_reducible repeat (first | apply Kd.R_alloc | apply Kd.R_drewN | apply Kd.R_drew)); exact HO242.out) (Kd.R_base ho38) hb)
                              have n2_ := Aside0.mk (Kd.R_lower (Kd.R_newB (Kd.R_new' (Kd.R_new' ho38 (Kd.R_lt (by (with_reducible repeat (first | apply Kd.R_alloc | apply Kd.R_drewN | apply Kd.R_drew)); exact HO_0.out))) (Kd.R_lt (by (with_reducible repeat (first | apply Kd.R_alloc | apply Kd.R_drewN | apply Kd.R_drew)); exact HO242.out))) (g := gb239) (o := .cells #[.int .u64 (IntKind.u64.wrap (t232 + 1)), .string a1_0, .string a1_1, .bool a1_2] 39 (0, 0)) (by (with_reducible repeat (first | refine blk_drewN ?_ _ | refine blk_drew ?_ | refine blk_alloc ?_ _)); exact BK239.out)) (below_size (by repeat (first | (with_reducible first | exact HB.out | apply below_alloc | apply pw_below_drewN | apply below_drew1 | refine below_set ?_ GE228.out | refine below_set ?_ GE239.out) | exact HB.out))))
                              have n3_ := Aside0.mk (blk_below (g := gb228) (o := .cells #[.string a1_0, .string a1_1, .bool a1_2] 37 (0, 0)) (by (with_reducible repeat (first | refine blk_drewN ?_ _ | refine blk_drew ?_ | refine blk_alloc ?_ _)); exact BK228.out) hb)
                              have n4_ := Aside0.mk (blk_below (g := gb239) (o := .cells #[.int .u64 (IntKind.u64.wrap (t232 + 1)), .string a1_0, .string a1_1, .bool a1_2] 39 (0, 0)) (by (with_reducible repeat (first | refine blk_drewN ?_ _ | refine blk_drew ?_ | refine blk_alloc ?_ _)); exact BK239.out) hb)
                              have n5_ := Aside0.mk (below_step (by repeat (first | (with_reducible first | exact HB.out | apply below_alloc | apply pw_below_drewN | apply below_drew1 | refine below_set ?_ GE228.out | refine below_set ?_ GE239.out) | exact HB.out)) hb)
                              clear HO_0
                              clear HO242
                              clear BK228
                              clear BK239
                              clear HB
                              have HO_0 := n0_
                              have HO242 := n1_
                              have HO248 := n2_
                              have BK228 := n3_
                              have BK239 := n4_
                              have HB := n5_
                              clear n0_ n1_ n2_ n3_ n4_ n5_
                              clear hb ho38
                              refine hK.out _ _ ⟨(blk_cell BK239.out 0).trans rfl, (blk_cell BK239.out 1).trans rfl, (blk_cell BK239.out 2).trans rfl, (blk_cell BK239.out 3).trans rfl⟩ (fun hHeld => ?_)
                              clear hK K
                              refine norm_ (a' := ?_) ?_ ?_
                              rotate_left
                              · show Act.put _ (some 69) _ = _
                                simp only [Act.put, List.setIfInBounds_toArray, List.set_cons_zero, List.set_cons_succ, i64_w, i32_w]
                                rfl
                              refine one_ (i := 2) (N := some 67) #[true, true, true, true, true, false, true, false, false] rfl rfl (one_of HT_.out (by kernel_rfl)) (by decide) (fun K hK => ?_)
                              refine Kd.R_append_rows_step k39 (w0 := w) w.heap.size (by rfl) (.tmp 65) (.tmp 66) 22 39 (.agg #[(.int .u64 0), (.string ⟨#[]⟩), (.string ⟨#[]⟩), (.bool false)]) 48 rfl Try.underlying22 info39 rfl (by decide) (by omega) v241 y240 t229 _ _ _ (fun k_ => some k_ ≠ (.slice Ao8 t229.length co8 : Value).ownBlock ∧ some k_ ≠ (v247 : Value).ownBlock ∧ k_ ≠ gb239) (fun _ => False) rfl rfl ?aO ?aR (fun _ _ h => h) (fun _ h => h.elim) ?aF ?aB ?aS ?aL ?_
                              (case aR => repeat (first | exact (Kd.R_reads' HO_0.out).2.2 | (with_reducible refine Kd.C_alloc ?_ _) | (with_reducible refine Kd.C_drewN ?_ _) | (with_reducible refine Kd.C_drew ?_)))
                              (case aB => exact (by repeat (first | (with_reducible first | exact HB.out | apply below_alloc | apply pw_below_drewN | apply below_drew1 | refine below_set ?_ GE228.out | refine below_set ?_ GE239.out) | exact HB.out)))
                              (case aF => exact (fun k_ hk => ⟨Kd.fresh' (Kd.R_lt (by (with_reducible repeat (first | apply Kd.R_alloc | apply Kd.R_drewN | apply Kd.R_drew)); exact HO_0.out)) k_ hk, Kd.fresh' (Kd.R_lt (by (with_reducible repeat (first | apply Kd.R_alloc | apply Kd.R_drewN | apply Kd.R_drew)); exact HO248.out)) k_ hk, Kd.freshB (g := gb239) (o := .cells #[.int .u64 (IntKind.u64.wrap (t232 + 1)), .string a1_0, .string a1_1, .bool a1_2] 39 (0, 0)) (by (with_reducible repeat (first | refine blk_drewN ?_ _ | refine blk_drew ?_ | refine blk_alloc ?_ _)); exact BK239.out) k_ hk⟩))
                              (case aO => exact (by (with_reducible repeat (first | apply Kd.R_alloc | apply Kd.R_drewN | apply Kd.R_drew)); exact Kd.R_mono HO242.out (fun _ hk => ⟨hk.1.1.2, ⟨hk.2, hk.1.2⟩⟩)))
                              (case aS => exact (below_size (by repeat (first | (with_reducible first | exact HB.out | apply below_alloc | apply pw_below_drewN | apply below_drew1 | refine below_set ?_ GE228.out | refine below_set ?_ GE239.out) | exact HB.out))))
                              (case aL => have := LMc26.out; omega)
                              intro v244 w39 ho hb hg hat
                              rw [← Ny243.out] at ho
                              have n0_ := Aside0.mk (Kd.R_after (ok := (fun k_ => some k_ ≠ (v247 : Value).ownBlock ∧ k_ ≠ gb239)) (by (with_reducible repeat (first | apply Kd.R_alloc | apply Kd.R_drewN | apply Kd.R_drew)); exact Kd.R_mono HO_0.out (fun _ hk => ⟨⟨hk.2, hk.1.1⟩, hk.1.2⟩)) hg hat)
                              have n1_ := Aside0.mk (blk_grown (g := gb228) (o := .cells #[.string a1_0, .string a1_1, .bool a1_2] 37 (0, 0)) (by (with_reducible repeat (first | refine blk_drewN ?_ _ | refine blk_drew ?_ | refine blk_alloc ?_ _)); exact BK228.out) hg (Kd.R_ne HO242.out BK228.out (by decide)))
                              have n2_ := Aside0.mk (blk_grown (g := gb239) (o := .cells #[.int .u64 (IntKind.u64.wrap (t232 + 1)), .string a1_0, .string a1_1, .bool a1_2] 39 (0, 0)) (by (with_reducible repeat (first | refine blk_drewN ?_ _ | refine blk_drew ?_ | refine blk_alloc ?_ _)); exact BK239.out) hg (Kd.R_away HO242.out (fun _ hk => hk.1.2)))
                              have n3_ := Aside0.mk (Kd.R_after (ok := (fun k_ => some k_ ≠ (.slice Ao8 t229.length co8 : Value).ownBlock ∧ k_ ≠ gb239)) (by (with_reducible repeat (first | apply Kd.R_alloc | apply Kd.R_drewN | apply Kd.R_drew)); exact Kd.R_mono HO248.out (fun _ hk => ⟨⟨hk.1.1.2, hk.2⟩, hk.1.2⟩)) hg hat)
                              have n4_ := Aside0.mk (hb)
                              have n5_ := Aside0.mk (ho)
                              clear HO_0
                              clear BK228
                              clear BK239
                              clear HO248
                              clear HB
                              clear HO242
                              have HO_0 := n0_
                              have BK228 := n1_
                              have BK239 := n2_
                              have HO248 := n3_
                              have HB := n4_
                              have HO245 := n5_
                              clear n0_ n1_ n2_ n3_ n4_ n5_
                              clear ho hb hg hat
                              refine hK.out _ _ ⟨(blk_cell BK239.out 0).trans rfl, (blk_cell BK239.out 1).trans rfl, (blk_cell BK239.out 2).trans rfl, (blk_cell BK239.out 3).trans rfl⟩ (fun hHeld => ?_)
                              clear hK K
                              refine norm_ (a' := ?_) ?_ ?_
                              rotate_left
                              · show Act.put _ (some 67) _ = _
                                simp only [Act.put, List.setIfInBounds_toArray, List.set_cons_zero, List.set_cons_succ, i64_w, i32_w]
                                rfl
                              exact norm_ (by simp only [putAll, Act.put, List.setIfInBounds_toArray, List.set_cons_zero, List.set_cons_succ]) (hCont (v241, v244, v247) _ ⟨hHeld, (by (with_reducible repeat (first | apply Kd.R_alloc | apply Kd.R_drewN | apply Kd.R_drew)); exact Kd.R_mono HO245.out (fun _ hk => ⟨hk.2.1, ⟨hk.1, hk.2.2⟩⟩)), (by (with_reducible repeat (first | apply Kd.R_alloc | apply Kd.R_drewN | apply Kd.R_drew)); exact Kd.R_mono HO248.out (fun _ hk => ⟨hk.2, ⟨hk.1.1, hk.1.2⟩⟩)), (by (with_reducible repeat (first | apply Kd.R_alloc | apply Kd.R_drewN | apply Kd.R_drew)); exact Kd.R_mono HO_0.out (fun _ hk => ⟨hk.2, ⟨hk.1.1, hk.1.2⟩⟩)), (by (with_reducible repeat (first | refine blk_drewN ?_ _ | refine blk_drew ?_ | refine blk_alloc ?_ _)); exact BK228.out), (by (with_reducible repeat (first | refine blk_drewN ?_ _ | refine blk_drew ?_ | refine blk_alloc ?_ _)); exact BK239.out), (by repeat (first | (with_reducible first | exact HB.out | apply below_alloc | apply pw_below_drewN | apply below_drew1 | refine below_set ?_ GE228.out | refine below_set ?_ GE239.out) | exact HB.out))⟩)
                          · skip
                            refine Kd.R_lit_step k39 _ 39 ?hg (N := 69) ?hd (xs := ([(⟨IntKind.u64.wrap (t232 + 1), (⟨a1_0, a1_1, a1_2⟩ : S37)⟩ : S39)] : List (S39))) (inner := [.int .u64 (IntKind.u64.wrap (t232 + 1)), .string a1_0, .string a1_1, .bool a1_2]) (ok := fun _ => True) (okp := fun _ => True) ?hr ?hp (fun _ hk => hk) trivial (Below.refl _ _) (Nat.le_refl _) (by simp) ?_; (case hd => rfl); (case hg => rfl); (case hr => first | (go_simp; done) | (go_simp; rfl)); (case hp => exact (Reps.c4 (show Kd.M k39 _ _ _ (⟨IntKind.u64.wrap (t232 + 1), (⟨a1_0, a1_1, a1_2⟩ : S37)⟩ : S39) [.int .u64 (IntKind.u64.wrap (t232 + 1)), .string a1_0, .string a1_1, .bool a1_2] from (k39_mkM _ _ _ (⟨IntKind.u64.wrap (t232 + 1), (⟨a1_0, a1_1, a1_2⟩ : S37)⟩ : S39) )) (Reps.none _ _)))
                            intro v247 w35 ho36 hb hg_ hnew_
                            clear hg_ hnew_
                            (first | rw [← Ny246.out] at ho36 | (simp only [Int.reduceToNat] at ho36; rw [← Ny246.out] at ho36))
                            have n0_ := Aside0.mk (Kd.R_elder' (by (with_reducible repeat (first | apply Kd.R_alloc | apply Kd.R_drewN | apply Kd.R_drew)); exact HO_0.out) (Kd.R_base ho36) hb)
                            have n1_ := Aside0.mk (Kd.R_lower (Kd.R_newB (Kd.R_new' ho36 (Kd.R_lt (by (with_reducible repeat (first | apply Kd.R_alloc | apply Kd.R_drewN | apply Kd.R_drew)); exact HO_0.out))) (g := gb239) (o := .cells #[.int .u64 (IntKind.u64.wrap (t232 + 1)), .string a1_0, .string a1_1, .bool a1_2] 39 (0, 0)) (by (with_reducible repeat (first | refine blk_drewN ?_ _ | refine blk_drew ?_ | refine blk_alloc ?_ _)); exact BK239.out)) (below_size (by repeat (first | (with_reducible first | exact HB.out | apply below_alloc | apply pw_below_drewN | apply below_drew1 | refine below_set ?_ GE228.out | refine below_set ?_ GE239.out) | exact HB.out))))
                            have n2_ := Aside0.mk (blk_below (g := gb228) (o := .cells #[.string a1_0, .string a1_1, .bool a1_2] 37 (0, 0)) (by (with_reducible repeat (first | refine blk_drewN ?_ _ | refine blk_drew ?_ | refine blk_alloc ?_ _)); exact BK228.out) hb)
                            have n3_ := Aside0.mk (blk_below (g := gb239) (o := .cells #[.int .u64 (IntKind.u64.wrap (t232 + 1)), .string a1_0, .string a1_1, .bool a1_2] 39 (0, 0)) (by (with_reducible repeat (first | refine blk_drewN ?_ _ | refine blk_drew ?_ | refine blk_alloc ?_ _)); exact BK239.out) hb)
                            have n4_ := Aside0.mk (below_step (by repeat (first | (with_reducible first | exact HB.out | apply below_alloc | apply pw_below_drewN | apply below_drew1 | refine below_set ?_ GE228.out | refine below_set ?_ GE239.out) | exact HB.out)) hb)
                            clear HO_0
                            clear BK228
                            clear BK239
                            clear HB
                            have HO_0 := n0_
                            have HO248 := n1_
                            have BK228 := n2_
                            have BK239 := n3_
                            have HB := n4_
                            clear n0_ n1_ n2_ n3_ n4_
                            clear hb ho36
                            refine hK.out _ _ ⟨(blk_cell BK239.out 0).trans rfl, (blk_cell BK239.out 1).trans rfl, (blk_cell BK239.out 2).trans rfl, (blk_cell BK239.out 3).trans rfl⟩ (fun hHeld => ?_)
                            clear hK K
                            refine norm_ (a' := ?_) ?_ ?_
                            rotate_left
                            · show Act.put _ (some 69) _ = _
                              simp only [Act.put, List.setIfInBounds_toArray, List.set_cons_zero, List.set_cons_succ, i64_w, i32_w]
                              rfl
                            refine one_ (i := 0) (N := some 65) #[true, true, false, true, true, false, true, false, false] rfl rfl (one_of HT_.out (by kernel_rfl)) (by decide) (fun K hK => ?_)
                            refine Kd.R_lit_step k39 _ 39 ?hg (N := 65) ?hd (xs := ([] : List (S39))) (inner := []) (ok := fun _ => True) (okp := fun _ => True) ?hr ?hp (fun _ hk => hk) trivial (Below.refl _ _) (Nat.le_refl _) (by simp) ?_; (case hd => rfl); (case hg => rfl); (case hr => first | (go_simp; done) | (go_simp; rfl)); (case hp => exact (Reps.none _ _))
                            intro v241 w37 ho38 hb hg_ hnew_
                            clear hg_ hnew_
                            (first | rw [← Ny240.out] at ho38 | (simp only [Int.reduceToNat] at ho38; rw [← Ny240.out] at ho38))
                            have n0_ := Aside0.mk (Kd.R_elder' (by (with_reducible repeat (first | apply Kd.R_alloc | apply Kd.R_drewN | apply Kd.R_drew)); exact HO_0.out) (Kd.R_base ho38) hb)
                            have n1_ := Aside0.mk (Kd.R_elder' (by (with_reducible repeat (first | apply Kd.R_alloc | apply Kd.R_drewN | apply Kd.R_drew)); exact HO248.out) (Kd.R_base ho38) hb)
                            have n2_ := Aside0.mk (Kd.R_lower (Kd.R_newB (Kd.R_new' (Kd.R_new' ho38 (Kd.R_lt (by (with_reducible repeat (first | apply Kd.R_alloc | apply Kd.R_drewN | apply Kd.R_drew)); exact HO_0.out))) (Kd.R_lt (by (with_reducible repeat (first | apply Kd.R_alloc | apply Kd.R_drewN | apply Kd.R_drew)); exact HO248.out))) (g := gb239) (o := .cells #[.int .u64 (IntKind.u64.wrap (t232 + 1)), .string a1_0, .string a1_1, .bool a1_2] 39 (0, 0)) (by (with_reducible repeat (first | refine blk_drewN ?_ _ | refine blk_drew ?_ | refine blk_alloc ?_ _)); exact BK239.out)) (below_size (by repeat (first | (with_reducible first | exact HB.out | apply below_alloc | apply pw_below_drewN | apply below_drew1 | refine below_set ?_ GE228.out | refine below_set ?_ GE239.out) | exact HB.out))))
                            have n3_ := Aside0.mk (blk_below (g := gb228) (o := .cells #[.string a1_0, .string a1_1, .bool a1_2] 37 (0, 0)) (by (with_reducible repeat (first | refine blk_drewN ?_ _ | refine blk_drew ?_ | refine blk_alloc ?_ _)); exact BK228.out) hb)
                            have n4_ := Aside0.mk (blk_below (g := gb239) (o := .cells #[.int .u64 (IntKind.u64.wrap (t232 + 1)), .string a1_0, .string a1_1, .bool a1_2] 39 (0, 0)) (by (with_reducible repeat (first | refine blk_drewN ?_ _ | refine blk_drew ?_ | refine blk_alloc ?_ _)); exact BK239.out) hb)
                            have n5_ := Aside0.mk (below_step (by repeat (first | (with_reducible first | exact HB.out | apply below_alloc | apply pw_below_drewN | apply below_drew1 | refine below_set ?_ GE228.out | refine below_set ?_ GE239.out) | exact HB.out)) hb)
                            clear HO_0
                            clear HO248
                            clear BK228
                            clear BK239
                            clear HB
                            have HO_0 := n0_
                            have HO248 := n1_
                            have HO242 := n2_
                            have BK228 := n3_
                            have BK239 := n4_
                            have HB := n5_
                            clear n0_ n1_ n2_ n3_ n4_ n5_
                            clear hb ho38
                            refine hK.out _ _ ⟨(blk_cell BK239.out 0).trans rfl, (blk_cell BK239.out 1).trans rfl, (blk_cell BK239.out 2).trans rfl, (blk_cell BK239.out 3).trans rfl⟩ (fun hHeld => ?_)
                            clear hK K
                            refine norm_ (a' := ?_) ?_ ?_
                            rotate_left
                            · show Act.put _ (some 65) _ = _
                              simp only [Act.put, List.setIfInBounds_toArray, List.set_cons_zero, List.set_cons_succ, i64_w, i32_w]
                              rfl
                            refine one_ (i := 2) (N := some 67) #[true, true, true, true, true, false, true, false, false] rfl rfl (one_of HT_.out (by kernel_rfl)) (by decide) (fun K hK => ?_)
                            refine Kd.R_append_rows_step k39 (w0 := w) w.heap.size (by rfl) (.tmp 65) (.tmp 66) 22 39 (.agg #[(.int .u64 0), (.string ⟨#[]⟩), (.string ⟨#[]⟩), (.bool false)]) 48 rfl Try.underlying22 info39 rfl (by decide) (by omega) v241 y240 t229 _ _ _ (fun k_ => some k_ ≠ (.slice Ao8 t229.length co8 : Value).ownBlock ∧ some k_ ≠ (v247 : Value).ownBlock ∧ k_ ≠ gb239) (fun _ => False) rfl rfl ?aO ?aR (fun _ _ h => h) (fun _ h => h.elim) ?aF ?aB ?aS ?aL ?_
                            (case aR => repeat (first | exact (Kd.R_reads' HO_0.out).2.2 | (with_reducible refine Kd.C_alloc ?_ _) | (with_reducible refine Kd.C_drewN ?_ _) | (with_reducible refine Kd.C_drew ?_)))
                            (case aB => exact (by repeat (first | (with_reducible first | exact HB.out | apply below_alloc | apply pw_below_drewN | apply below_drew1 | refine below_set ?_ GE228.out | refine below_set ?_ GE239.out) | exact HB.out)))
                            (case aF => exact (fun k_ hk => ⟨Kd.fresh' (Kd.R_lt (by (with_reducible repeat (first | apply Kd.R_alloc | apply Kd.R_drewN | apply Kd.R_drew)); exact HO_0.out)) k_ hk, Kd.fresh' (Kd.R_lt (by (with_reducible repeat (first | apply Kd.R_alloc | apply Kd.R_drewN | apply Kd.R_drew)); exact HO248.out)) k_ hk, Kd.freshB (g := gb239) (o := .cells #[.int .u64 (IntKind.u64.wrap (t232 + 1)), .string a1_0, .string a1_1, .bool a1_2] 39 (0, 0)) (by (with_reducible repeat (first | refine blk_drewN ?_ _ | refine blk_drew ?_ | refine blk_alloc ?_ _)); exact BK239.out) k_ hk⟩))
                            (case aO => exact (by (with_reducible repeat (first | apply Kd.R_alloc | apply Kd.R_drewN | apply Kd.R_drew)); exact Kd.R_mono HO242.out (fun _ hk => ⟨hk.1.1.2, ⟨hk.1.2, hk.2⟩⟩)))
                            (case aS => exact (below_size (by repeat (first | (with_reducible first | exact HB.out | apply below_alloc | apply pw_below_drewN | apply below_drew1 | refine below_set ?_ GE228.out | refine below_set ?_ GE239.out) | exact HB.out))))
                            (case aL => have := LMc26.out; omega)
                            intro v244 w39 ho hb hg hat
                            rw [← Ny243.out] at ho
                            have n0_ := Aside0.mk (Kd.R_after (ok := (fun k_ => some k_ ≠ (v247 : Value).ownBlock ∧ k_ ≠ gb239)) (by (with_reducible repeat (first | apply Kd.R_alloc | apply Kd.R_drewN | apply Kd.R_drew)); exact Kd.R_mono HO_0.out (fun _ hk => ⟨⟨hk.1.2, hk.1.1⟩, hk.2⟩)) hg hat)
                            have n1_ := Aside0.mk (blk_grown (g := gb228) (o := .cells #[.string a1_0, .string a1_1, .bool a1_2] 37 (0, 0)) (by (with_reducible repeat (first | refine blk_drewN ?_ _ | refine blk_drew ?_ | refine blk_alloc ?_ _)); exact BK228.out) hg (Kd.R_ne HO242.out BK228.out (by decide)))
                            have n2_ := Aside0.mk (blk_grown (g := gb239) (o := .cells #[.int .u64 (IntKind.u64.wrap (t232 + 1)), .string a1_0, .string a1_1, .bool a1_2] 39 (0, 0)) (by (with_reducible repeat (first | refine blk_drewN ?_ _ | refine blk_drew ?_ | refine blk_alloc ?_ _)); exact BK239.out) hg (Kd.R_away HO242.out (fun _ hk => hk.2)))
                            have n3_ := Aside0.mk (Kd.R_after (ok := (fun k_ => some k_ ≠ (.slice Ao8 t229.length co8 : Value).ownBlock ∧ k_ ≠ gb239)) (by (with_reducible repeat (first | apply Kd.R_alloc | apply Kd.R_drewN | apply Kd.R_drew)); exact Kd.R_mono HO248.out (fun _ hk => ⟨⟨hk.1.1.2, hk.1.2⟩, hk.2⟩)) hg hat)
                            have n4_ := Aside0.mk (hb)
                            have n5_ := Aside0.mk (ho)
                            clear HO_0
                            clear BK228
                            clear BK239
                            clear HO248
                            clear HB
                            clear HO242
                            have HO_0 := n0_
                            have BK228 := n1_
                            have BK239 := n2_
                            have HO248 := n3_
                            have HB := n4_
                            have HO245 := n5_
                            clear n0_ n1_ n2_ n3_ n4_ n5_
                            clear ho hb hg hat
                            refine hK.out _ _ ⟨(blk_cell BK239.out 0).trans rfl, (blk_cell BK239.out 1).trans rfl, (blk_cell BK239.out 2).trans rfl, (blk_cell BK239.out 3).trans rfl⟩ (fun hHeld => ?_)
                            clear hK K
                            refine norm_ (a' := ?_) ?_ ?_
                            rotate_left
                            · show Act.put _ (some 67) _ = _
                              simp only [Act.put, List.setIfInBounds_toArray, List.set_cons_zero, List.set_cons_succ, i64_w, i32_w]
                              rfl
                            exact norm_ (by simp only [putAll, Act.put, List.setIfInBounds_toArray, List.set_cons_zero, List.set_cons_succ]) (hCont (v241, v244, v247) _ ⟨hHeld, (by (with_reducible repeat (first | apply Kd.R_alloc | apply Kd.R_drewN | apply Kd.R_drew)); exact Kd.R_mono HO245.out (fun _ hk => ⟨hk.2.1, ⟨hk.1, hk.2.2⟩⟩)), (by (with_reducible repeat (first | apply Kd.R_alloc | apply Kd.R_drewN | apply Kd.R_drew)); exact Kd.R_mono HO248.out (fun _ hk => ⟨hk.2, ⟨hk.1.1, hk.1.2⟩⟩)), (by (with_reducible repeat (first | apply Kd.R_alloc | apply Kd.R_drewN | apply Kd.R_drew)); exact Kd.R_mono HO_0.out (fun _ hk => ⟨hk.2, ⟨hk.1.1, hk.1.2⟩⟩)), (by (with_reducible repeat (first | refine blk_drewN ?_ _ | refine blk_drew ?_ | refine blk_alloc ?_ _)); exact BK228.out), (by (with_reducible repeat (first | refine blk_drewN ?_ _ | refine blk_drew ?_ | refine blk_alloc ?_ _)); exact BK239.out), (by repeat (first | (with_reducible first | exact HB.out | apply below_alloc | apply pw_below_drewN | apply below_drew1 | refine below_set ?_ GE228.out | refine below_set ?_ GE239.out) | exact HB.out))⟩)
                        rintro ⟨v241, v244, v247⟩ w40 ⟨hS_, h0_, h1_, h2_, h3_, h4_, h5_⟩
                        have n0_ : Aside0 (Kd.R k39 39 w40 w.heap.size (fun k_ => some k_ ≠ (v247 : Value).ownBlock ∧ some k_ ≠ (.slice Ao8 t229.length co8 : Value).ownBlock ∧ k_ ≠ gb239) v244 y243) := ⟨h0_⟩
                        have n1_ : Aside0 (Kd.R k39 39 w40 w.heap.size (fun k_ => some k_ ≠ (v244 : Value).ownBlock ∧ some k_ ≠ (.slice Ao8 t229.length co8 : Value).ownBlock ∧ k_ ≠ gb239) v247 y246) := ⟨h1_⟩
                        have n2_ : Aside0 (Kd.R k39 39 w40 w.heap.size (fun k_ => some k_ ≠ (v244 : Value).ownBlock ∧ some k_ ≠ (v247 : Value).ownBlock ∧ k_ ≠ gb239) (.slice Ao8 t229.length co8) t229) := ⟨h2_⟩
                        have n3_ : Aside0 (w40.heap[gb228]? = some (.cells #[.string a1_0, .string a1_1, .bool a1_2] 37 (0, 0))) := ⟨h3_⟩
                        have n4_ : Aside0 (w40.heap[gb239]? = some (.cells #[.int .u64 (IntKind.u64.wrap (t232 + 1)), .string a1_0, .string a1_1, .bool a1_2] 39 (0, 0))) := ⟨h4_⟩
                        have n5_ : Aside0 (Below w.heap.size w w40) := ⟨h5_⟩
                        clear HO_0
                        clear BK228
                        clear BK239
                        clear HB
                        clear h0_ h1_ h2_ h3_ h4_ h5_
                        have HO245 := n0_
                        have HO248 := n1_
                        have HO_0 := n2_
                        have BK228 := n3_
                        have BK239 := n4_
                        have HB := n5_
                        clear n0_ n1_ n2_ n3_ n4_ n5_
                        have hHeld : w40.cell? ⟨gb239, 0, none⟩ = some (.int .u64 (IntKind.u64.wrap (t232 + 1))) ∧ w40.cell? ⟨gb239, 1, none⟩ = some (.string a1_0) ∧ w40.cell? ⟨gb239, 2, none⟩ = some (.string a1_1) ∧ w40.cell? ⟨gb239, 3, none⟩ = some (.bool a1_2) := hS_
                        obtain ⟨Ao42, co42, eo42⟩ := Kd.R_slice HO248.out
                        (first | subst eo42 | (injection eo42 with f1_ f2_ f3_; have f4_ := f1_.symm; have f5_ := f3_.symm; clear f1_ f2_ f3_; subst f4_; subst f5_))
                        refine norm_ (a' := ?_) ?_ ?_
                        rotate_left
                        · simp only [putAll, Act.put, List.setIfInBounds_toArray, List.set_cons_zero, List.set_cons_succ]
                          rfl
                        refine one_ (i := 5) (N := some 70) #[true, true, true, true, true, true, true, false, false] rfl rfl (one_of HT_.out (by kernel_rfl)) (by decide) (fun K hK => ?_)
                        refine Kd.R_append_rows_step k39 (w0 := w) w.heap.size (by rfl) (.tmp 67) (.tmp 69) 22 39 (.agg #[(.int .u64 0), (.string ⟨#[]⟩), (.string ⟨#[]⟩), (.bool false)]) 48 rfl Try.underlying22 info39 rfl (by decide) (by omega) v244 y243 y246 _ _ _ (fun k_ => some k_ ≠ (.slice Ao8 t229.length co8 : Value).ownBlock ∧ some k_ ≠ (.slice Ao42 y246.length co42 : Value).ownBlock ∧ k_ ≠ gb239) (fun _ => False) rfl rfl ?aO ?aR (fun _ _ h => h) (fun _ h => h.elim) ?aF ?aB ?aS ?aL ?_
                        (case aR => repeat (first | exact (Kd.R_reads' HO248.out).2.2 | (with_reducible refine Kd.C_alloc ?_ _) | (with_reducible refine Kd.C_drewN ?_ _) | (with_reducible refine Kd.C_drew ?_)))
                        (case aB => exact (by repeat (first | (with_reducible first | exact HB.out | apply below_alloc | apply pw_below_drewN | apply below_drew1 | refine below_set ?_ GE228.out | refine below_set ?_ GE239.out) | exact HB.out)))
                        (case aF => exact (fun k_ hk => ⟨Kd.fresh' (Kd.R_lt (by (with_reducible repeat (first | apply Kd.R_alloc | apply Kd.R_drewN | apply Kd.R_drew)); exact HO_0.out)) k_ hk, Kd.fresh' (Kd.R_lt (by (with_reducible repeat (first | apply Kd.R_alloc | apply Kd.R_drewN | apply Kd.R_drew)); exact HO248.out)) k_ hk, Kd.freshB (g := gb239) (o := .cells #[.int .u64 (IntKind.u64.wrap (t232 + 1)), .string a1_0, .string a1_1, .bool a1_2] 39 (0, 0)) (by (with_reducible repeat (first | refine blk_drewN ?_ _ | refine blk_drew ?_ | refine blk_alloc ?_ _)); exact BK239.out) k_ hk⟩))
                        (case aO => exact (by (with_reducible repeat (first | apply Kd.R_alloc | apply Kd.R_drewN | apply Kd.R_drew)); exact Kd.R_mono HO245.out (fun _ hk => ⟨hk.2.1, ⟨hk.1, hk.2.2⟩⟩)))
                        (case aS => exact (below_size (by repeat (first | (with_reducible first | exact HB.out | apply below_alloc | apply pw_below_drewN | apply below_drew1 | refine below_set ?_ GE228.out | refine below_set ?_ GE239.out) | exact HB.out))))
                        (case aL => have := LMc27.out; omega)
                        intro v250 w41 ho hb hg hat
                        rw [← Ny249.out] at ho
                        have n0_ := Aside0.mk (Kd.R_after (ok := (fun k_ => some k_ ≠ (.slice Ao42 y246.length co42 : Value).ownBlock ∧ k_ ≠ gb239)) (by (with_reducible repeat (first | apply Kd.R_alloc | apply Kd.R_drewN | apply Kd.R_drew)); exact Kd.R_mono HO_0.out (fun _ hk => ⟨⟨hk.2.1, hk.2.2⟩, hk.1⟩)) hg hat)
                        have n1_ := Aside0.mk (blk_grown (g := gb228) (o := .cells #[.string a1_0, .string a1_1, .bool a1_2] 37 (0, 0)) (by (with_reducible repeat (first | refine blk_drewN ?_ _ | refine blk_drew ?_ | refine blk_alloc ?_ _)); exact BK228.out) hg (Kd.R_ne HO245.out BK228.out (by decide)))
                        have n2_ := Aside0.mk (blk_grown (g := gb239) (o := .cells #[.int .u64 (IntKind.u64.wrap (t232 + 1)), .string a1_0, .string a1_1, .bool a1_2] 39 (0, 0)) (by (with_reducible repeat (first | refine blk_drewN ?_ _ | refine blk_drew ?_ | refine blk_alloc ?_ _)); exact BK239.out) hg (Kd.R_away HO245.out (fun _ hk => hk.2.2)))
                        have n3_ := Aside0.mk (Kd.R_after (ok := (fun k_ => some k_ ≠ (.slice Ao8 t229.length co8 : Value).ownBlock ∧ k_ ≠ gb239)) (by (with_reducible repeat (first | apply Kd.R_alloc | apply Kd.R_drewN | apply Kd.R_drew)); exact Kd.R_mono HO248.out (fun _ hk => ⟨⟨hk.2.1, hk.2.2⟩, hk.1⟩)) hg hat)
                        have n4_ := Aside0.mk (hb)
                        have n5_ := Aside0.mk (ho)
                        clear HO_0
                        clear BK228
                        clear BK239
                        clear HO248
                        clear HB
                        clear HO245
                        have HO_0 := n0_
                        have BK228 := n1_
                        have BK239 := n2_
                        have HO248 := n3_
                        have HB := n4_
                        have HO251 := n5_
                        clear n0_ n1_ n2_ n3_ n4_ n5_
                        clear ho hb hg hat
                        obtain ⟨Ao43, co43, eo43⟩ := Kd.R_slice HO251.out
                        (first | subst eo43 | (injection eo43 with f1_ f2_ f3_; have f4_ := f1_.symm; have f5_ := f3_.symm; clear f1_ f2_ f3_; subst f4_; subst f5_))
                        refine hK.out _ _ ⟨(blk_cell BK239.out 0).trans rfl, (blk_cell BK239.out 1).trans rfl, (blk_cell BK239.out 2).trans rfl, (blk_cell BK239.out 3).trans rfl⟩ (fun hHeld => ?_)
                        clear hK K
                        refine norm_ (a' := ?_) ?_ ?_
                        rotate_left
                        · show Act.put _ (some 70) _ = _
                          simp only [Act.put, List.setIfInBounds_toArray, List.set_cons_zero, List.set_cons_succ, i64_w, i32_w]
                          rfl
                        refine one_ (i := 7) (N := some 72) #[true, true, true, true, true, true, true, true, false] rfl rfl (one_of HT_.out (by kernel_rfl)) (by decide) (fun K hK => ?_)
                        refine goes_ Try.func20 (by kernel_rfl) rfl #[.slice Ao43 y249.length co43, .slice Ao8 t229.length co8] (by rfl) rfl rfl (by (try simp only [List.map_toArray, List.map_cons, List.map_nil]); first | done | rfl | (simp only [List.length_drop, List.length_take]; rfl)) ?_
                        with_reducible refine (change_Live.calls _ _ y249 _ _ t229 t252 _ ?side1 ?side2 ?side3 ?side4 A28.out).mono ?_
                        (case side1 => repeat (first | exact (Kd.R_reads' HO251.out).2.2 | (with_reducible refine Kd.C_alloc ?_ _) | (with_reducible refine Kd.C_drewN ?_ _) | (with_reducible refine Kd.C_drew ?_)))
                        (case side2 => exact (Kd.R_reads' HO251.out).2.1)
                        (case side3 => repeat (first | exact (Kd.R_reads' HO_0.out).2.2 | (with_reducible refine Kd.C_alloc ?_ _) | (with_reducible refine Kd.C_drewN ?_ _) | (with_reducible refine Kd.C_drew ?_)))
                        (case side4 => exact (Kd.R_reads' HO_0.out).2.1)
                        rintro e w44 ⟨v253, rfl, ho0, hb⟩
                        refine ⟨_, rfl, ?_⟩
                        have n0_ := Aside0.mk (Kd.R_elder' (by (with_reducible repeat (first | apply Kd.R_alloc | apply Kd.R_drewN | apply Kd.R_drew)); exact HO_0.out) (Kd.R_base ho0) hb)
                        have n1_ := Aside0.mk (Kd.R_elder' (by (with_reducible repeat (first | apply Kd.R_alloc | apply Kd.R_drewN | apply Kd.R_drew)); exact HO248.out) (Kd.R_base ho0) hb)
                        have n2_ := Aside0.mk (Kd.R_elder' (by (with_reducible repeat (first | apply Kd.R_alloc | apply Kd.R_drewN | apply Kd.R_drew)); exact HO251.out) (Kd.R_base ho0) hb)
                        have n3_ := Aside0.mk (Kd.R_lower (Kd.R_newB (Kd.R_new' (Kd.R_new' (Kd.R_new' ho0 (Kd.R_lt (by (with_reducible repeat (first | apply Kd.R_alloc | apply Kd.R_drewN | apply Kd.R_drew)); exact HO_0.out))) (Kd.R_lt (by (with_reducible repeat (first | apply Kd.R_alloc | apply Kd.R_drewN | apply Kd.R_drew)); exact HO248.out))) (Kd.R_lt (by (with_reducible repeat (first | apply Kd.R_alloc | apply Kd.R_drewN | apply Kd.R_drew)); exact HO251.out))) (g := gb239) (o := .cells #[.int .u64 (IntKind.u64.wrap (t232 + 1)), .string a1_0, .string a1_1, .bool a1_2] 39 (0, 0)) (by (with_reducible repeat (first | refine blk_drewN ?_ _ | refine blk_drew ?_ | refine blk_alloc ?_ _)); exact BK239.out)) (below_size (by repeat (first | (with_reducible first | exact HB.out | apply below_alloc | apply pw_below_drewN | apply below_drew1 | refine below_set ?_ GE228.out | refine below_set ?_ GE239.out) | exact HB.out))))
                        have n4_ := Aside0.mk (blk_below (g := gb228) (o := .cells #[.string a1_0, .string a1_1, .bool a1_2] 37 (0, 0)) (by (with_reducible repeat (first | refine blk_drewN ?_ _ | refine blk_drew ?_ | refine blk_alloc ?_ _)); exact BK228.out) hb)
                        have n5_ := Aside0.mk (blk_below (g := gb239) (o := .cells #[.int .u64 (IntKind.u64.wrap (t232 + 1)), .string a1_0, .string a1_1, .bool a1_2] 39 (0, 0)) (by (with_reducible repeat (first | refine blk_drewN ?_ _ | refine blk_drew ?_ | refine blk_alloc ?_ _)); exact BK239.out) hb)
                        have n6_ := Aside0.mk (below_step (by repeat (first | (with_reducible first | exact HB.out | apply below_alloc | apply pw_below_drewN | apply below_drew1 | refine below_set ?_ GE228.out | refine below_set ?_ GE239.out) | exact HB.out)) hb)
                        clear HO_0
                        clear HO248
                        clear HO251
                        clear BK228
                        clear BK239
                        clear HB
                        have HO_0 := n0_
                        have HO248 := n1_
                        have HO251 := n2_
                        have HO254 := n3_
                        have BK228 := n4_
                        have BK239 := n5_
                        have HB := n6_
                        clear n0_ n1_ n2_ n3_ n4_ n5_ n6_
                        (try clear hb)
                        (try clear hb2)
                        (try clear hk)
                        (try clear hi)
                        (try clear ho0)
                        refine hK.out _ _ ⟨(blk_cell BK239.out 0).trans rfl, (blk_cell BK239.out 1).trans rfl, (blk_cell BK239.out 2).trans rfl, (blk_cell BK239.out 3).trans rfl⟩ (fun hHeld => ?_)
                        clear hK K
                        refine norm_ (a' := ?_) ?_ ?_
                        rotate_left
                        · show Act.put _ (some 72) _ = _
                          simp only [Act.put, List.setIfInBounds_toArray, List.set_cons_zero, List.set_cons_succ, i64_w, i32_w]
                          rfl
                        refine pure_ (i := 8) (N := some 11) (v := ?_) (a' := ?_) #[true, true, true, true, true, true, true, true, true] rfl rfl (any_of HT_.out (by kernel_rfl)) (fun _ _ _ h => h) (Or.inl ⟨by rfl, ?_⟩) ?_ ?_
                        rotate_left
                        · intro w'
                          go_simp
                          with_reducible rfl
                        rotate_left
                        · simp only [Act.put, List.setIfInBounds_toArray, List.set_cons_zero, List.set_cons_succ, i64_w, i32_w]
                          rfl
                        refine done_ (done_of HT_.out (by kernel_rfl)) ?_
                        try go_wp2
                        go_loopg [12] kj18 (fun kq v12 w' => ∃ (x12_4 : Int), v12 = .int .i64 x12_4 ∧ Aside0 (cellarerlaw12_ChangeLast.l2 kq t252 x12_4 a1_0 a1_1 a1_2 = some r) ∧ Aside0 (kq ≤ kj18) ∧ Aside0 (Kd.R k39 39 w' w.heap.size (fun k_ => k_ ≠ gb239) v253 t252) ∧ Aside0 (w'.heap[gb228]? = some (.cells #[.string a1_0, .string a1_1, .bool a1_2] 37 (0, 0))) ∧ Aside0 (w'.heap[gb239]? = some (.cells #[.int .u64 (IntKind.u64.wrap (t232 + 1)), .string a1_0, .string a1_1, .bool a1_2] 39 (0, 0))) ∧ Aside0 (Below w.heap.size w w'))
                        case atStart => exact ⟨(0), (by first | rfl | (simp; done) | (simp [*]; done)), H', ⟨Nat.le_refl _⟩, ⟨by (with_reducible repeat (first | apply Kd.R_alloc | apply Kd.R_drewN | apply Kd.R_drew)); exact Kd.R_mono HO254.out (fun _ hk => hk.2)⟩, ⟨by (with_reducible repeat (first | refine blk_drewN ?_ _ | refine blk_drew ?_ | refine blk_alloc ?_ _)); exact BK228.out⟩, ⟨by (with_reducible repeat (first | refine blk_drewN ?_ _ | refine blk_drew ?_ | refine blk_alloc ?_ _)); exact BK239.out⟩, ⟨by repeat (first | (with_reducible first | exact HB.out | apply below_alloc | apply pw_below_drewN | apply below_drew1 | refine below_set ?_ GE228.out | refine below_set ?_ GE239.out) | exact HB.out)⟩⟩
                        case round =>
                          clear H'
                          try clear c1
                          try clear c2
                          try clear p2
                          try clear q2
                          try clear hx2
                          try clear c3
                          try clear c4
                          try clear p6
                          try clear c7
                          try clear c10
                          try clear c11
                          try clear c11b0
                          try clear c12
                          try clear c12b0
                          try clear c13
                          try clear c13b0
                          try clear c14
                          try clear c14b0
                          try clear c15
                          try clear c17
                          try clear c17b0
                          try clear c19
                          try clear c20
                          try clear c21
                          try clear c22
                          try clear c23
                          try clear p23
                          try clear q23
                          try clear hx23
                          try clear c26
                          try clear c27
                          try clear c31
                          try clear hcz29_0
                          try clear hcz29_1
                          try clear hcz29_2
                          try clear hcz32_0
                          try clear hcz32_1
                          try clear hcz32_2
                          try clear hcz32_3
                          try clear hfz29_0
                          try clear hfz29_1
                          try clear hfz29_2
                          try clear hfz32_0
                          try clear hfz32_1
                          try clear hfz32_2
                          try clear hfz32_3
                          try clear hx236_0
                          try clear hx236_1
                          try clear hx236_2
                          try clear hx236_3
                          try clear hx237_0
                          try clear hx237_1
                          try clear hx237_2
                          try clear hx237_3
                          try clear p2
                          try clear p236
                          try clear p237
                          try clear p6
                          try clear q2
                          try clear q236
                          try clear q237
                          obtain ⟨x12_4, rfl, HA, HK4, HO_11, BK228, BK239, HB⟩ := hrel
                          cases gk with
                          | zero => exact absurd HA.out (by simp [cellarerlaw12_ChangeLast.l2])
                          | succ k4 =>
                            have H := HA.out
                            clear HA
                            simp only [cellarerlaw12_ChangeLast.l2] at H
                            by_cases c45 : x12_4 < (t252.length : Int)
                            · rw [if_pos c45] at H
                              have c45b0 : decide (x12_4 < (t252.length : Int)) = true := decide_eq_true c45
                              clear c45
                              by_cases c46 : 0 ≤ x12_4
                              · rw [if_pos c46] at H
                                have c46b0 : decide (0 ≤ x12_4) = true := decide_eq_true c46
                                clear c46
                                by_cases c47 : ((rd_T39 t252 x12_4).f1.f0).toList = a1_0.toList
                                · rw [if_pos c47] at H
                                  have c47b0 : (((rd_T39 t252 x12_4).f1.f0).toList == a1_0.toList) = true := beq_iff_eq.mpr c47
                                  have c47b1 : (((rd_T39 t252 x12_4).f1.f0).toList != a1_0.toList) = false := bne_eq_false_iff_eq.mpr c47
                                  clear c47
                                  obtain rfl := Option.some.inj H
                                  obtain ⟨Ao48, co48, eo48⟩ := Kd.R_slice HO_11.out
                                  subst eo48
                                  try go_wp2
                                  have n0_ := Aside0.mk (Kd.R_drew HO_11.out)
                                  have n1_ := Aside0.mk (blk_drew BK228.out)
                                  have n2_ := Aside0.mk (blk_drew BK239.out)
                                  have n3_ := Aside0.mk (below_drew1 HB.out)
                                  clear HO_11
                                  clear BK228
                                  clear BK239
                                  clear HB
                                  have HO_11 := n0_
                                  have BK228 := n1_
                                  have BK239 := n2_
                                  have HB := n3_
                                  clear n0_ n1_ n2_ n3_
                                  have p255 : 0 ≤ (x12_4 : Int) := of_decide_eq_true (by first | (with_reducible assumption) | assumption)
                                  have q255 : x12_4 < (t252.length : Int) := of_decide_eq_true (by first | (with_reducible assumption) | assumption)
                                  obtain ⟨ad255, e255, hx255_0, hx255_1, hx255_2, hx255_3⟩ := at_T39 (Kd.R_reads' HO_11.out).2.2 x12_4 p255 q255
                                  cases e255
                                  replace p255 := eq_true p255
                                  replace q255 := eq_true q255
                                  refine start_ (n := 9) (S := fun w' => w'.cell? ⟨gb228, 0, none⟩ = some (.string a1_0) ∧ w'.cell? ⟨gb228, 1, none⟩ = some (.string a1_1) ∧ w'.cell? ⟨gb228, 2, none⟩ = some (.bool a1_2) ∧ w'.cell? (ad255.add ((x12_4).toNat * 4)) = some (.int .u64 ((rd_T39 t252 x12_4).f0)) ∧ w'.cell? ⟨(ad255.add ((x12_4).toNat * 4)).block, (ad255.add ((x12_4).toNat * 4)).off + 1, none⟩ = some (.string ((rd_T39 t252 x12_4).f1.f0)) ∧ w'.cell? ⟨(ad255.add ((x12_4).toNat * 4)).block, (ad255.add ((x12_4).toNat * 4)).off + 2, none⟩ = some (.string ((rd_T39 t252 x12_4).f1.f1)) ∧ w'.cell? ⟨(ad255.add ((x12_4).toNat * 4)).block, (ad255.add ((x12_4).toNat * 4)).off + 3, none⟩ = some (.bool ((rd_T39 t252 x12_4).f1.f2))) (ds := []) #[false, false, false, false, false, false, false, false, false] (by kernel_rfl) rfl rfl ⟨(blk_cell BK228.out 0).trans rfl, (blk_cell BK228.out 1).trans rfl, (blk_cell BK228.out 2).trans rfl, hx255_0, hx255_1, hx255_2, hx255_3⟩ (fun hHeld => ?_); refine with_tabW cellarerlaw12_ChangeLast.tab21 cellarerlaw12_ChangeLast.bits21 (fun HT_ HW_ => ?_)
                                  generalize wr.drew = w49 at HO_11 BK228 BK239 HB hx255_0 hx255_1 hx255_2 hx255_3 hHeld ⊢
                                  refine pure_ (i := 0) (N := some 79) (v := ?_) (a' := ?_) #[true, false, false, false, false, false, false, false, false] rfl rfl (any_of HT_.out (by kernel_rfl)) (fun _ _ _ h => h) (Or.inl ⟨by rfl, ?_⟩) ?_ ?_
                                  rotate_left
                                  · intro w'
                                    go_simp
                                    with_reducible rfl
                                  rotate_left
                                  · simp only [Act.put, List.setIfInBounds_toArray, List.set_cons_zero, List.set_cons_succ, i64_w, i32_w]
                                    rfl
                                  refine pure_ (i := 1) (N := some 80) (v := ?_) (a' := ?_) #[true, true, false, false, false, false, false, false, false] rfl rfl (any_of HT_.out (by kernel_rfl)) (fun _ _ _ h => h) (Or.inl ⟨by rfl, ?_⟩) ?_ ?_
                                  rotate_left
                                  · intro w'
                                    go_simp
                                    with_reducible rfl
                                  rotate_left
                                  · simp only [Act.put, List.setIfInBounds_toArray, List.set_cons_zero, List.set_cons_succ, i64_w, i32_w]
                                    rfl
                                  refine pure_ (i := 2) (N := some 81) (v := ?_) (a' := ?_) #[true, true, true, false, false, false, false, false, false] rfl rfl (any_of HT_.out (by kernel_rfl)) (fun _ _ _ h => h) (Or.inl ⟨by rfl, ?_⟩) ?_ ?_
                                  rotate_left
                                  · intro w'
                                    go_simp
                                    with_reducible rfl
                                  rotate_left
                                  · simp only [Act.put, List.setIfInBounds_toArray, List.set_cons_zero, List.set_cons_succ, i64_w, i32_w]
                                    rfl
                                  refine pure_ (i := 3) (N := some 82) (v := ?_) (a' := ?_) #[true, true, true, true, false, false, false, false, false] rfl rfl (any_of HT_.out (by kernel_rfl)) (fun _ _ _ h => h) (Or.inl ⟨by rfl, ?_⟩) ?_ ?_
                                  rotate_left
                                  · intro w'
                                    go_simp
                                    with_reducible rfl
                                  rotate_left
                                  · simp only [Act.put, List.setIfInBounds_toArray, List.set_cons_zero, List.set_cons_succ, i64_w, i32_w]
                                    rfl
                                  refine pure_ (i := 4) (N := some 83) (v := ?_) (a' := ?_) #[true, true, true, true, true, false, false, false, false] rfl rfl (any_of HT_.out (by kernel_rfl)) (fun _ _ _ h => h) (Or.inl ⟨by rfl, ?_⟩) ?_ ?_
                                  rotate_left
                                  · intro w'
                                    go_simp
                                    with_reducible rfl
                                  rotate_left
                                  · simp only [Act.put, List.setIfInBounds_toArray, List.set_cons_zero, List.set_cons_succ, i64_w, i32_w]
                                    rfl
                                  refine pure_ (i := 6) (N := some 85) (v := ?_) (a' := ?_) #[true, true, true, true, true, false, true, false, false] rfl rfl (any_of HT_.out (by kernel_rfl)) (fun _ _ _ h => h) (Or.inl ⟨by rfl, ?_⟩) ?_ ?_
                                  rotate_left
                                  · intro w'
                                    go_simp
                                    with_reducible rfl
                                  rotate_left
                                  · simp only [Act.put, List.setIfInBounds_toArray, List.set_cons_zero, List.set_cons_succ, i64_w, i32_w]
                                    rfl
                                  refine take_ (i := 5) (N := some 84) (v := ?_) (a' := ?_) #[true, true, true, true, true, true, true, false, false] rfl rfl (take_ofW HT_.out HW_.out (by kernel_rfl)) (fun _ _ _ h => h) (Or.inl ⟨by rfl, ?_⟩) hHeld ?_ ?_
                                  rotate_left
                                  · rintro w' ⟨s0, s1, s2, s3, s4, s5, s6⟩
                                    go_simp
                                    with_reducible rfl
                                  rotate_left
                                  · simp only [Act.put, List.setIfInBounds_toArray, List.set_cons_zero, List.set_cons_succ, i64_w, i32_w]
                                    rfl
                                  refine take_ (i := 7) (N := some 86) (v := ?_) (a' := ?_) #[true, true, true, true, true, true, true, true, false] rfl rfl (take_ofW HT_.out HW_.out (by kernel_rfl)) (fun _ _ _ h => h) (Or.inl ⟨by rfl, ?_⟩) hHeld ?_ ?_
                                  rotate_left
                                  · rintro w' ⟨s0, s1, s2, s3, s4, s5, s6⟩
                                    go_simp
                                    with_reducible rfl
                                  rotate_left
                                  · simp only [Act.put, List.setIfInBounds_toArray, List.set_cons_zero, List.set_cons_succ, i64_w, i32_w]
                                    rfl
                                  refine pure_ (i := 8) (N := some 87) (v := ?_) (a' := ?_) #[true, true, true, true, true, true, true, true, true] rfl rfl (any_of HT_.out (by kernel_rfl)) (fun _ _ _ h => h) (Or.inl ⟨by rfl, ?_⟩) ?_ ?_
                                  rotate_left
                                  · intro w'
                                    go_simp
                                    with_reducible rfl
                                  rotate_left
                                  · simp only [Act.put, List.setIfInBounds_toArray, List.set_cons_zero, List.set_cons_succ, i64_w, i32_w]
                                    rfl
                                  refine done_ (done_of HT_.out (by kernel_rfl)) ?_
                                  try go_wp2
                                  go_ret
                                  exact ⟨by first | rfl | (simp [errW_none, errW_some] <;> rfl) | (simp [*, errW_none, errW_some] <;> rfl), by repeat (first | (with_reducible first | exact HB.out | apply below_alloc | apply pw_below_drewN | apply below_drew1 | refine below_set ?_ GE228.out | refine below_set ?_ GE239.out) | exact HB.out)⟩
                                · rw [if_neg c47] at H
                                  have c47b0 : (((rd_T39 t252 x12_4).f1.f0).toList == a1_0.toList) = false := beq_eq_false_iff_ne.mpr c47
                                  have c47b1 : (((rd_T39 t252 x12_4).f1.f0).toList != a1_0.toList) = true := bne_iff_ne.mpr c47
                                  have H' := Aside0.mk H
                                  clear H
                                  obtain ⟨Ao50, co50, eo50⟩ := Kd.R_slice HO_11.out
                                  subst eo50
                                  try go_wp2
                                  have n0_ := Aside0.mk (Kd.R_drew HO_11.out)
                                  have n1_ := Aside0.mk (blk_drew BK228.out)
                                  have n2_ := Aside0.mk (blk_drew BK239.out)
                                  have n3_ := Aside0.mk (below_drew1 HB.out)
                                  clear HO_11
                                  clear BK228
                                  clear BK239
                                  clear HB
                                  have HO_11 := n0_
                                  have BK228 := n1_
                                  have BK239 := n2_
                                  have HB := n3_
                                  clear n0_ n1_ n2_ n3_
                                  have p255 : 0 ≤ (x12_4 : Int) := of_decide_eq_true (by first | (with_reducible assumption) | assumption)
                                  have q255 : x12_4 < (t252.length : Int) := of_decide_eq_true (by first | (with_reducible assumption) | assumption)
                                  obtain ⟨ad255, e255, hx255_0, hx255_1, hx255_2, hx255_3⟩ := at_T39 (Kd.R_reads' HO_11.out).2.2 x12_4 p255 q255
                                  cases e255
                                  replace p255 := eq_true p255
                                  replace q255 := eq_true q255
                                  refine start_ (n := 9) (S := fun w' => w'.cell? ⟨gb228, 0, none⟩ = some (.string a1_0) ∧ w'.cell? ⟨gb228, 1, none⟩ = some (.string a1_1) ∧ w'.cell? ⟨gb228, 2, none⟩ = some (.bool a1_2) ∧ w'.cell? (ad255.add ((x12_4).toNat * 4)) = some (.int .u64 ((rd_T39 t252 x12_4).f0)) ∧ w'.cell? ⟨(ad255.add ((x12_4).toNat * 4)).block, (ad255.add ((x12_4).toNat * 4)).off + 1, none⟩ = some (.string ((rd_T39 t252 x12_4).f1.f0)) ∧ w'.cell? ⟨(ad255.add ((x12_4).toNat * 4)).block, (ad255.add ((x12_4).toNat * 4)).off + 2, none⟩ = some (.string ((rd_T39 t252 x12_4).f1.f1)) ∧ w'.cell? ⟨(ad255.add ((x12_4).toNat * 4)).block, (ad255.add ((x12_4).toNat * 4)).off + 3, none⟩ = some (.bool ((rd_T39 t252 x12_4).f1.f2))) (ds := []) #[false, false, false, false, false, false, false, false, false] (by kernel_rfl) rfl rfl ⟨(blk_cell BK228.out 0).trans rfl, (blk_cell BK228.out 1).trans rfl, (blk_cell BK228.out 2).trans rfl, hx255_0, hx255_1, hx255_2, hx255_3⟩ (fun hHeld => ?_); refine with_tabW cellarerlaw12_ChangeLast.tab21 cellarerlaw12_ChangeLast.bits21 (fun HT_ HW_ => ?_)
                                  generalize wr.drew = w51 at HO_11 BK228 BK239 HB hx255_0 hx255_1 hx255_2 hx255_3 hHeld ⊢
                                  refine pure_ (i := 0) (N := some 79) (v := ?_) (a' := ?_) #[true, false, false, false, false, false, false, false, false] rfl rfl (any_of HT_.out (by kernel_rfl)) (fun _ _ _ h => h) (Or.inl ⟨by rfl, ?_⟩) ?_ ?_
                                  rotate_left
                                  · intro w'
                                    go_simp
                                    with_reducible rfl
                                  rotate_left
                                  · simp only [Act.put, List.setIfInBounds_toArray, List.set_cons_zero, List.set_cons_succ, i64_w, i32_w]
                                    rfl
                                  refine pure_ (i := 1) (N := some 80) (v := ?_) (a' := ?_) #[true, true, false, false, false, false, false, false, false] rfl rfl (any_of HT_.out (by kernel_rfl)) (fun _ _ _ h => h) (Or.inl ⟨by rfl, ?_⟩) ?_ ?_
                                  rotate_left
                                  · intro w'
                                    go_simp
                                    with_reducible rfl
                                  rotate_left
                                  · simp only [Act.put, List.setIfInBounds_toArray, List.set_cons_zero, List.set_cons_succ, i64_w, i32_w]
                                    rfl
                                  refine pure_ (i := 2) (N := some 81) (v := ?_) (a' := ?_) #[true, true, true, false, false, false, false, false, false] rfl rfl (any_of HT_.out (by kernel_rfl)) (fun _ _ _ h => h) (Or.inl ⟨by rfl, ?_⟩) ?_ ?_
                                  rotate_left
                                  · intro w'
                                    go_simp
                                    with_reducible rfl
                                  rotate_left
                                  · simp only [Act.put, List.setIfInBounds_toArray, List.set_cons_zero, List.set_cons_succ, i64_w, i32_w]
                                    rfl
                                  refine pure_ (i := 3) (N := some 82) (v := ?_) (a' := ?_) #[true, true, true, true, false, false, false, false, false] rfl rfl (any_of HT_.out (by kernel_rfl)) (fun _ _ _ h => h) (Or.inl ⟨by rfl, ?_⟩) ?_ ?_
                                  rotate_left
                                  · intro w'
                                    go_simp
                                    with_reducible rfl
                                  rotate_left
                                  · simp only [Act.put, List.setIfInBounds_toArray, List.set_cons_zero, List.set_cons_succ, i64_w, i32_w]
                                    rfl
                                  refine pure_ (i := 4) (N := some 83) (v := ?_) (a' := ?_) #[true, true, true, true, true, false, false, false, false] rfl rfl (any_of HT_.out (by kernel_rfl)) (fun _ _ _ h => h) (Or.inl ⟨by rfl, ?_⟩) ?_ ?_
                                  rotate_left
                                  · intro w'
                                    go_simp
                                    with_reducible rfl
                                  rotate_left
                                  · simp only [Act.put, List.setIfInBounds_toArray, List.set_cons_zero, List.set_cons_succ, i64_w, i32_w]
                                    rfl
                                  refine pure_ (i := 6) (N := some 85) (v := ?_) (a' := ?_) #[true, true, true, true, true, false, true, false, false] rfl rfl (any_of HT_.out (by kernel_rfl)) (fun _ _ _ h => h) (Or.inl ⟨by rfl, ?_⟩) ?_ ?_
                                  rotate_left
                                  · intro w'
                                    go_simp
                                    with_reducible rfl
                                  rotate_left
                                  · simp only [Act.put, List.setIfInBounds_toArray, List.set_cons_zero, List.set_cons_succ, i64_w, i32_w]
                                    rfl
                                  refine take_ (i := 5) (N := some 84) (v := ?_) (a' := ?_) #[true, true, true, true, true, true, true, false, false] rfl rfl (take_ofW HT_.out HW_.out (by kernel_rfl)) (fun _ _ _ h => h) (Or.inl ⟨by rfl, ?_⟩) hHeld ?_ ?_
                                  rotate_left
                                  · rintro w' ⟨s0, s1, s2, s3, s4, s5, s6⟩
                                    go_simp
                                    with_reducible rfl
                                  rotate_left
                                  · simp only [Act.put, List.setIfInBounds_toArray, List.set_cons_zero, List.set_cons_succ, i64_w, i32_w]
                                    rfl
                                  refine take_ (i := 7) (N := some 86) (v := ?_) (a' := ?_) #[true, true, true, true, true, true, true, true, false] rfl rfl (take_ofW HT_.out HW_.out (by kernel_rfl)) (fun _ _ _ h => h) (Or.inl ⟨by rfl, ?_⟩) hHeld ?_ ?_
                                  rotate_left
                                  · rintro w' ⟨s0, s1, s2, s3, s4, s5, s6⟩
                                    go_simp
                                    with_reducible rfl
                                  rotate_left
                                  · simp only [Act.put, List.setIfInBounds_toArray, List.set_cons_zero, List.set_cons_succ, i64_w, i32_w]
                                    rfl
                                  refine pure_ (i := 8) (N := some 87) (v := ?_) (a' := ?_) #[true, true, true, true, true, true, true, true, true] rfl rfl (any_of HT_.out (by kernel_rfl)) (fun _ _ _ h => h) (Or.inl ⟨by rfl, ?_⟩) ?_ ?_
                                  rotate_left
                                  · intro w'
                                    go_simp
                                    with_reducible rfl
                                  rotate_left
                                  · simp only [Act.put, List.setIfInBounds_toArray, List.set_cons_zero, List.set_cons_succ, i64_w, i32_w]
                                    rfl
                                  refine done_ (done_of HT_.out (by kernel_rfl)) ?_
                                  try go_wp2
                                  go_roundg k4
                                  case measure => have := HK1.out; have := HK2.out; have := HJ18.out; have := HK4.out; omega
                                  case rel => exact ⟨(wrap64 (x12_4 + 1)), (by first | rfl | (simp; done) | (simp [*]; done)), H', ⟨by have := HK1.out; have := HK2.out; have := HJ18.out; have := HK4.out; omega⟩, ⟨by (with_reducible repeat (first | apply Kd.R_alloc | apply Kd.R_drewN | apply Kd.R_drew)); exact HO_11.out⟩, ⟨by (with_reducible repeat (first | refine blk_drewN ?_ _ | refine blk_drew ?_ | refine blk_alloc ?_ _)); exact BK228.out⟩, ⟨by (with_reducible repeat (first | refine blk_drewN ?_ _ | refine blk_drew ?_ | refine blk_alloc ?_ _)); exact BK239.out⟩, ⟨by repeat (first | (with_reducible first | exact HB.out | apply below_alloc | apply pw_below_drewN | apply below_drew1 | refine below_set ?_ GE228.out | refine below_set ?_ GE239.out) | exact HB.out)⟩⟩
                              · rw [if_neg c46] at H
                                exact absurd H (by simp)
                            · rw [if_neg c45] at H
                              have c45b0 : decide (x12_4 < (t252.length : Int)) = false := decide_eq_false c45
                              clear c45
                              replace H := Option.bind_eq_some_iff.mp H
                              obtain ⟨t256, A520, H⟩ := H
                              replace H : (some t256) = some r := H
                              have A52 := Aside0.mk A520
                              clear A520
                              obtain rfl := Option.some.inj H
                              obtain ⟨Ao53, co53, eo53⟩ := Kd.R_slice HO_11.out
                              subst eo53
                              go_wp2_with (first | ((with_reducible refine gate_callee (f := 18) rfl ?_); refine goesL_ (some 88) rfl rfl Try.func18 (by kernel_rfl) rfl #[] rfl (by (try simp only [List.map_toArray, List.map_cons, List.map_nil]); first | done | rfl | (simp only [List.length_drop, List.length_take]; rfl)) ?_; (with_reducible refine (cellarerlaw12_awake.calls  t256 _ A52.out).mono ?_); rintro e w54 ⟨rfl, hb⟩; refine ⟨_, rfl, ?_⟩; have n0_ := Aside0.mk (Kd.R_below (by (with_reducible repeat (first | apply Kd.R_alloc | apply Kd.R_drewN | apply Kd.R_drew)); exact HO_11.out) hb); have n1_ := Aside0.mk (blk_below (g := gb228) (o := .cells #[.string a1_0, .string a1_1, .bool a1_2] 37 (0, 0)) (by (with_reducible repeat (first | refine blk_drewN ?_ _ | refine blk_drew ?_ | refine blk_alloc ?_ _)); exact BK228.out) hb); have n2_ := Aside0.mk (blk_below (g := gb239) (o := .cells #[.int .u64 (IntKind.u64.wrap (t232 + 1)), .string a1_0, .string a1_1, .bool a1_2] 39 (0, 0)) (by (with_reducible repeat (first | refine blk_drewN ?_ _ | refine blk_drew ?_ | refine blk_alloc ?_ _)); exact BK239.out) hb); have n3_ := Aside0.mk (below_step (by repeat (first | (with_reducible first | exact HB.out | apply below_alloc | apply pw_below_drewN | apply below_drew1 | refine below_set ?_ GE228.out | refine below_set ?_ GE239.out) | exact HB.out)) hb); clear HO_11; clear BK228; clear BK239; clear HB; have HO_11 := n0_; have BK228 := n1_; have BK239 := n2_; have HB := n3_; clear n0_ n1_ n2_ n3_; (try clear hb); (try clear hb2); (try clear hk); (try clear hi)))
                              go_ret
                              exact ⟨by first | rfl | (simp [errW_none, errW_some] <;> rfl) | (simp [*, errW_none, errW_some] <;> rfl), by repeat (first | (with_reducible first | exact HB.out | apply below_alloc | apply pw_below_drewN | apply below_drew1 | refine below_set ?_ GE228.out | refine below_set ?_ GE239.out) | exact HB.out)⟩
                      · rw [if_neg c27] at H
                        exact absurd H (by simp)
                    · rw [if_neg c26] at H
                      exact absurd H (by simp)

end Go.Proofs.Ytipahpkdddijmaa.Q

-- D2
namespace Go.Proofs.Ytipahpkdddijmaa.Q
open Go.RowKit Go.Proofs.YtipahpkdddijmaaW.PrintWords Go.Proofs.YtipahpkdddijmaaW.PrintLast Go.Proofs.YtipahpkdddijmaaW.PrintMore
set_option linter.unusedVariables false
set_option linter.unusedSimpArgs false

/-! ### plain laws: the greatest stamp -/
def wfN (n : S39) : Prop := 0 ≤ n.f0 ∧ n.f0 ≤ 18446744073709551615
theorem fewN_wf {l : List S39} (h : ∀ n ∈ l, wfN n) : ∀ n ∈ fewN l, wfN n := by
  intro n hn
  obtain ⟨m, hm, rfl⟩ := List.mem_map.1 hn
  exact h m (List.mem_of_mem_take hm)
theorem last_spec (l : List S39) (h : ∀ n ∈ l, wfN n) : (∀ n ∈ l, n.f0 ≤ lastN l) ∧ 0 ≤ lastN l ∧ lastN l ≤ 18446744073709551615 ∧ (l ≠ [] → ∃ m ∈ l, m.f0 = lastN l) := by
  have gen : ∀ (l : List S39) (a : Int), (∀ n ∈ l, wfN n) → 0 ≤ a → a ≤ 18446744073709551615 →
      (∀ n ∈ l, n.f0 ≤ l.foldl (fun a n => if a < n.f0 then n.f0 else a) a) ∧ a ≤ l.foldl (fun a n => if a < n.f0 then n.f0 else a) a ∧ l.foldl (fun a n => if a < n.f0 then n.f0 else a) a ≤ 18446744073709551615 ∧
      (l.foldl (fun a n => if a < n.f0 then n.f0 else a) a = a ∨ ∃ m ∈ l, m.f0 = l.foldl (fun a n => if a < n.f0 then n.f0 else a) a) := by
    intro l
    induction l with
    | nil => intro a _ h0 h1; exact ⟨fun n hn => (by cases hn), Int.le_refl _, h1, Or.inl rfl⟩
    | cons x l ih =>
      intro a hw h0 h1
      have hx := hw x List.mem_cons_self
      unfold wfN at hx
      obtain ⟨p1, p2, p3, p4⟩ := ih (if a < x.f0 then x.f0 else a) (fun n hn => hw n (List.mem_cons_of_mem _ hn)) (by split <;> omega) (by split <;> omega)
      rw [List.foldl_cons]
      generalize hz : l.foldl (fun a n => if a < n.f0 then n.f0 else a) (if a < x.f0 then x.f0 else a) = z at *
      refine ⟨fun n hn => ?_, ?_, p3, ?_⟩
      · rcases List.mem_cons.1 hn with rfl | hn
        · split at p2 <;> omega
        · exact p1 n hn
      · split at p2 <;> omega
      · rcases p4 with p4 | ⟨m, hm, p4⟩
        · split at p4
          · exact Or.inr ⟨x, List.mem_cons_self, p4.symm⟩
          · exact Or.inl p4
        · exact Or.inr ⟨m, List.mem_cons_of_mem _ hm, p4⟩
  obtain ⟨p1, p2, p3, p4⟩ := gen l 0 h (Int.le_refl _) (by decide)
  refine ⟨p1, p2, p3, fun hn => ?_⟩
  rcases p4 with p4 | p4
  · cases l with
    | nil => exact absurd rfl hn
    | cons x l =>
      refine ⟨x, List.mem_cons_self, ?_⟩
      have h1 := p1 x List.mem_cons_self
      have h2 := (h x List.mem_cons_self).1
      unfold lastN
      omega
  · exact p4
theorem last_f {l : List S39} (h1 : l.length ≤ 1000000) (h : ∀ n ∈ l, wfN n) : change_Last.f l = some (lastN l) := by
  unfold change_Last.f
  rw [if_pos h1, if_pos (List.all_eq_true.2 fun n hn => decide_eq_true (h n hn).1)]
theorem cnt_ge {l : List S39} {nm : ByteArray} {c : S39} (h : cnt l nm = some c) : ∀ n ∈ l, n.f1.f0 = nm → n.f0 ≤ c.f0 := by
  have gen : ∀ (l : List S39) (a : Option S39), ∀ c, l.foldl (cntStep nm) a = some c → (∀ o, a = some o → o.f0 ≤ c.f0) ∧ ∀ n ∈ l, n.f1.f0 = nm → n.f0 ≤ c.f0 := by
    intro l
    induction l with
    | nil => intro a c h; exact ⟨fun o ho => by have e : a = some c := h; rw [e] at ho; injection ho with ho; rw [ho]; exact Int.le_refl _, fun n hn => by cases hn⟩
    | cons x l ih =>
      intro a c h
      obtain ⟨h1, h2⟩ := ih _ c h
      by_cases hx : x.f1.f0 = nm
      · have e : cntStep nm a x = upd x a := if_pos hx
        rw [e] at h1
        cases a with
        | none =>
          have h3 := h1 x rfl
          exact ⟨fun o ho => (by cases ho), fun n hn en => by rcases List.mem_cons.1 hn with rfl | hn; exact h3; exact h2 n hn en⟩
        | some o =>
          unfold upd at h1
          simp only at h1
          split at h1
          · have h3 := h1 x rfl
            exact ⟨fun o' ho => by injection ho with ho; subst ho; omega, fun n hn en => by rcases List.mem_cons.1 hn with rfl | hn; exact h3; exact h2 n hn en⟩
          · have h3 := h1 o rfl
            exact ⟨fun o' ho => by injection ho with ho; subst ho; exact h3, fun n hn en => by rcases List.mem_cons.1 hn with rfl | hn; omega; exact h2 n hn en⟩
      · have e : cntStep nm a x = a := if_neg hx
        rw [e] at h1
        exact ⟨h1, fun n hn en => by rcases List.mem_cons.1 hn with rfl | hn; exact absurd en hx; exact h2 n hn en⟩
  exact (gen l none c h).2
theorem cnt_later {l : List S39} {n : S39} (h : ∀ m ∈ l, m.f0 ≤ n.f0) : cnt (l ++ [n]) n.f1.f0 = some n := by
  rw [cnt_snoc]
  unfold cntStep
  rw [if_pos rfl]
  cases hc : cnt l n.f1.f0 with
  | none => rfl
  | some o => unfold upd; simp only; rw [if_pos (h o (cnt_mem hc))]
theorem wrap_i (i : Nat) (h : i < 1000000000) : wrap64 ((i : Int) + 1) = ((i + 1 : Nat) : Int) := by unfold wrap64; omega
theorem rd39 {l : List S39} {i : Nat} (h : i < l.length) : rd_T39 l (i : Int) = l[i] := by unfold rd_T39; simp [h]
/-! ### ChangeLast -/
theorem clast_l0 (l : List S39) (last : Int) (cs : List S39) (b : Bool) (s t : ByteArray) (g : Bool) (K : Nat) (hl : l.length ≤ 1000000) (h : ∀ n ∈ l, n.f0 ≤ last) :
    ∀ (n i : Nat), i + n = l.length → cellarerlaw12_ChangeLast.l0 (K + n + 1) l last cs b (i : Int) s t g = cellarerlaw12_ChangeLast.l1 K l last cs b 0 s t g
  | 0, i, e => by
    unfold cellarerlaw12_ChangeLast.l0
    rw [if_neg (by omega)]
  | n + 1, i, e => by
    have hi : i < l.length := by omega
    unfold cellarerlaw12_ChangeLast.l0
    rw [if_pos (by omega), if_pos (by omega), if_neg (by rw [rd39 hi]; have := h l[i] (List.getElem_mem hi); omega), wrap_i i (by omega)]
    exact clast_l0 l last cs b s t g K hl h n (i + 1) (by omega)
theorem clast_l1 (l : List S39) (last : Int) (cs : List S39) (s t : ByteArray) (g : Bool) (K : Nat) (hl : cs.length ≤ 1000000) :
    ∀ (n i : Nat) (b : Bool), i + n = cs.length → (b = true ∨ ∃ j, ∃ hj : j < cs.length, i ≤ j ∧ cs[j].f0 = last) →
      cellarerlaw12_ChangeLast.l1 (K + n + 1) l last cs b (i : Int) s t g = cellarerlaw12_ChangeLast.j2 K l last true (last == 18446744073709551615) s t g
  | 0, i, b, e, h => by
    have hb : b = true := by
      rcases h with h | ⟨j, hj, hij, _⟩
      · exact h
      · omega
    subst hb
    unfold cellarerlaw12_ChangeLast.l1
    rw [if_neg (by omega), if_pos rfl]
  | n + 1, i, b, e, h => by
    have hi : i < cs.length := by omega
    unfold cellarerlaw12_ChangeLast.l1
    rw [if_pos (by omega)]
    split
    · rw [wrap_i i (by omega)]
      exact clast_l1 l last cs s t g K hl n (i + 1) true (by omega) (Or.inl rfl)
    · rename_i hb
      rw [if_pos (by omega), wrap_i i (by omega), rd39 hi]
      refine clast_l1 l last cs s t g K hl n (i + 1) _ (by omega) ?_
      rcases h with h | ⟨j, hj, hij, ej⟩
      · exact absurd h hb
      · by_cases he : i = j
        · subst he
          exact Or.inl (by simpa using ej)
        · exact Or.inr ⟨j, hj, by omega, ej⟩
theorem clast_l2 (xs : List S39) (s t : ByteArray) (g : Bool) (K : Nat) (hl : xs.length ≤ 1000000) (h : ∀ n ∈ xs, n.f1.f0 ≠ s) :
    ∀ (n i : Nat), i + n = xs.length → cellarerlaw12_ChangeLast.l2 (K + n + 1) xs (i : Int) s t g = some true
  | 0, i, e => by
    unfold cellarerlaw12_ChangeLast.l2
    rw [if_neg (by omega)]
    rfl
  | n + 1, i, e => by
    have hi : i < xs.length := by omega
    unfold cellarerlaw12_ChangeLast.l2
    rw [if_pos (by omega), if_pos (by omega), if_neg (by rw [rd39 hi]; intro e; exact h xs[i] (List.getElem_mem hi) (bytes_eq e)), wrap_i i (by omega)]
    exact clast_l2 xs s t g K hl h n (i + 1) (by omega)
theorem last_true (l0 : List S39) (s t : ByteArray) (g : Bool) (hw : ∀ n ∈ l0, wfN n) (hs : s.size ≤ maxLen) : ∃ k, cellarerlaw12_ChangeLast.f k l0 s t g = some true := by
  have hw1 := fewN_wf hw
  have h := okL_few l0
  have hl := fewN_len l0
  have hnm := fewN_name l0
  have key : ∀ k, cellarerlaw12_ChangeLast.f k l0 s t g = cellarerlaw12_ChangeLast.l0 k (fewN l0) (lastN (fewN l0)) (countL (fewN l0)) (((fewN l0).length : Int) == 0) 0 s t g := by
    intro k
    unfold cellarerlaw12_ChangeLast.f cellarerlaw12_Few.f
    rw [Option.bind_some, last_f (by omega) hw1, Option.bind_some, count_f h, Option.bind_some]
  generalize fewN l0 = l at *
  have hc := countL_len l
  obtain ⟨s1, s2, s3, s4⟩ := last_spec l hw1
  generalize hlast : lastN l = last at *
  let F := (l.filter (live (l ++ [⟨last + 1, ⟨s, t, g⟩⟩]))).length
  refine ⟨(F + 1 + 1 + (countL l).length + 1) + l.length + 1, ?_⟩
  rw [key, show (0 : Int) = ((0 : Nat) : Int) from rfl, clast_l0 l last _ _ s t g _ (by omega) s1 l.length 0 (by omega), show (0 : Int) = ((0 : Nat) : Int) from rfl,
    clast_l1 l last (countL l) s t g (F + 1 + 1) (by omega) (countL l).length 0 _ (by omega) ?_]
  · rw [cellarerlaw12_ChangeLast.j2]
    by_cases hm : last = 18446744073709551615
    · rw [if_pos (by simpa using hm), if_pos rfl]
      rfl
    · have hwr : IntKind.u64.wrap (last + 1) = last + 1 := by
        show Int.emod (last + 1) 18446744073709551616 = last + 1
        exact Int.emod_eq_of_lt (by omega) (by omega)
      have hok : okL (l ++ [⟨last + 1, ⟨s, t, g⟩⟩]) = true := okL_mk (by rw [List.length_append]; show l.length + 1 ≤ _; omega) (fun n hn => by
        rcases List.mem_append.1 hn with hn | hn
        · exact Nat.le_trans (hnm n hn) (by decide)
        · rw [List.mem_singleton.1 hn]; exact hs)
      rw [if_neg (by simpa using hm), Option.bind_some, if_pos (by simp; omega), Option.bind_some, Option.bind_some, if_pos (by simp; omega), hwr, List.nil_append, live_f hok h, Option.bind_some]
      have := clast_l2 (l.filter (live (l ++ [⟨last + 1, ⟨s, t, g⟩⟩]))) s t g 0 (Nat.le_trans (List.length_filter_le _ _) (by omega)) (fun n hn e => by
        obtain ⟨h1, h2⟩ := List.mem_filter.1 hn
        have h3 := live_cnt (List.mem_append.2 (Or.inl h1)) h2
        have h4 := cnt_later (l := l) (n := ⟨last + 1, ⟨s, t, g⟩⟩) (fun m hm => by have := s1 m hm; show m.f0 ≤ last + 1; omega)
        rw [e] at h3
        rw [show (⟨last + 1, ⟨s, t, g⟩⟩ : S39).f1.f0 = s from rfl, h3] at h4
        injection h4 with h4
        have h5 := s1 n h1
        rw [h4] at h5
        have h6 : last + 1 ≤ last := h5
        omega) F 0 (by omega)
      rw [show F + 1 = 0 + F + 1 by omega]
      exact this
  · by_cases he : l = []
    · subst he
      exact Or.inl rfl
    · obtain ⟨m, hm, em⟩ := s4 he
      have hsome : ∃ c, cnt l m.f1.f0 = some c := by
        cases hc : cnt l m.f1.f0 with
        | none => exact absurd rfl (cnt_none' hc m hm)
        | some c => exact ⟨c, rfl⟩
      obtain ⟨c, hcc⟩ := hsome
      have h1 := cnt_ge hcc m hm rfl
      have h2 := s1 c (cnt_mem hcc)
      have hcm : c ∈ countL l := ((countL_is l).mem c).2 (by rw [cnt_name hcc]; exact hcc)
      obtain ⟨j, hj, ej⟩ := List.getElem_of_mem hcm
      exact Or.inr ⟨j, hj, Nat.zero_le _, by rw [ej]; omega⟩
theorem last.walk2 (A0 : Option Addr) (c0 : Nat) (l0 : List S39) (s t : ByteArray) (g : Bool) (w : World) (hr0 : Kd.C k39 w A0 l0.length l0) (hc0 : l0.length ≤ c0) (hw : ∀ n ∈ l0, wfN n) (hs : s.size ≤ maxLen) :
    Calls Try.prog 7 #[.slice A0 l0.length c0, .agg #[.string s, .string t, .bool g]] w fun e w' => e = .returned (.bool true) ∧ Below w.heap.size w w' := by
  obtain ⟨k, hk⟩ := last_true l0 s t g hw hs
  exact cellarerlaw12_ChangeLast.calls k A0 c0 l0 s t g true w hr0 hc0 hk
end Go.Proofs.Ytipahpkdddijmaa.Q

-- U1
namespace Go.Proofs.Ytipahpkdddijmaa.Q
open Go.RowKit Go.Proofs.YtipahpkdddijmaaW.PrintWords Go.Proofs.YtipahpkdddijmaaW.PrintLast Go.Proofs.YtipahpkdddijmaaW.PrintMore
set_option linter.unusedVariables false
set_option linter.unusedSimpArgs false

/-! What an argument's reading gives: the kinds' own relation. -/
set_option maxRecDepth 100000 in
theorem open_change {H : Type} {enc : TypeId × Value → H} {W : World} {base : Nat} {v : Value} {d : DataW H} {p : List MemPlace} (hv : Value.okWide Try.prog W .any base 37 v) (h : DataW.Trod enc Try.prog W 0 (fun _ => true) true 37 v d p) :
    ∃ (u : S37), v = .agg #[.string u.f0, .string u.f1, .bool u.f2] ∧ u.f0.size ≤ maxLen := by
  obtain ⟨cs, rfl, hsz⟩ := Go.WideShapes.okWide_struct Try.underlying37 hv
  obtain ⟨n, hn⟩ := h
  obtain ⟨u, hu, hz⟩ := opens37s enc W n _ _ hn
  refine ⟨u, ?_, hz⟩
  have e2 : cs.toList = [.string u.f0, .string u.f1, .bool u.f2] := by simpa [Value.cells] using k37_open hu
  rw [← Array.toArray_toList (xs := cs), e2]
end Go.Proofs.Ytipahpkdddijmaa.Q

-- U2
namespace Go.Proofs.Ytipahpkdddijmaa.Q
open Go.RowKit Go.Proofs.YtipahpkdddijmaaW.PrintWords Go.Proofs.YtipahpkdddijmaaW.PrintLast Go.Proofs.YtipahpkdddijmaaW.PrintMore
set_option linter.unusedVariables false
set_option linter.unusedSimpArgs false

/-! Openings that tell of each cell's own fitness, too. -/
def OpensQ {α : Type} (P : Program) (d : Kd α) (t : TypeId) (Q : α → Prop) : Prop :=
  ∀ (H : Type) (enc : TypeId × Value → H) (W : World) (n : Nat) (cs : List Value) (x : DataW H × List MemPlace), DataW.trod enc P W 0 (fun _ => true) true n t cs = some x → ∃ y : α, d.K W y cs ∧ Q y
set_option maxRecDepth 100000 in
theorem opensQ_C {α : Type} {P : Program} {d : Kd α} {t e : TypeId} (ht : P.underlying t = some (.slice e)) (hs : P.cellsOf e = d.sz) {Q : α → Prop} (he : OpensQ P d e Q) (z : α) (H : Type) (enc : TypeId × Value → H) (W : World) (n : Nat) (cs : List Value) (x : DataW H × List MemPlace)
    (h : DataW.trod enc P W 0 (fun _ => true) true n t cs = some x) : ∃ (l : List α) (A : Option Addr) (c : Nat), cs = [.slice A l.length c] ∧ l.length ≤ c ∧ d.C W A l.length l ∧ ∀ x ∈ l, Q x := by
  rcases DataW.trod_slice ht h with ⟨rfl, _⟩ | ⟨a, len, cap, elems, rest, m, _, rfl, _, _, hl, hm, hlen, hel, _, _⟩
  · exact ⟨[], none, 0, rfl, Nat.le_refl _, ⟨rfl, by simp, fun h0 => by simp at h0⟩, fun x hx => by cases hx⟩
  have each : ∀ i : Nat, ∃ p : α, i < len → Q p ∧ ∃ c : List Value, c.length = d.sz ∧ d.K W p c ∧ ∀ j u, c[j]? = some u → W.cell? (a.add (i * d.sz + j)) = some u := by
    intro i
    by_cases hi : i < len
    · have h1 := hel i hi
      rw [List.getElem?_eq_getElem (by omega), Option.bind_eq_some_iff] at h1
      obtain ⟨c, hc, ht'⟩ := h1
      obtain ⟨y, hy, hq⟩ := he H enc W m c _ ht'
      refine ⟨y, fun _ => ⟨hq, c, d.K_len hy, hy, fun j u hu => ?_⟩⟩
      obtain ⟨_, hcl, hcell⟩ := World.cells?_some hc
      have := hcell j (by have := (List.getElem?_eq_some_iff.1 hu).1; omega)
      rw [hs, add_add] at this
      rw [this, hu]
    · exact ⟨z, fun h => absurd h hi⟩
  obtain ⟨f, hf⟩ := Classical.skolem.1 each
  refine ⟨(List.range len).map f, some a, cap, by simp, by simpa using hl, ⟨by simp, by simp [maxLen] at hm ⊢; omega, fun _ => ⟨a, rfl, fun j p hj => ?_⟩⟩, fun x hx => by
    obtain ⟨j, hj, rfl⟩ := List.mem_map.1 hx
    exact (hf j (List.mem_range.1 hj)).1⟩
  rw [List.getElem?_map] at hj
  have hjl : j < len := by
    rcases Nat.lt_or_ge j len with h | h
    · exact h
    · rw [List.getElem?_eq_none (by simpa using h)] at hj; cases hj
  rw [List.getElem?_range hjl] at hj
  injection hj with hj
  subst hj
  exact (hf j hjl).2
theorem wf_u64 {n : Int} (h : (Lit.int .u64 n).wf = true) : 0 ≤ n ∧ n ≤ 18446744073709551615 := by
  have h2 : (decide ((IntKind.u64).min ≤ n) && decide (n ≤ (IntKind.u64).max)) = true := h
  rw [Bool.and_eq_true, decide_eq_true_eq, decide_eq_true_eq, show (IntKind.u64).min = 0 from rfl, show (IntKind.u64).max = 18446744073709551615 from rfl] at h2
  exact h2
set_option maxRecDepth 100000 in
theorem opensQ39 : OpensQ Try.prog k39 39 wfN := by
  intro H enc W n cs x h
  obtain ⟨y0, y1, m, rfl, hl, t0, t1⟩ := Go.ChangeShapes.trod_struct2 Try.underlying39 h
  rw [cells39] at hl
  match cs, hl with
  | [a, b, c, d], _ =>
    simp only [cells35, cells37, List.drop, List.take] at t0 t1
    obtain ⟨i, e0, _, wi⟩ := DataW.trod_int Try.underlying35 t0
    obtain ⟨y, hy⟩ := opens37 _ _ _ _ _ _ t1
    have e1 := k37_open hy
    injection e0 with e0; injection e1 with e1 e2; injection e2 with e2 e3; injection e3 with e3
    subst e0 e1 e2 e3
    exact ⟨⟨i, y⟩, k39_mk W ⟨i, y⟩, wf_u64 wi⟩
set_option maxRecDepth 100000 in
theorem openQ_row {α : Type} {d : Kd α} {t e : TypeId} (ht : Try.prog.underlying t = some (.slice e)) (hs : Try.prog.cellsOf e = d.sz) {Q : α → Prop} (he : OpensQ Try.prog d e Q) (z : α) {H : Type} {enc : TypeId × Value → H} {W : World} {base : Nat} {v : Value} {x : DataW H} {p : List MemPlace} (hv : Value.okWide Try.prog W .any base t v) (h : DataW.Trod enc Try.prog W 0 (fun _ => true) true t v x p) :
    ∃ (l : List α) (A : Option Addr) (c : Nat), v = .slice A l.length c ∧ l.length ≤ c ∧ d.C W A l.length l ∧ ∀ x ∈ l, Q x := by
  obtain ⟨a, n, c, rfl⟩ := Go.WideShapes.okWide_slice ht hv
  obtain ⟨m, hm⟩ := h
  obtain ⟨l, A, c', e, hle, hC, hQ⟩ := opensQ_C ht hs he z H enc W m _ _ hm
  refine ⟨l, A, c', ?_, hle, hC, hQ⟩
  simpa [Value.cells] using e
set_option maxRecDepth 100000 in
theorem openQ_notes {H : Type} {enc : TypeId × Value → H} {W : World} {base : Nat} {v : Value} {x : DataW H} {p : List MemPlace} (hv : Value.okWide Try.prog W .any base 22 v) (h : DataW.Trod enc Try.prog W 0 (fun _ => true) true 22 v x p) :
    ∃ (l : List S39) (A : Option Addr) (c : Nat), v = .slice A l.length c ∧ l.length ≤ c ∧ Kd.C k39 W A l.length l ∧ ∀ n ∈ l, wfN n := openQ_row Try.underlying22 cells39 opensQ39 z39 hv h
end Go.Proofs.Ytipahpkdddijmaa.Q

-- LawLast
namespace Go.Proofs.Ytipahpkdddijmaa.changeLast
open Go.ChangeShapes Go.WideShapes Go.ChangeAt Go.RowKit
open Go.ChangeMaps (open_string shut_string)
set_option linter.unusedVariables false

theorem ownChangeLast : ownKnob Try.prog.godebug = none := by kernel_rfl
theorem laidOutChangeLast : laidOutB Try.prog = true := by kernel_rfl
set_option maxRecDepth 100000 in
theorem lifted (os : Os) (started : os.Started) (H : Type) (enc : TypeId × Value → H) :
    ReturnsInHanded {} Try.checked os 7 .any (Rows.changeLastSpec.pre6 enc Try.prog Try.f7 Rows.changeLastRow.domain false) (Rows.changeLastSpec.post enc Try.prog Try.f7 false true false false) := by
  refine returnsInHanded_of_change_sized (C := Try.checked) ownChangeLast started (by kernel_rfl) Try.func7
    (ChangeSpec.witness6 (enc := enc) (C := Try.checked) false ⟨#[], #[.slice none 0 0, .agg #[.string ByteArray.empty, .string ByteArray.empty, .bool false]], []⟩ 8 (by kernel_rfl) (by kernel_rfl) (by kernel_rfl) (by kernel_rfl)) ?_
  intro W base args ds gs before hval0 hW hcnd hsz0 _
  have hval : ∀ (j : Nat) t v, Try.f7.params[j]? = some t → args[j]? = some v → Value.okWide Try.prog W .any base t v := hval0
  have hW' := hW
  obtain ⟨p, q, hA0, hV, rfl, hfz, hnd⟩ := hW
  have hA : DataW.TrodAll enc Try.prog W 0 (fun _ => true) true Try.f7.params.toList args.toList ds p := hA0
  rw [Try.params7] at hA hval
  obtain ⟨v0, vs0, d0, ds0, p0, q0, hargs, rfl, rfl, h0, r0⟩ := trodAll_cons hA
  obtain ⟨v1, vs1, d1, ds1, p1, q1, rfl, rfl, rfl, h1, r1⟩ := trodAll_cons r0
  obtain ⟨rfl, rfl, rfl⟩ := trodAll_nil r1
  obtain rfl : args = #[v0, v1] := by cases args; simp_all
  obtain ⟨rfl, rfl⟩ := trodVars_none hV
  have k0 := h0
  have lt0 : ∀ x ∈ p0, x.block < W.heap.size := by obtain ⟨m, hm⟩ := k0; exact DataW.trod_lt m _ _ _ hm
  have k1 := h1
  have lt1 : ∀ x ∈ p1, x.block < W.heap.size := by obtain ⟨m, hm⟩ := k1; exact DataW.trod_lt m _ _ _ hm
  obtain ⟨l_0, A_0, c_0, rfl, hl_0, hC_0, hw_0⟩ := Q.openQ_notes (hval 0 22 v0 rfl rfl) h0
  obtain ⟨u_1, rfl, zu_1⟩ := Q.open_change (hval 1 37 v1 rfl rfl) h1
  clear hA0 hval0 hsz0
  refine (Q.last.walk2 A_0 c_0 l_0 u_1.f0 u_1.f1 u_1.f2 W hC_0 hl_0 hw_0 zu_1).mono fun e W' ⟨he, bel⟩ => ?_
  subst he
  exact ⟨_, rfl, _, _, _, [], _, [], hW', trodAll_mk1 (shut_bool Try.underlying4 _), (trodAll_cons_mk (Below.trod laidOutChangeLast (by kernel_rfl) (of_decide_eq_true (by kernel_rfl)) k0 bel lt0) (trodAll_cons_mk (Below.trod laidOutChangeLast (by kernel_rfl) (of_decide_eq_true (by kernel_rfl)) k1 bel lt1) trodAll_mk0)), rfl, bel.frame _, fun h => by cases h⟩
theorem over : Rows.changeLastRow.holds Try.pinned (OpenSpec.ofChange Rows.changeLastSpec) :=
  OpenClaim.holds_of_wide 7 Try.f7 rfl rfl rfl rfl rfl rfl rfl ⟨rfl, rfl, rfl, rfl, rfl⟩ rfl rfl rfl rfl rfl (by kernel_rfl) Try.func7 (by kernel_rfl)
    (of_decide_eq_true (by kernel_rfl)) (by unfold Func.isWrapper; first | (rw [if_pos (by decide +kernel)]; kernel_rfl) | (rw [if_neg (by decide +kernel)]; exact ⟨rfl, rfl⟩))
    (fun os started H enc _ => lifted os started H enc)
end Go.Proofs.Ytipahpkdddijmaa.changeLast
namespace Go.Proofs.Ytipahpkdddijmaa
open Go
/-- The row. -/
theorem changeLast_holds : Rows.ChangeLastSaid := changeLast.over
#print axioms changeLast_holds
end Go.Proofs.Ytipahpkdddijmaa
