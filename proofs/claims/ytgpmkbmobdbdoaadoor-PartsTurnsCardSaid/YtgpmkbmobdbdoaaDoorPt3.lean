/- The law PartsTurns returns true for every input that its row lets in (the tied card), under the row's own conditions and no others. Part 24 of 27. -/
import Derived.Test.YtgpmkbmobdbdoaaDoorPt1
import Derived.Test.YtgpmkbmobdbdoaaDoorPt2
import Derived.Lib.Hide
import Derived.Outline
import Derived.Tactics2
import Derived.Defers
import Derived.Laws.Pointers
import Derived.Laws.LoneSync
import Derived.RegionTactic
import Derived.RegionCalls
import Derived.ChangeAlike
-- Qx7
namespace Go.Proofs.YtgpmkbmobdbdoaaDoor.Q
open Go.RowKit Go.Proofs.YtgpmkbmobdbdoaaDoorW.PrintWords Go.Proofs.YtgpmkbmobdbdoaaDoorW.PrintLast Go.Proofs.YtgpmkbmobdbdoaaDoorW.PrintMore
attribute [local go_sem] max2_int min2_int max_two min_two max_three min_three max_four min_four   -- for this text's walks alone
set_option linter.unusedVariables false
set_option linter.unusedSimpArgs false

/-! ### cellarerref08_Whole: function 10 -/
mutual
def cellarerref08_Whole.j0 : Nat → List (S48) → Bool → Int → ByteArray → List (S40) → Option (ByteArray × ByteArray × Int)
  | 0, _, _, _, _, _ => none
  | k + 1, x1, x23, x177000, x177001, x177002 => if x23 = true then (some ((⟨#[]⟩ : ByteArray), (⟨#[]⟩ : ByteArray), 1)) else (cellarerref08_Whole.l0 k x1 1 x177000 x177001 x177002)
def cellarerref08_Whole.l0 : Nat → List (S48) → Int → Int → ByteArray → List (S40) → Option (ByteArray × ByteArray × Int)
  | 0, _, _, _, _, _ => none
  | k + 1, x1, x7, x177000, x177001, x177002 => if x7 < (x1.length : Int) then (if 0 ≤ x7 then (if 0 ≤ (wrap64 (x7 - 1)) then (if (wrap64 (x7 - 1)) < (x1.length : Int) then (if ((rd_T48 x1 x7).f0) ≤ ((rd_T48 x1 (wrap64 (x7 - 1))).f0) then (some ((⟨#[]⟩ : ByteArray), (⟨#[]⟩ : ByteArray), 9)) else (cellarerref08_Whole.l0 k x1 (wrap64 (x7 + 1)) x177000 x177001 x177002)) else (none)) else (none)) else (none)) else (cellarerref08_Whole.l1 k x1 (⟨#[]⟩ : ByteArray) false false ([] : List Int) 0 x177000 x177001 x177002)
def cellarerref08_Whole.l1 : Nat → List (S48) → ByteArray → Bool → Bool → List Int → Int → Int → ByteArray → List (S40) → Option (ByteArray × ByteArray × Int)
  | 0, _, _, _, _, _, _, _, _, _ => none
  | k + 1, x1, x8, x9, x10, x11, x12, x177000, x177001, x177002 => if x12 < (x1.length : Int) then (cellarerref08_Whole.l2 k x1 x8 x9 x10 x11 x12 false 0 x177000 x177001 x177002) else (if x10 = true then (some ((⟨#[]⟩ : ByteArray), (⟨#[]⟩ : ByteArray), 4)) else (if x9 = true then (some ((⟨#[]⟩ : ByteArray), (⟨#[]⟩ : ByteArray), 3)) else (if (x8.size : Int) > 2000 then (some ((⟨#[]⟩ : ByteArray), (⟨#[]⟩ : ByteArray), 6)) else ((cellarerref04_Many.f k x11).bind fun t193 => (some (x8, t193, 0))))))
def cellarerref08_Whole.l2 : Nat → List (S48) → ByteArray → Bool → Bool → List Int → Int → Bool → Int → Int → ByteArray → List (S40) → Option (ByteArray × ByteArray × Int)
  | 0, _, _, _, _, _, _, _, _, _, _, _ => none
  | k + 1, x1, x8, x9, x10, x11, x12, x13, x14, x177000, x177001, x177002 => if x14 < (x177002.length : Int) then (if 0 ≤ x14 then (if 0 ≤ x12 then (if x12 < (x1.length : Int) then (if ((rd_T40 x177002 x14).f0) = ((rd_T48 x1 x12).f0) then ((cellarerref04_Of.f k ((rd_T40 x177002 x14).f1)).bind fun t183 => (if t183 = ((rd_T48 x1 x12).f1) then (if x8.size + ((rd_T40 x177002 x14).f1).size ≤ 9223372036854775807 then (if x9 = true then (cellarerref08_Whole.l2 k x1 (x8 ++ ((rd_T40 x177002 x14).f1)) true x10 x11 x12 true (wrap64 (x14 + 1)) x177000 x177001 x177002) else (if x12 < (wrap64 ((x1.length : Int) - 1)) then (cellarerref08_Whole.l2 k x1 (x8 ++ ((rd_T40 x177002 x14).f1)) (decide ((((rd_T40 x177002 x14).f1).size : Int) < 5)) x10 x11 x12 true (wrap64 (x14 + 1)) x177000 x177001 x177002) else (cellarerref08_Whole.l2 k x1 (x8 ++ ((rd_T40 x177002 x14).f1)) false x10 x11 x12 true (wrap64 (x14 + 1)) x177000 x177001 x177002))) else (none)) else (cellarerref08_Whole.l2 k x1 x8 x9 x10 x11 x12 x13 (wrap64 (x14 + 1)) x177000 x177001 x177002))) else (cellarerref08_Whole.l2 k x1 x8 x9 x10 x11 x12 x13 (wrap64 (x14 + 1)) x177000 x177001 x177002)) else (none)) else (none)) else (none)) else (if x10 = true then (if 0 ≤ x12 then (if x12 < (x1.length : Int) then (if x11.length < 35184372088832 then (cellarerref08_Whole.l1 k x1 x8 x9 true (x11 ++ [(rd_T48 x1 x12).f1]) (wrap64 (x12 + 1)) x177000 x177001 x177002) else (none)) else (none)) else (none)) else (if 0 ≤ x12 then (if x12 < (x1.length : Int) then (if x11.length < 35184372088832 then (cellarerref08_Whole.l1 k x1 x8 x9 (!x13) (x11 ++ [(rd_T48 x1 x12).f1]) (wrap64 (x12 + 1)) x177000 x177001 x177002) else (none)) else (none)) else (none)))
end
def cellarerref08_Whole.f (k : Nat) (a0_0 : Int) (a0_1 : ByteArray) (l0_2 : List (S40)) (l1 : List (S48)) : Option (ByteArray × ByteArray × Int) := (cellarerref08_One.f k a0_0 a0_1 l0_2).bind fun t177 => (if t177 = true then (cellarerref08_Whole.j0 k l1 ((l1.length : Int) == 0) a0_0 a0_1 l0_2) else (cellarerref08_Whole.j0 k l1 true a0_0 a0_1 l0_2))
theorem cellarerref08_Whole.mono_l : ∀ k, (∀ y0 y1 y2 y3 y4, LeO (cellarerref08_Whole.j0 k y0 y1 y2 y3 y4) (cellarerref08_Whole.j0 (k + 1) y0 y1 y2 y3 y4)) ∧ (∀ y0 y1 y2 y3 y4, LeO (cellarerref08_Whole.l0 k y0 y1 y2 y3 y4) (cellarerref08_Whole.l0 (k + 1) y0 y1 y2 y3 y4)) ∧ (∀ y0 y1 y2 y3 y4 y5 y6 y7 y8, LeO (cellarerref08_Whole.l1 k y0 y1 y2 y3 y4 y5 y6 y7 y8) (cellarerref08_Whole.l1 (k + 1) y0 y1 y2 y3 y4 y5 y6 y7 y8)) ∧ (∀ y0 y1 y2 y3 y4 y5 y6 y7 y8 y9 y10, LeO (cellarerref08_Whole.l2 k y0 y1 y2 y3 y4 y5 y6 y7 y8 y9 y10) (cellarerref08_Whole.l2 (k + 1) y0 y1 y2 y3 y4 y5 y6 y7 y8 y9 y10))
  | 0 => ⟨fun _ _ _ _ _ r h => by simp [cellarerref08_Whole.j0] at h, fun _ _ _ _ _ r h => by simp [cellarerref08_Whole.l0] at h, fun _ _ _ _ _ _ _ _ _ r h => by simp [cellarerref08_Whole.l1] at h, fun _ _ _ _ _ _ _ _ _ _ _ r h => by simp [cellarerref08_Whole.l2] at h⟩
  | k + 1 => by
    obtain ⟨ih0, ih1, ih2, ih3⟩ := cellarerref08_Whole.mono_l k
    refine ⟨?_, ?_, ?_, ?_⟩
    · intro y0 y1 y2 y3 y4
      unfold cellarerref08_Whole.j0
      repeat' first
      | (with_reducible exact ih0 _ _ _ _ _)
      | (with_reducible exact ih1 _ _ _ _ _)
      | (with_reducible exact ih2 _ _ _ _ _ _ _ _ _)
      | (with_reducible exact ih3 _ _ _ _ _ _ _ _ _ _ _)
      | (with_reducible exact cellarerref04_Many.mono _ _)
      | (with_reducible exact cellarerref04_Of.mono _ _)
      | (with_reducible exact cellarerref08_One.mono _ _ _ _)
      | (with_reducible exact LeO.refl _)
      | (with_reducible exact LeO.none _)
      | (with_reducible refine LeO.ite ?_ ?_)
      | (with_reducible refine LeO.bind ?_ (fun _ => ?_))
      | exact ih0 _ _ _ _ _
      | exact ih1 _ _ _ _ _
      | exact ih2 _ _ _ _ _ _ _ _ _
      | exact ih3 _ _ _ _ _ _ _ _ _ _ _
      | exact cellarerref04_Many.mono _ _
      | exact cellarerref04_Of.mono _ _
      | exact cellarerref08_One.mono _ _ _ _
      | exact LeO.none _
      | refine LeO.ite ?_ ?_
      | refine LeO.bind ?_ (fun _ => ?_)
    · intro y0 y1 y2 y3 y4
      unfold cellarerref08_Whole.l0
      repeat' first
      | (with_reducible exact ih0 _ _ _ _ _)
      | (with_reducible exact ih1 _ _ _ _ _)
      | (with_reducible exact ih2 _ _ _ _ _ _ _ _ _)
      | (with_reducible exact ih3 _ _ _ _ _ _ _ _ _ _ _)
      | (with_reducible exact cellarerref04_Many.mono _ _)
      | (with_reducible exact cellarerref04_Of.mono _ _)
      | (with_reducible exact cellarerref08_One.mono _ _ _ _)
      | (with_reducible exact LeO.refl _)
      | (with_reducible exact LeO.none _)
      | (with_reducible refine LeO.ite ?_ ?_)
      | (with_reducible refine LeO.bind ?_ (fun _ => ?_))
      | exact ih0 _ _ _ _ _
      | exact ih1 _ _ _ _ _
      | exact ih2 _ _ _ _ _ _ _ _ _
      | exact ih3 _ _ _ _ _ _ _ _ _ _ _
      | exact cellarerref04_Many.mono _ _
      | exact cellarerref04_Of.mono _ _
      | exact cellarerref08_One.mono _ _ _ _
      | exact LeO.none _
      | refine LeO.ite ?_ ?_
      | refine LeO.bind ?_ (fun _ => ?_)
    · intro y0 y1 y2 y3 y4 y5 y6 y7 y8
      unfold cellarerref08_Whole.l1
      repeat' first
      | (with_reducible exact ih0 _ _ _ _ _)
      | (with_reducible exact ih1 _ _ _ _ _)
      | (with_reducible exact ih2 _ _ _ _ _ _ _ _ _)
      | (with_reducible exact ih3 _ _ _ _ _ _ _ _ _ _ _)
      | (with_reducible exact cellarerref04_Many.mono _ _)
      | (with_reducible exact cellarerref04_Of.mono _ _)
      | (with_reducible exact cellarerref08_One.mono _ _ _ _)
      | (with_reducible exact LeO.refl _)
      | (with_reducible exact LeO.none _)
      | (with_reducible refine LeO.ite ?_ ?_)
      | (with_reducible refine LeO.bind ?_ (fun _ => ?_))
      | exact ih0 _ _ _ _ _
      | exact ih1 _ _ _ _ _
      | exact ih2 _ _ _ _ _ _ _ _ _
      | exact ih3 _ _ _ _ _ _ _ _ _ _ _
      | exact cellarerref04_Many.mono _ _
      | exact cellarerref04_Of.mono _ _
      | exact cellarerref08_One.mono _ _ _ _
      | exact LeO.none _
      | refine LeO.ite ?_ ?_
      | refine LeO.bind ?_ (fun _ => ?_)
    · intro y0 y1 y2 y3 y4 y5 y6 y7 y8 y9 y10
      unfold cellarerref08_Whole.l2
      repeat' first
      | (with_reducible exact ih0 _ _ _ _ _)
      | (with_reducible exact ih1 _ _ _ _ _)
      | (with_reducible exact ih2 _ _ _ _ _ _ _ _ _)
      | (with_reducible exact ih3 _ _ _ _ _ _ _ _ _ _ _)
      | (with_reducible exact cellarerref04_Many.mono _ _)
      | (with_reducible exact cellarerref04_Of.mono _ _)
      | (with_reducible exact cellarerref08_One.mono _ _ _ _)
      | (with_reducible exact LeO.refl _)
      | (with_reducible exact LeO.none _)
      | (with_reducible refine LeO.ite ?_ ?_)
      | (with_reducible refine LeO.bind ?_ (fun _ => ?_))
      | exact ih0 _ _ _ _ _
      | exact ih1 _ _ _ _ _
      | exact ih2 _ _ _ _ _ _ _ _ _
      | exact ih3 _ _ _ _ _ _ _ _ _ _ _
      | exact cellarerref04_Many.mono _ _
      | exact cellarerref04_Of.mono _ _
      | exact cellarerref08_One.mono _ _ _ _
      | exact LeO.none _
      | refine LeO.ite ?_ ?_
      | refine LeO.bind ?_ (fun _ => ?_)
theorem cellarerref08_Whole.mono : ∀ a0 a1 a2 a3 k, LeO (cellarerref08_Whole.f k a0 a1 a2 a3) (cellarerref08_Whole.f (k + 1) a0 a1 a2 a3) := by
  intro a0 a1 a2 a3 k
  obtain ⟨ih0, ih1, ih2, ih3⟩ := cellarerref08_Whole.mono_l k
  unfold cellarerref08_Whole.f
  repeat' first
      | (with_reducible exact ih0 _ _ _ _ _)
      | (with_reducible exact ih1 _ _ _ _ _)
      | (with_reducible exact ih2 _ _ _ _ _ _ _ _ _)
      | (with_reducible exact ih3 _ _ _ _ _ _ _ _ _ _ _)
      | (with_reducible exact cellarerref04_Many.mono _ _)
      | (with_reducible exact cellarerref04_Of.mono _ _)
      | (with_reducible exact cellarerref08_One.mono _ _ _ _)
      | (with_reducible exact LeO.refl _)
      | (with_reducible exact LeO.none _)
      | (with_reducible refine LeO.ite ?_ ?_)
      | (with_reducible refine LeO.bind ?_ (fun _ => ?_))
      | exact ih0 _ _ _ _ _
      | exact ih1 _ _ _ _ _
      | exact ih2 _ _ _ _ _ _ _ _ _
      | exact ih3 _ _ _ _ _ _ _ _ _ _ _
      | exact cellarerref04_Many.mono _ _
      | exact cellarerref04_Of.mono _ _
      | exact cellarerref08_One.mono _ _ _ _
      | exact LeO.none _
      | refine LeO.ite ?_ ?_
      | refine LeO.bind ?_ (fun _ => ?_)
set_option maxHeartbeats 8000000 in
set_option maxRecDepth 100000 in
theorem cellarerref08_Whole.calls (k : Nat) (a0_0 : Int) (a0_1 : ByteArray) (A0_2 : Option Addr) (c0_2 : Nat) (l0_2 : List (S40)) (A1 : Option Addr) (c1 : Nat) (l1 : List (S48)) (r1 : ByteArray) (r2 : ByteArray) (r3 : Int) (w : World) (hr0_2 : Kd.C k40 w A0_2 l0_2.length l0_2) (hc0_2 : l0_2.length ≤ c0_2) (hr1 : Kd.C k48 w A1 l1.length l1) (hc1 : l1.length ≤ c1) (h : cellarerref08_Whole.f k a0_0 a0_1 l0_2 l1 = some (r1, r2, r3)) :
    Calls Tryd.prog 10 #[.agg #[.int .u64 a0_0, .string a0_1, .slice A0_2 l0_2.length c0_2], .slice A1 l1.length c1] w fun e w' => e = .returned (.tuple #[.string r1, .string r2, .int .i64 r3]) ∧ Below w.heap.size w w' := by
  have hu25 := Tryd.underlying25
  have hu40 := Tryd.underlying40
  have HR0_2 := Aside0.mk hr0_2
  have HC0_2 := Aside0.mk hc0_2
  clear hr0_2 hc0_2
  have HR1 := Aside0.mk hr1
  have HC1 := Aside0.mk hc1
  clear hr1 hc1
  have HB := Aside0.mk (Below.refl w.heap.size w)
  have H : ((cellarerref08_One.f k a0_0 a0_1 l0_2).bind fun t177 => (if t177 = true then (cellarerref08_Whole.j0 k l1 ((l1.length : Int) == 0) a0_0 a0_1 l0_2) else (cellarerref08_Whole.j0 k l1 true a0_0 a0_1 l0_2))) = some (r1, r2, r3) := h
  clear h
  have HC3 := Aside0.mk H
  clear H
  go_enter Tryd.func10, Tryd.ntmps10
  go_upto_region 1 with (first | ((with_reducible refine gate_dst (N := 2) rfl ?_); (try (refine gate_guard (by rfl) ?_; dsimp only)); refine box_event ?hg (N := 2) ?hd (cs := #[.int .u64 a0_0, .string a0_1, .slice A0_2 l0_2.length c0_2]) (t := 25) ?hr ?_; (case hd => rfl); (case hg => rfl); (case hr => first | (go_simp; done) | (go_simp; rfl)); intro gb176 hg w4 hbox hb; have n0_ := Aside0.mk (below_step (by repeat (first | (with_reducible first | exact HB.out | apply below_alloc | apply pw_below_drewN | apply below_drew1) | exact HB.out)) hb); have n1_ := Aside0.mk (hbox); have n2_ := Aside0.mk ((by rw [hg]; exact (below_size (by repeat (first | (with_reducible first | exact HB.out | apply below_alloc | apply pw_below_drewN | apply below_drew1) | exact HB.out))) : w.heap.size ≤ gb176)); have n3_ := Aside0.mk ((by rw [hg]; exact (below_size (by repeat (first | (with_reducible first | exact HB.out | apply below_alloc | apply pw_below_drewN | apply below_drew1) | exact HB.out))) : w.heap.size ≤ gb176)); clear HB; have HB := n0_; have BK176 := n1_; have GW176 := n2_; have GE176 := n3_; clear n0_ n1_ n2_ n3_; clear hb hbox hg))
  repeat (go_quiet (first | ((with_reducible refine gate_dst (N := 2) rfl ?_); (try (refine gate_guard (by rfl) ?_; dsimp only)); refine box_event ?hg (N := 2) ?hd (cs := #[.int .u64 a0_0, .string a0_1, .slice A0_2 l0_2.length c0_2]) (t := 25) ?hr ?_; (case hd => rfl); (case hg => rfl); (case hr => first | (go_simp; done) | (go_simp; rfl)); intro gb176 hg w4 hbox hb; have n0_ := Aside0.mk (below_step (by repeat (first | (with_reducible first | exact HB.out | apply below_alloc | apply pw_below_drewN | apply below_drew1) | exact HB.out)) hb); have n1_ := Aside0.mk (hbox); have n2_ := Aside0.mk ((by rw [hg]; exact (below_size (by repeat (first | (with_reducible first | exact HB.out | apply below_alloc | apply pw_below_drewN | apply below_drew1) | exact HB.out))) : w.heap.size ≤ gb176)); have n3_ := Aside0.mk ((by rw [hg]; exact (below_size (by repeat (first | (with_reducible first | exact HB.out | apply below_alloc | apply pw_below_drewN | apply below_drew1) | exact HB.out))) : w.heap.size ≤ gb176)); clear HB; have HB := n0_; have BK176 := n1_; have GW176 := n2_; have GE176 := n3_; clear n0_ n1_ n2_ n3_; clear hb hbox hg)); go_upto_region 1 with (first | ((with_reducible refine gate_dst (N := 2) rfl ?_); (try (refine gate_guard (by rfl) ?_; dsimp only)); refine box_event ?hg (N := 2) ?hd (cs := #[.int .u64 a0_0, .string a0_1, .slice A0_2 l0_2.length c0_2]) (t := 25) ?hr ?_; (case hd => rfl); (case hg => rfl); (case hr => first | (go_simp; done) | (go_simp; rfl)); intro gb176 hg w4 hbox hb; have n0_ := Aside0.mk (below_step (by repeat (first | (with_reducible first | exact HB.out | apply below_alloc | apply pw_below_drewN | apply below_drew1) | exact HB.out)) hb); have n1_ := Aside0.mk (hbox); have n2_ := Aside0.mk ((by rw [hg]; exact (below_size (by repeat (first | (with_reducible first | exact HB.out | apply below_alloc | apply pw_below_drewN | apply below_drew1) | exact HB.out))) : w.heap.size ≤ gb176)); have n3_ := Aside0.mk ((by rw [hg]; exact (below_size (by repeat (first | (with_reducible first | exact HB.out | apply below_alloc | apply pw_below_drewN | apply below_drew1) | exact HB.out))) : w.heap.size ≤ gb176)); clear HB; have HB := n0_; have BK176 := n1_; have GW176 := n2_; have GE176 := n3_; clear n0_ n1_ n2_ n3_; clear hb hbox hg)))
  (try simp only [Act.put, List.setIfInBounds_toArray, List.set_cons_zero, List.set_cons_succ])
  go_cut [23] (fun v23 wc => ∃ (kq : Nat) (x23_2 : Bool), v23 = .bool x23_2 ∧ Aside0 (cellarerref08_Whole.j0 kq l1 x23_2 a0_0 a0_1 l0_2 = some (r1, r2, r3)) ∧ Aside0 (kq ≤ k) ∧ Aside0 (wc.heap[gb176]? = some (.cells #[.int .u64 a0_0, .string a0_1, (.slice A0_2 l0_2.length c0_2)] 25 (0, 0))) ∧ Aside0 (Below w.heap.size w wc))
  case first =>
    have H := HC3.out
    clear HC3
    replace H := Option.bind_eq_some_iff.mp H
    obtain ⟨t177, A50, H⟩ := H
    replace H : (if t177 = true then (cellarerref08_Whole.j0 k l1 ((l1.length : Int) == 0) a0_0 a0_1 l0_2) else (cellarerref08_Whole.j0 k l1 true a0_0 a0_1 l0_2)) = some (r1, r2, r3) := H
    have A5 := Aside0.mk A50
    clear A50
    by_cases c6 : t177 = true
    · subst c6
      have H1 : (cellarerref08_Whole.j0 k l1 ((l1.length : Int) == 0) a0_0 a0_1 l0_2) = some (r1, r2, r3) := by rw [if_pos rfl] at H; exact H
      clear H
      have H := H1
      clear H1
      have H' := Aside0.mk H
      clear H
      have hcz7_0 : w4.cell? ⟨gb176, 0, none⟩ = some (.int .u64 a0_0) := (blk_cell BK176.out 0).trans rfl
      have hcz7_1 : w4.cell? ⟨gb176, 1, none⟩ = some (.string a0_1) := (blk_cell BK176.out 1).trans rfl
      have hcz7_2 : w4.cell? ⟨gb176, 2, none⟩ = some (.slice A0_2 l0_2.length c0_2) := (blk_cell BK176.out 2).trans rfl
      have hfz7_0 := blk_frozen BK176.out 0
      have hfz7_1 := blk_frozen BK176.out 1
      have hfz7_2 := blk_frozen BK176.out 2
      go_wp2_with (first | (go_at_call 30; (with_reducible refine (cellarerref08_One.calls k a0_0 a0_1 _ _ l0_2 true _ ?side1 ?side2 A5.out).mono ?_); (case side1 => repeat (first | exact (Kd.C_below HR0_2.out HB.out) | (with_reducible refine Kd.C_alloc ?_ _) | (with_reducible refine Kd.C_drewN ?_ _) | (with_reducible refine Kd.C_drew ?_))); (case side2 => exact HC0_2.out); rintro e w8 ⟨rfl, hb⟩; have n0_ := Aside0.mk (blk_below (g := gb176) (o := .cells #[.int .u64 a0_0, .string a0_1, .slice A0_2 l0_2.length c0_2] 25 (0, 0)) (by (with_reducible repeat (first | refine blk_drewN ?_ _ | refine blk_drew ?_ | refine blk_alloc ?_ _)); exact BK176.out) hb); have n1_ := Aside0.mk (below_step (by repeat (first | (with_reducible first | exact HB.out | apply below_alloc | apply pw_below_drewN | apply below_drew1 | refine below_set ?_ GE176.out) | exact HB.out)) hb); clear BK176; clear HB; have BK176 := n0_; have HB := n1_; clear n0_ n1_; (try clear hb); (try clear hb2); (try clear hk); (try clear hi)))
      repeat (go_quiet (first | (go_at_call 30; (with_reducible refine (cellarerref08_One.calls k a0_0 a0_1 _ _ l0_2 true _ ?side1 ?side2 A5.out).mono ?_); (case side1 => repeat (first | exact (Kd.C_below HR0_2.out HB.out) | (with_reducible refine Kd.C_alloc ?_ _) | (with_reducible refine Kd.C_drewN ?_ _) | (with_reducible refine Kd.C_drew ?_))); (case side2 => exact HC0_2.out); rintro e w8 ⟨rfl, hb⟩; have n0_ := Aside0.mk (blk_below (g := gb176) (o := .cells #[.int .u64 a0_0, .string a0_1, .slice A0_2 l0_2.length c0_2] 25 (0, 0)) (by (with_reducible repeat (first | refine blk_drewN ?_ _ | refine blk_drew ?_ | refine blk_alloc ?_ _)); exact BK176.out) hb); have n1_ := Aside0.mk (below_step (by repeat (first | (with_reducible first | exact HB.out | apply below_alloc | apply pw_below_drewN | apply below_drew1 | refine below_set ?_ GE176.out) | exact HB.out)) hb); clear BK176; clear HB; have BK176 := n0_; have HB := n1_; clear n0_ n1_; (try clear hb); (try clear hb2); (try clear hk); (try clear hi))); try go_wp2_with (first | (go_at_call 30; (with_reducible refine (cellarerref08_One.calls k a0_0 a0_1 _ _ l0_2 true _ ?side1 ?side2 A5.out).mono ?_); (case side1 => repeat (first | exact (Kd.C_below HR0_2.out HB.out) | (with_reducible refine Kd.C_alloc ?_ _) | (with_reducible refine Kd.C_drewN ?_ _) | (with_reducible refine Kd.C_drew ?_))); (case side2 => exact HC0_2.out); rintro e w8 ⟨rfl, hb⟩; have n0_ := Aside0.mk (blk_below (g := gb176) (o := .cells #[.int .u64 a0_0, .string a0_1, .slice A0_2 l0_2.length c0_2] 25 (0, 0)) (by (with_reducible repeat (first | refine blk_drewN ?_ _ | refine blk_drew ?_ | refine blk_alloc ?_ _)); exact BK176.out) hb); have n1_ := Aside0.mk (below_step (by repeat (first | (with_reducible first | exact HB.out | apply below_alloc | apply pw_below_drewN | apply below_drew1 | refine below_set ?_ GE176.out) | exact HB.out)) hb); clear BK176; clear HB; have BK176 := n0_; have HB := n1_; clear n0_ n1_; (try clear hb); (try clear hb2); (try clear hk); (try clear hi))))
      go_meet
      case rel => exact ⟨_, (((l1.length : Int) == 0)), (by first | rfl | (simp; done) | (simp [*]; done)), H', ⟨by first | omega | exact Nat.le_refl _⟩, ⟨by (with_reducible repeat (first | refine blk_drewN ?_ _ | refine blk_drew ?_ | refine blk_alloc ?_ _)); exact BK176.out⟩, ⟨by repeat (first | (with_reducible first | exact HB.out | apply below_alloc | apply pw_below_drewN | apply below_drew1 | refine below_set ?_ GE176.out) | exact HB.out)⟩⟩
    · replace c6 := Bool.eq_false_iff.mpr c6
      subst c6
      have H1 : (cellarerref08_Whole.j0 k l1 true a0_0 a0_1 l0_2) = some (r1, r2, r3) := by rw [if_neg (show ¬ (false = true) by decide)] at H; exact H
      clear H
      have H := H1
      clear H1
      have H' := Aside0.mk H
      clear H
      have hcz9_0 : w4.cell? ⟨gb176, 0, none⟩ = some (.int .u64 a0_0) := (blk_cell BK176.out 0).trans rfl
      have hcz9_1 : w4.cell? ⟨gb176, 1, none⟩ = some (.string a0_1) := (blk_cell BK176.out 1).trans rfl
      have hcz9_2 : w4.cell? ⟨gb176, 2, none⟩ = some (.slice A0_2 l0_2.length c0_2) := (blk_cell BK176.out 2).trans rfl
      have hfz9_0 := blk_frozen BK176.out 0
      have hfz9_1 := blk_frozen BK176.out 1
      have hfz9_2 := blk_frozen BK176.out 2
      go_wp2_with (first | (go_at_call 30; (with_reducible refine (cellarerref08_One.calls k a0_0 a0_1 _ _ l0_2 false _ ?side1 ?side2 A5.out).mono ?_); (case side1 => repeat (first | exact (Kd.C_below HR0_2.out HB.out) | (with_reducible refine Kd.C_alloc ?_ _) | (with_reducible refine Kd.C_drewN ?_ _) | (with_reducible refine Kd.C_drew ?_))); (case side2 => exact HC0_2.out); rintro e w10 ⟨rfl, hb⟩; have n0_ := Aside0.mk (blk_below (g := gb176) (o := .cells #[.int .u64 a0_0, .string a0_1, .slice A0_2 l0_2.length c0_2] 25 (0, 0)) (by (with_reducible repeat (first | refine blk_drewN ?_ _ | refine blk_drew ?_ | refine blk_alloc ?_ _)); exact BK176.out) hb); have n1_ := Aside0.mk (below_step (by repeat (first | (with_reducible first | exact HB.out | apply below_alloc | apply pw_below_drewN | apply below_drew1 | refine below_set ?_ GE176.out) | exact HB.out)) hb); clear BK176; clear HB; have BK176 := n0_; have HB := n1_; clear n0_ n1_; (try clear hb); (try clear hb2); (try clear hk); (try clear hi)))
      repeat (go_quiet (first | (go_at_call 30; (with_reducible refine (cellarerref08_One.calls k a0_0 a0_1 _ _ l0_2 false _ ?side1 ?side2 A5.out).mono ?_); (case side1 => repeat (first | exact (Kd.C_below HR0_2.out HB.out) | (with_reducible refine Kd.C_alloc ?_ _) | (with_reducible refine Kd.C_drewN ?_ _) | (with_reducible refine Kd.C_drew ?_))); (case side2 => exact HC0_2.out); rintro e w10 ⟨rfl, hb⟩; have n0_ := Aside0.mk (blk_below (g := gb176) (o := .cells #[.int .u64 a0_0, .string a0_1, .slice A0_2 l0_2.length c0_2] 25 (0, 0)) (by (with_reducible repeat (first | refine blk_drewN ?_ _ | refine blk_drew ?_ | refine blk_alloc ?_ _)); exact BK176.out) hb); have n1_ := Aside0.mk (below_step (by repeat (first | (with_reducible first | exact HB.out | apply below_alloc | apply pw_below_drewN | apply below_drew1 | refine below_set ?_ GE176.out) | exact HB.out)) hb); clear BK176; clear HB; have BK176 := n0_; have HB := n1_; clear n0_ n1_; (try clear hb); (try clear hb2); (try clear hk); (try clear hi))); try go_wp2_with (first | (go_at_call 30; (with_reducible refine (cellarerref08_One.calls k a0_0 a0_1 _ _ l0_2 false _ ?side1 ?side2 A5.out).mono ?_); (case side1 => repeat (first | exact (Kd.C_below HR0_2.out HB.out) | (with_reducible refine Kd.C_alloc ?_ _) | (with_reducible refine Kd.C_drewN ?_ _) | (with_reducible refine Kd.C_drew ?_))); (case side2 => exact HC0_2.out); rintro e w10 ⟨rfl, hb⟩; have n0_ := Aside0.mk (blk_below (g := gb176) (o := .cells #[.int .u64 a0_0, .string a0_1, .slice A0_2 l0_2.length c0_2] 25 (0, 0)) (by (with_reducible repeat (first | refine blk_drewN ?_ _ | refine blk_drew ?_ | refine blk_alloc ?_ _)); exact BK176.out) hb); have n1_ := Aside0.mk (below_step (by repeat (first | (with_reducible first | exact HB.out | apply below_alloc | apply pw_below_drewN | apply below_drew1 | refine below_set ?_ GE176.out) | exact HB.out)) hb); clear BK176; clear HB; have BK176 := n0_; have HB := n1_; clear n0_ n1_; (try clear hb); (try clear hb2); (try clear hk); (try clear hi))))
      go_meet
      case rel => exact ⟨_, (true), (by first | rfl | (simp; done) | (simp [*]; done)), H', ⟨by first | omega | exact Nat.le_refl _⟩, ⟨by (with_reducible repeat (first | refine blk_drewN ?_ _ | refine blk_drew ?_ | refine blk_alloc ?_ _)); exact BK176.out⟩, ⟨by repeat (first | (with_reducible first | exact HB.out | apply below_alloc | apply pw_below_drewN | apply below_drew1 | refine below_set ?_ GE176.out) | exact HB.out)⟩⟩
  case rest =>
    clear HC3
    try clear c1
    try clear p2
    try clear c6
    try clear c10
    try clear hcz7_0
    try clear hcz7_1
    try clear hcz7_2
    try clear hcz9_0
    try clear hcz9_1
    try clear hcz9_2
    try clear hfz7_0
    try clear hfz7_1
    try clear hfz7_2
    try clear hfz9_0
    try clear hfz9_1
    try clear hfz9_2
    obtain ⟨kq, x23_2, rfl, HA, HJ2, BK176, HB⟩ := hcut
    cases kq with
    | zero => exact absurd HA.out (by simp [cellarerref08_Whole.j0])
    | succ kj2 =>
      have H := HA.out
      clear HA
      simp only [cellarerref08_Whole.j0] at H
      by_cases c11 : x23_2 = true
      · subst c11
        have H1 : (some ((⟨#[]⟩ : ByteArray), (⟨#[]⟩ : ByteArray), 1)) = some (r1, r2, r3) := by rw [if_pos rfl] at H; exact H
        clear H
        have H := H1
        clear H1
        simp only [Option.some.injEq, Prod.mk.injEq] at H
        obtain ⟨rfl, rfl, rfl⟩ := H
        go_wp2
        repeat (go_quiet (fail); try go_wp2)
        go_ret3
        exact ⟨by first | rfl | (simp [errW_none, errW_some] <;> rfl) | (simp [*, errW_none, errW_some] <;> rfl), by repeat (first | (with_reducible first | exact HB.out | apply below_alloc | apply pw_below_drewN | apply below_drew1 | refine below_set ?_ GE176.out) | exact HB.out)⟩
      · replace c11 := Bool.eq_false_iff.mpr c11
        subst c11
        have H1 : (cellarerref08_Whole.l0 kj2 l1 1 a0_0 a0_1 l0_2) = some (r1, r2, r3) := by rw [if_neg (show ¬ (false = true) by decide)] at H; exact H
        clear H
        have H := H1
        clear H1
        have H' := Aside0.mk H
        clear H
        go_wp2
        repeat (go_quiet (fail); try go_wp2)
        go_loopg [7] kj2 (fun kq v7 w' => ∃ (x7_2 : Int), v7 = .int .i64 x7_2 ∧ Aside0 (cellarerref08_Whole.l0 kq l1 x7_2 a0_0 a0_1 l0_2 = some (r1, r2, r3)) ∧ Aside0 (kq ≤ kj2) ∧ Aside0 (w'.heap[gb176]? = some (.cells #[.int .u64 a0_0, .string a0_1, (.slice A0_2 l0_2.length c0_2)] 25 (0, 0))) ∧ Aside0 (Below w.heap.size w w'))
        case atStart => exact ⟨(1), (by first | rfl | (simp; done) | (simp [*]; done)), H', ⟨Nat.le_refl _⟩, ⟨by (with_reducible repeat (first | refine blk_drewN ?_ _ | refine blk_drew ?_ | refine blk_alloc ?_ _)); exact BK176.out⟩, ⟨by repeat (first | (with_reducible first | exact HB.out | apply below_alloc | apply pw_below_drewN | apply below_drew1 | refine below_set ?_ GE176.out) | exact HB.out)⟩⟩
        case round =>
          clear H'
          try clear c1
          try clear p2
          try clear c6
          try clear c10
          try clear c11
          try clear hcz7_0
          try clear hcz7_1
          try clear hcz7_2
          try clear hcz9_0
          try clear hcz9_1
          try clear hcz9_2
          try clear hfz7_0
          try clear hfz7_1
          try clear hfz7_2
          try clear hfz9_0
          try clear hfz9_1
          try clear hfz9_2
          try clear p2
          obtain ⟨x7_2, rfl, HA, HK2, BK176, HB⟩ := hrel
          cases gk with
          | zero => exact absurd HA.out (by simp [cellarerref08_Whole.l0])
          | succ k2 =>
            have H := HA.out
            clear HA
            simp only [cellarerref08_Whole.l0] at H
            by_cases c12 : x7_2 < (l1.length : Int)
            · rw [if_pos c12] at H
              have c12b0 : decide (x7_2 < (l1.length : Int)) = true := decide_eq_true c12
              clear c12
              by_cases c13 : 0 ≤ x7_2
              · rw [if_pos c13] at H
                have c13b0 : decide (0 ≤ x7_2) = true := decide_eq_true c13
                clear c13
                obtain ⟨ji14, hji14⟩ : ∃ j_ : Int, (wrap64 (x7_2 - 1)) = j_ := ⟨_, rfl⟩
                replace H : (if 0 ≤ (ji14) then (if (ji14) < (l1.length : Int) then (if ((rd_T48 l1 x7_2).f0) ≤ ((rd_T48 l1 (ji14)).f0) then (some ((⟨#[]⟩ : ByteArray), (⟨#[]⟩ : ByteArray), 9)) else (cellarerref08_Whole.l0 k2 l1 (wrap64 (x7_2 + 1)) a0_0 a0_1 l0_2)) else (none)) else (none)) = some (r1, r2, r3) := by first | (rw [hji14] at H; exact H) | (simp only [hji14] at H ⊢; exact H)
                have hji14w : (IntKind.i64.wrap (x7_2 - 1)) = ji14 := (i64_w _).trans hji14
                by_cases c15 : 0 ≤ (ji14)
                · rw [if_pos c15] at H
                  have c15b0 : decide (0 ≤ (ji14)) = true := decide_eq_true c15
                  clear c15
                  by_cases c16 : (ji14) < (l1.length : Int)
                  · rw [if_pos c16] at H
                    have c16b0 : decide ((ji14) < (l1.length : Int)) = true := decide_eq_true c16
                    clear c16
                    by_cases c17 : ((rd_T48 l1 x7_2).f0) ≤ ((rd_T48 l1 (ji14)).f0)
                    · rw [if_pos c17] at H
                      have c17b0 : decide (((rd_T48 l1 x7_2).f0) ≤ ((rd_T48 l1 (ji14)).f0)) = true := decide_eq_true c17
                      clear c17
                      simp only [Option.some.injEq, Prod.mk.injEq] at H
                      obtain ⟨rfl, rfl, rfl⟩ := H
                      have p178 : 0 ≤ (x7_2 : Int) := of_decide_eq_true (by first | (with_reducible assumption) | assumption)
                      have q178 : x7_2 < (l1.length : Int) := of_decide_eq_true (by first | (with_reducible assumption) | assumption)
                      obtain ⟨ad178, e178, hx178_0, hx178_1⟩ := at_T48 HR1.out x7_2 p178 q178
                      cases e178
                      replace hx178_0 := (HB.out.cell (World.block_lt_of_cell? w _ hx178_0)).trans hx178_0
                      replace hx178_1 := (HB.out.cell (World.block_lt_of_cell? w _ hx178_1)).trans hx178_1
                      replace p178 := eq_true p178
                      replace q178 := eq_true q178
                      have p179 : 0 ≤ ((ji14) : Int) := of_decide_eq_true (by first | (with_reducible assumption) | assumption)
                      have q179 : (ji14) < (l1.length : Int) := of_decide_eq_true (by first | (with_reducible assumption) | assumption)
                      obtain ⟨ad179, e179, hx179_0, hx179_1⟩ := at_T48 HR1.out (ji14) p179 q179
                      obtain rfl : ad178 = ad179 := (by injection e179)
                      replace hx179_0 := (HB.out.cell (World.block_lt_of_cell? w _ hx179_0)).trans hx179_0
                      replace hx179_1 := (HB.out.cell (World.block_lt_of_cell? w _ hx179_1)).trans hx179_1
                      replace p179 := eq_true p179
                      replace q179 := eq_true q179
                      go_wp2
                      repeat (go_quiet (fail); try go_wp2)
                      go_ret3
                      exact ⟨by first | rfl | (simp [errW_none, errW_some] <;> rfl) | (simp only [← hji14]; first | rfl | (simp [errW_none, errW_some] <;> rfl)) | (simp [*, errW_none, errW_some] <;> rfl), by repeat (first | (with_reducible first | exact HB.out | apply below_alloc | apply pw_below_drewN | apply below_drew1 | refine below_set ?_ GE176.out) | exact HB.out)⟩
                    · rw [if_neg c17] at H
                      have c17b0 : decide (((rd_T48 l1 x7_2).f0) ≤ ((rd_T48 l1 (ji14)).f0)) = false := decide_eq_false c17
                      clear c17
                      have H' := Aside0.mk H
                      clear H
                      have p178 : 0 ≤ (x7_2 : Int) := of_decide_eq_true (by first | (with_reducible assumption) | assumption)
                      have q178 : x7_2 < (l1.length : Int) := of_decide_eq_true (by first | (with_reducible assumption) | assumption)
                      obtain ⟨ad178, e178, hx178_0, hx178_1⟩ := at_T48 HR1.out x7_2 p178 q178
                      cases e178
                      replace hx178_0 := (HB.out.cell (World.block_lt_of_cell? w _ hx178_0)).trans hx178_0
                      replace hx178_1 := (HB.out.cell (World.block_lt_of_cell? w _ hx178_1)).trans hx178_1
                      replace p178 := eq_true p178
                      replace q178 := eq_true q178
                      have p179 : 0 ≤ ((ji14) : Int) := of_decide_eq_true (by first | (with_reducible assumption) | assumption)
                      have q179 : (ji14) < (l1.length : Int) := of_decide_eq_true (by first | (with_reducible assumption) | assumption)
                      obtain ⟨ad179, e179, hx179_0, hx179_1⟩ := at_T48 HR1.out (ji14) p179 q179
                      obtain rfl : ad178 = ad179 := (by injection e179)
                      replace hx179_0 := (HB.out.cell (World.block_lt_of_cell? w _ hx179_0)).trans hx179_0
                      replace hx179_1 := (HB.out.cell (World.block_lt_of_cell? w _ hx179_1)).trans hx179_1
                      replace p179 := eq_true p179
                      replace q179 := eq_true q179
                      go_wp2
                      repeat (go_quiet (fail); try go_wp2)
                      go_roundg k2
                      case measure => have := HJ2.out; have := HK2.out; omega
                      case rel => exact ⟨(wrap64 (x7_2 + 1)), (by first | rfl | (simp; done) | (simp [*]; done)), H', ⟨by have := HJ2.out; have := HK2.out; omega⟩, ⟨by (with_reducible repeat (first | refine blk_drewN ?_ _ | refine blk_drew ?_ | refine blk_alloc ?_ _)); exact BK176.out⟩, ⟨by repeat (first | (with_reducible first | exact HB.out | apply below_alloc | apply pw_below_drewN | apply below_drew1 | refine below_set ?_ GE176.out) | exact HB.out)⟩⟩
                  · rw [if_neg c16] at H
                    exact absurd H (by simp)
                · rw [if_neg c15] at H
                  exact absurd H (by simp)
              · rw [if_neg c13] at H
                exact absurd H (by simp)
            · rw [if_neg c12] at H
              have c12b0 : decide (x7_2 < (l1.length : Int)) = false := decide_eq_false c12
              clear c12
              have H' := Aside0.mk H
              clear H
              go_wp2
              repeat (go_quiet (fail); try go_wp2)
              go_loopg [8, 9, 10, 11, 12] k2 (fun kq v8 v9 v10 v11 v12 w' => ∃ (x8_3 : ByteArray) (x9_3 : Bool) (x10_3 : Bool) (x11_3 : List Int) (x12_3 : Int), v8 = .string x8_3 ∧ v9 = .bool x9_3 ∧ v10 = .bool x10_3 ∧ v12 = .int .i64 x12_3 ∧ Aside0 (cellarerref08_Whole.l1 kq l1 x8_3 x9_3 x10_3 x11_3 x12_3 a0_0 a0_1 l0_2 = some (r1, r2, r3)) ∧ Aside0 (kq ≤ k2) ∧ Aside0 (Kd.R (Kd.int .u32) 42 w' w.heap.size (fun _ => True) v11 x11_3) ∧ Aside0 (w'.heap[gb176]? = some (.cells #[.int .u64 a0_0, .string a0_1, (.slice A0_2 l0_2.length c0_2)] 25 (0, 0))) ∧ Aside0 (Below w.heap.size w w'))
              case atStart => exact ⟨((⟨#[]⟩ : ByteArray)), (false), (false), (([] : List Int)), (0), (by first | rfl | (simp; done) | (simp [*]; done)), (by first | rfl | (simp; done) | (simp [*]; done)), (by first | rfl | (simp; done) | (simp [*]; done)), (by first | rfl | (simp; done) | (simp [*]; done)), H', ⟨Nat.le_refl _⟩, ⟨by first | exact Kd.R_nil _ _ _ _ _ | exact Kd.N_nil _ _ _ _ _ | exact Kd.V_nil _ _ _ _ _ | exact Kd.Q_nil _ _ _ _ _ | exact Kd.S_nil _ _ _ _ _⟩, ⟨by (with_reducible repeat (first | refine blk_drewN ?_ _ | refine blk_drew ?_ | refine blk_alloc ?_ _)); exact BK176.out⟩, ⟨by repeat (first | (with_reducible first | exact HB.out | apply below_alloc | apply pw_below_drewN | apply below_drew1 | refine below_set ?_ GE176.out) | exact HB.out)⟩⟩
              case round =>
                clear H'
                try clear c1
                try clear p1
                try clear q1
                try clear hx1
                try clear p2
                try clear c6
                try clear p6
                try clear c10
                try clear c11
                try clear c12
                try clear c12b0
                try clear c13
                try clear c13b0
                try clear c15
                try clear c15b0
                try clear c16
                try clear c16b0
                try clear c17
                try clear c17b0
                try clear p17
                try clear q17
                try clear hx17
                try clear hcz7_0
                try clear hcz7_1
                try clear hcz7_2
                try clear hcz9_0
                try clear hcz9_1
                try clear hcz9_2
                try clear hfz7_0
                try clear hfz7_1
                try clear hfz7_2
                try clear hfz9_0
                try clear hfz9_1
                try clear hfz9_2
                try clear hx178_0
                try clear hx178_1
                try clear hx179_0
                try clear hx179_1
                try clear p178
                try clear p179
                try clear p2
                try clear q178
                try clear q179
                obtain ⟨x8_3, x9_3, x10_3, x11_3, x12_3, rfl, rfl, rfl, rfl, HA, HK3, HO_11, BK176, HB⟩ := hrel
                cases gk with
                | zero => exact absurd HA.out (by simp [cellarerref08_Whole.l1])
                | succ k3 =>
                  have H := HA.out
                  clear HA
                  simp only [cellarerref08_Whole.l1] at H
                  by_cases c18 : x12_3 < (l1.length : Int)
                  · rw [if_pos c18] at H
                    have c18b0 : decide (x12_3 < (l1.length : Int)) = true := decide_eq_true c18
                    clear c18
                    have H' := Aside0.mk H
                    clear H
                    go_wp2
                    repeat (go_quiet (fail); try go_wp2)
                    go_loopg [8, 9, 13, 14] k3 (fun kq v8 v9 v13 v14 w' => ∃ (x8_4 : ByteArray) (x9_4 : Bool) (x13_4 : Bool) (x14_4 : Int), v8 = .string x8_4 ∧ v9 = .bool x9_4 ∧ v13 = .bool x13_4 ∧ v14 = .int .i64 x14_4 ∧ Aside0 (cellarerref08_Whole.l2 kq l1 x8_4 x9_4 x10_3 x11_3 x12_3 x13_4 x14_4 a0_0 a0_1 l0_2 = some (r1, r2, r3)) ∧ Aside0 (kq ≤ k3) ∧ Aside0 (Kd.R (Kd.int .u32) 42 w' w.heap.size (fun _ => True) u11 x11_3) ∧ Aside0 (w'.heap[gb176]? = some (.cells #[.int .u64 a0_0, .string a0_1, (.slice A0_2 l0_2.length c0_2)] 25 (0, 0))) ∧ Aside0 (Below w.heap.size w w'))
                    case atStart => exact ⟨(x8_3), (x9_3), (false), (0), (by first | rfl | (simp; done) | (simp [*]; done)), (by first | rfl | (simp; done) | (simp [*]; done)), (by first | rfl | (simp; done) | (simp [*]; done)), (by first | rfl | (simp; done) | (simp [*]; done)), H', ⟨Nat.le_refl _⟩, ⟨by (with_reducible repeat (first | apply Kd.R_alloc | apply Kd.R_drewN | apply Kd.R_drew)); exact HO_11.out⟩, ⟨by (with_reducible repeat (first | refine blk_drewN ?_ _ | refine blk_drew ?_ | refine blk_alloc ?_ _)); exact BK176.out⟩, ⟨by repeat (first | (with_reducible first | exact HB.out | apply below_alloc | apply pw_below_drewN | apply below_drew1 | refine below_set ?_ GE176.out) | exact HB.out)⟩⟩
                    case round =>
                      clear H'
                      try clear c1
                      try clear p1
                      try clear q1
                      try clear hx1
                      try clear p2
                      try clear c6
                      try clear p6
                      try clear c10
                      try clear c11
                      try clear c12
                      try clear c12b0
                      try clear c13
                      try clear c13b0
                      try clear c15
                      try clear c15b0
                      try clear c16
                      try clear c16b0
                      try clear c17
                      try clear c17b0
                      try clear p17
                      try clear q17
                      try clear hx17
                      try clear c18
                      try clear c18b0
                      try clear hcz7_0
                      try clear hcz7_1
                      try clear hcz7_2
                      try clear hcz9_0
                      try clear hcz9_1
                      try clear hcz9_2
                      try clear hfz7_0
                      try clear hfz7_1
                      try clear hfz7_2
                      try clear hfz9_0
                      try clear hfz9_1
                      try clear hfz9_2
                      try clear hx178_0
                      try clear hx178_1
                      try clear hx179_0
                      try clear hx179_1
                      try clear p1
                      try clear p17
                      try clear p178
                      try clear p179
                      try clear p2
                      try clear p6
                      try clear q1
                      try clear q17
                      try clear q178
                      try clear q179
                      obtain ⟨x8_4, x9_4, x13_4, x14_4, rfl, rfl, rfl, rfl, HA, HK4, HO_11, BK176, HB⟩ := hrel
                      cases gk with
                      | zero => exact absurd HA.out (by simp [cellarerref08_Whole.l2])
                      | succ k4 =>
                        have H := HA.out
                        clear HA
                        simp only [cellarerref08_Whole.l2] at H
                        by_cases c19 : x14_4 < (l0_2.length : Int)
                        · rw [if_pos c19] at H
                          have c19b0 : decide (x14_4 < (l0_2.length : Int)) = true := decide_eq_true c19
                          clear c19
                          by_cases c20 : 0 ≤ x14_4
                          · rw [if_pos c20] at H
                            have c20b0 : decide (0 ≤ x14_4) = true := decide_eq_true c20
                            clear c20
                            by_cases c21 : 0 ≤ x12_3
                            · rw [if_pos c21] at H
                              have c21b0 : decide (0 ≤ x12_3) = true := decide_eq_true c21
                              clear c21
                              by_cases c22 : x12_3 < (l1.length : Int)
                              · rw [if_pos c22] at H
                                have c22b0 : decide (x12_3 < (l1.length : Int)) = true := decide_eq_true c22
                                clear c22
                                by_cases c23 : ((rd_T40 l0_2 x14_4).f0) = ((rd_T48 l1 x12_3).f0)
                                · rw [if_pos c23] at H
                                  have c23b0 : (((rd_T40 l0_2 x14_4).f0) == ((rd_T48 l1 x12_3).f0)) = true := beq_iff_eq.mpr c23
                                  have c23b1 : (((rd_T40 l0_2 x14_4).f0) != ((rd_T48 l1 x12_3).f0)) = false := bne_eq_false_iff_eq.mpr c23
                                  clear c23
                                  replace H := Option.bind_eq_some_iff.mp H
                                  obtain ⟨t183, A240, H⟩ := H
                                  replace H : (if t183 = ((rd_T48 l1 x12_3).f1) then (if x8_4.size + ((rd_T40 l0_2 x14_4).f1).size ≤ 9223372036854775807 then (if x9_4 = true then (cellarerref08_Whole.l2 k4 l1 (x8_4 ++ ((rd_T40 l0_2 x14_4).f1)) true x10_3 x11_3 x12_3 true (wrap64 (x14_4 + 1)) a0_0 a0_1 l0_2) else (if x12_3 < (wrap64 ((l1.length : Int) - 1)) then (cellarerref08_Whole.l2 k4 l1 (x8_4 ++ ((rd_T40 l0_2 x14_4).f1)) (decide ((((rd_T40 l0_2 x14_4).f1).size : Int) < 5)) x10_3 x11_3 x12_3 true (wrap64 (x14_4 + 1)) a0_0 a0_1 l0_2) else (cellarerref08_Whole.l2 k4 l1 (x8_4 ++ ((rd_T40 l0_2 x14_4).f1)) false x10_3 x11_3 x12_3 true (wrap64 (x14_4 + 1)) a0_0 a0_1 l0_2))) else (none)) else (cellarerref08_Whole.l2 k4 l1 x8_4 x9_4 x10_3 x11_3 x12_3 x13_4 (wrap64 (x14_4 + 1)) a0_0 a0_1 l0_2)) = some (r1, r2, r3) := H
                                  have A24 := Aside0.mk A240
                                  clear A240
                                  by_cases c25 : t183 = ((rd_T48 l1 x12_3).f1)
                                  · rw [if_pos c25] at H
                                    have c25b0 : (t183 == ((rd_T48 l1 x12_3).f1)) = true := beq_iff_eq.mpr c25
                                    have c25b1 : (t183 != ((rd_T48 l1 x12_3).f1)) = false := bne_eq_false_iff_eq.mpr c25
                                    clear c25
                                    by_cases c26 : x8_4.size + ((rd_T40 l0_2 x14_4).f1).size ≤ 9223372036854775807
                                    · rw [if_pos c26] at H
                                      have c26b0 := eq_true c26
                                      have c26b1 : decide (x8_4.size + ((rd_T40 l0_2 x14_4).f1).size ≤ 9223372036854775807) = true := decide_eq_true c26
                                      try have c26b2 : (9223372036854775807 < x8_4.size + ((rd_T40 l0_2 x14_4).f1).size) = False := eq_false (Nat.not_lt.2 c26)
                                      by_cases c27 : x9_4 = true
                                      · subst c27
                                        have H1 : (cellarerref08_Whole.l2 k4 l1 (x8_4 ++ ((rd_T40 l0_2 x14_4).f1)) true x10_3 x11_3 x12_3 true (wrap64 (x14_4 + 1)) a0_0 a0_1 l0_2) = some (r1, r2, r3) := by rw [if_pos rfl] at H; exact H
                                        clear H
                                        have H := H1
                                        clear H1
                                        have H' := Aside0.mk H
                                        clear H
                                        have hcz28_0 : wr.cell? ⟨gb176, 0, none⟩ = some (.int .u64 a0_0) := (blk_cell BK176.out 0).trans rfl
                                        have hcz28_1 : wr.cell? ⟨gb176, 1, none⟩ = some (.string a0_1) := (blk_cell BK176.out 1).trans rfl
                                        have hcz28_2 : wr.cell? ⟨gb176, 2, none⟩ = some (.slice A0_2 l0_2.length c0_2) := (blk_cell BK176.out 2).trans rfl
                                        have hfz28_0 := blk_frozen BK176.out 0
                                        have hfz28_1 := blk_frozen BK176.out 1
                                        have hfz28_2 := blk_frozen BK176.out 2
                                        have p180 : 0 ≤ (x14_4 : Int) := of_decide_eq_true (by first | (with_reducible assumption) | assumption)
                                        have q180 : x14_4 < (l0_2.length : Int) := of_decide_eq_true (by first | (with_reducible assumption) | assumption)
                                        obtain ⟨ad180, e180, hx180_0, hx180_1⟩ := at_T40 HR0_2.out x14_4 p180 q180
                                        cases e180
                                        replace hx180_0 := (HB.out.cell (World.block_lt_of_cell? w _ hx180_0)).trans hx180_0
                                        replace hx180_1 := (HB.out.cell (World.block_lt_of_cell? w _ hx180_1)).trans hx180_1
                                        replace p180 := eq_true p180
                                        replace q180 := eq_true q180
                                        go_wp2_with (first | ((with_reducible refine gate_dst (N := 15) rfl ?_); (try (refine gate_guard (by rfl) ?_; dsimp only)); refine box_event ?hg (N := 15) ?hd (cs := #[.int .i64 0, .string (⟨#[]⟩ : ByteArray)]) (t := 40) ?hr ?_; (case hd => rfl); (case hg => rfl); (case hr => first | (go_simp; done) | (go_simp; rfl)); intro gb181 hg w29 hbox hb; have n0_ := Aside0.mk (Kd.R_below (by (with_reducible repeat (first | apply Kd.R_alloc | apply Kd.R_drewN | apply Kd.R_drew)); exact HO_11.out) hb); have n1_ := Aside0.mk (blk_below (g := gb176) (o := .cells #[.int .u64 a0_0, .string a0_1, .slice (some ad180) l0_2.length c0_2] 25 (0, 0)) (by (with_reducible repeat (first | refine blk_drewN ?_ _ | refine blk_drew ?_ | refine blk_alloc ?_ _)); exact BK176.out) hb); have n2_ := Aside0.mk (below_step (by repeat (first | (with_reducible first | exact HB.out | apply below_alloc | apply pw_below_drewN | apply below_drew1 | refine below_set ?_ GE176.out) | exact HB.out)) hb); have n3_ := Aside0.mk (hbox); have n4_ := Aside0.mk ((by rw [hg]; exact (below_size (by repeat (first | (with_reducible first | exact HB.out | apply below_alloc | apply pw_below_drewN | apply below_drew1 | refine below_set ?_ GE176.out) | exact HB.out))) : w.heap.size ≤ gb181)); have n5_ := Aside0.mk ((by rw [hg]; exact (below_size (by repeat (first | (with_reducible first | exact HB.out | apply below_alloc | apply pw_below_drewN | apply below_drew1 | refine below_set ?_ GE176.out) | exact HB.out))) : w.heap.size ≤ gb181)); have n6_ := Aside0.mk ((by rw [hg]; exact Nat.ne_of_lt (blk_lt (g := gb176) (o := .cells #[.int .u64 a0_0, .string a0_1, .slice (some ad180) l0_2.length c0_2] 25 (0, 0)) (by (with_reducible repeat (first | refine blk_drewN ?_ _ | refine blk_drew ?_ | refine blk_alloc ?_ _)); exact BK176.out)) : gb176 ≠ gb181)); have n7_ := Aside0.mk ((by rw [hg]; exact Nat.ne_of_gt (blk_lt (g := gb176) (o := .cells #[.int .u64 a0_0, .string a0_1, .slice (some ad180) l0_2.length c0_2] 25 (0, 0)) (by (with_reducible repeat (first | refine blk_drewN ?_ _ | refine blk_drew ?_ | refine blk_alloc ?_ _)); exact BK176.out)) : gb181 ≠ gb176)); clear HO_11; clear BK176; clear HB; have HO_11 := n0_; have BK176 := n1_; have HB := n2_; have BK181 := n3_; have GW181 := n4_; have GE181 := n5_; have NB176_181 := n6_; have NB181_176 := n7_; clear n0_ n1_ n2_ n3_ n4_ n5_ n6_ n7_; clear hb hbox hg; have hnb30 := NB181_176.out; have hnc30 := NB176_181.out; have hcz31_0 : w29.cell? ⟨gb181, 0, none⟩ = some (.int .i64 0) := (blk_cell BK181.out 0).trans rfl; have hcz31_1 : w29.cell? ⟨gb181, 1, none⟩ = some (.string (⟨#[]⟩ : ByteArray)) := (blk_cell BK181.out 1).trans rfl; have hfz31_0 := blk_frozen BK181.out 0; have hfz31_1 := blk_frozen BK181.out 1; have p182 : 0 ≤ (x12_3 : Int) := of_decide_eq_true (by first | (with_reducible assumption) | assumption); have q182 : x12_3 < (l1.length : Int) := of_decide_eq_true (by first | (with_reducible assumption) | assumption); obtain ⟨ad182, e182, hx182_0, hx182_1⟩ := at_T48 HR1.out x12_3 p182 q182; cases e182; have hn182_0 : ad182.block ≠ gb181 := Nat.ne_of_lt (Nat.lt_of_lt_of_le (by have := World.block_lt_of_cell? _ _ hx182_0; first | rwa [add_block] at this | exact this) GW181.out); have hn182_1 : ad182.block ≠ gb181 := Nat.ne_of_lt (Nat.lt_of_lt_of_le (by have := World.block_lt_of_cell? _ _ hx182_0; first | rwa [add_block] at this | exact this) GW181.out); replace hx182_0 := (HB.out.cell (World.block_lt_of_cell? w _ hx182_0)).trans hx182_0; replace hx182_1 := (HB.out.cell (World.block_lt_of_cell? w _ hx182_1)).trans hx182_1; replace hx182_0 := (cell_far (p := ⟨gb181, 0, none⟩) (by first | (rw [add_block]; exact hn182_0) | (show (Addr.add _ _).block ≠ _; rw [add_block]; exact hn182_0) | exact hn182_0) (.int .i64 ((rd_T40 l0_2 x14_4).f0))).trans hx182_0; replace hx182_1 := (cell_far (p := ⟨gb181, 0, none⟩) (by first | (rw [add_block]; exact hn182_0) | (show (Addr.add _ _).block ≠ _; rw [add_block]; exact hn182_0) | exact hn182_0) (.int .i64 ((rd_T40 l0_2 x14_4).f0))).trans hx182_1; replace hx182_0 := (cell_far (p := ⟨gb181, 1, none⟩) (by first | (rw [add_block]; exact hn182_1) | (show (Addr.add _ _).block ≠ _; rw [add_block]; exact hn182_1) | exact hn182_1) (.string ((rd_T40 l0_2 x14_4).f1))).trans hx182_0; replace hx182_1 := (cell_far (p := ⟨gb181, 1, none⟩) (by first | (rw [add_block]; exact hn182_1) | (show (Addr.add _ _).block ≠ _; rw [add_block]; exact hn182_1) | exact hn182_1) (.string ((rd_T40 l0_2 x14_4).f1))).trans hx182_1; (try have hy182_0 := fun (n_ : Nat) => (show ((((w29.drewN n_).setCell ⟨gb181, 0, none⟩ (.int .i64 ((rd_T40 l0_2 x14_4).f0))).setCell ⟨gb181, 1, none⟩ (.string ((rd_T40 l0_2 x14_4).f1)))).cell? _ = some _ from hx182_0)); (try have hy182_1 := fun (n_ : Nat) => (show ((((w29.drewN n_).setCell ⟨gb181, 0, none⟩ (.int .i64 ((rd_T40 l0_2 x14_4).f0))).setCell ⟨gb181, 1, none⟩ (.string ((rd_T40 l0_2 x14_4).f1)))).cell? _ = some _ from hx182_1)); clear hn182_0; clear hn182_1; replace p182 := eq_true p182; replace q182 := eq_true q182) | (go_at_call 15; (with_reducible refine (cellarerref04_Of.calls k4 ((rd_T40 l0_2 x14_4).f1) t183 _ A24.out).mono ?_); rintro e w' ⟨rfl, ⟨nd, rfl⟩⟩; (try first | exact ⟨rfl, _, World.drewN_drewN _ _ _⟩ | exact ⟨rfl, _, Eq.trans (World.drewN_drewN _ _ _) (congrArg (World.drewN _) (Nat.add_assoc _ _ _))⟩); have p184 : 0 ≤ (x12_3 : Int) := of_decide_eq_true (by first | (with_reducible assumption) | assumption); have q184 : x12_3 < (l1.length : Int) := of_decide_eq_true (by first | (with_reducible assumption) | assumption); obtain ⟨ad184, e184, hx184_0, hx184_1⟩ := at_T48 HR1.out x12_3 p184 q184; obtain rfl : ad182 = ad184 := (by injection e184); have hn184_0 : ad182.block ≠ gb181 := Nat.ne_of_lt (Nat.lt_of_lt_of_le (by have := World.block_lt_of_cell? _ _ hx184_0; first | rwa [add_block] at this | exact this) GW181.out); have hn184_1 : ad182.block ≠ gb181 := Nat.ne_of_lt (Nat.lt_of_lt_of_le (by have := World.block_lt_of_cell? _ _ hx184_0; first | rwa [add_block] at this | exact this) GW181.out); replace hx184_0 := (HB.out.cell (World.block_lt_of_cell? w _ hx184_0)).trans hx184_0; replace hx184_1 := (HB.out.cell (World.block_lt_of_cell? w _ hx184_1)).trans hx184_1; replace hx184_0 := (cell_far (p := ⟨gb181, 0, none⟩) (by first | (rw [add_block]; exact hn184_0) | (show (Addr.add _ _).block ≠ _; rw [add_block]; exact hn184_0) | exact hn184_0) (.int .i64 ((rd_T40 l0_2 x14_4).f0))).trans hx184_0; replace hx184_1 := (cell_far (p := ⟨gb181, 0, none⟩) (by first | (rw [add_block]; exact hn184_0) | (show (Addr.add _ _).block ≠ _; rw [add_block]; exact hn184_0) | exact hn184_0) (.int .i64 ((rd_T40 l0_2 x14_4).f0))).trans hx184_1; replace hx184_0 := (cell_far (p := ⟨gb181, 1, none⟩) (by first | (rw [add_block]; exact hn184_1) | (show (Addr.add _ _).block ≠ _; rw [add_block]; exact hn184_1) | exact hn184_1) (.string ((rd_T40 l0_2 x14_4).f1))).trans hx184_0; replace hx184_1 := (cell_far (p := ⟨gb181, 1, none⟩) (by first | (rw [add_block]; exact hn184_1) | (show (Addr.add _ _).block ≠ _; rw [add_block]; exact hn184_1) | exact hn184_1) (.string ((rd_T40 l0_2 x14_4).f1))).trans hx184_1; (try have hy184_0 := fun (n_ : Nat) => (show ((((w29.drewN n_).setCell ⟨gb181, 0, none⟩ (.int .i64 ((rd_T40 l0_2 x14_4).f0))).setCell ⟨gb181, 1, none⟩ (.string ((rd_T40 l0_2 x14_4).f1)))).cell? _ = some _ from hx184_0)); (try have hy184_1 := fun (n_ : Nat) => (show ((((w29.drewN n_).setCell ⟨gb181, 0, none⟩ (.int .i64 ((rd_T40 l0_2 x14_4).f0))).setCell ⟨gb181, 1, none⟩ (.string ((rd_T40 l0_2 x14_4).f1)))).cell? _ = some _ from hx184_1)); clear hn184_0; clear hn184_1; replace p184 := eq_true p184; replace q184 := eq_true q184))
                                        repeat (go_quiet (first | ((with_reducible refine gate_dst (N := 15) rfl ?_); (try (refine gate_guard (by rfl) ?_; dsimp only)); refine box_event ?hg (N := 15) ?hd (cs := #[.int .i64 0, .string (⟨#[]⟩ : ByteArray)]) (t := 40) ?hr ?_; (case hd => rfl); (case hg => rfl); (case hr => first | (go_simp; done) | (go_simp; rfl)); intro gb181 hg w29 hbox hb; have n0_ := Aside0.mk (Kd.R_below (by (with_reducible repeat (first | apply Kd.R_alloc | apply Kd.R_drewN | apply Kd.R_drew)); exact HO_11.out) hb); have n1_ := Aside0.mk (blk_below (g := gb176) (o := .cells #[.int .u64 a0_0, .string a0_1, .slice (some ad180) l0_2.length c0_2] 25 (0, 0)) (by (with_reducible repeat (first | refine blk_drewN ?_ _ | refine blk_drew ?_ | refine blk_alloc ?_ _)); exact BK176.out) hb); have n2_ := Aside0.mk (below_step (by repeat (first | (with_reducible first | exact HB.out | apply below_alloc | apply pw_below_drewN | apply below_drew1 | refine below_set ?_ GE176.out) | exact HB.out)) hb); have n3_ := Aside0.mk (hbox); have n4_ := Aside0.mk ((by rw [hg]; exact (below_size (by repeat (first | (with_reducible first | exact HB.out | apply below_alloc | apply pw_below_drewN | apply below_drew1 | refine below_set ?_ GE176.out) | exact HB.out))) : w.heap.size ≤ gb181)); have n5_ := Aside0.mk ((by rw [hg]; exact (below_size (by repeat (first | (with_reducible first | exact HB.out | apply below_alloc | apply pw_below_drewN | apply below_drew1 | refine below_set ?_ GE176.out) | exact HB.out))) : w.heap.size ≤ gb181)); have n6_ := Aside0.mk ((by rw [hg]; exact Nat.ne_of_lt (blk_lt (g := gb176) (o := .cells #[.int .u64 a0_0, .string a0_1, .slice (some ad180) l0_2.length c0_2] 25 (0, 0)) (by (with_reducible repeat (first | refine blk_drewN ?_ _ | refine blk_drew ?_ | refine blk_alloc ?_ _)); exact BK176.out)) : gb176 ≠ gb181)); have n7_ := Aside0.mk ((by rw [hg]; exact Nat.ne_of_gt (blk_lt (g := gb176) (o := .cells #[.int .u64 a0_0, .string a0_1, .slice (some ad180) l0_2.length c0_2] 25 (0, 0)) (by (with_reducible repeat (first | refine blk_drewN ?_ _ | refine blk_drew ?_ | refine blk_alloc ?_ _)); exact BK176.out)) : gb181 ≠ gb176)); clear HO_11; clear BK176; clear HB; have HO_11 := n0_; have BK176 := n1_; have HB := n2_; have BK181 := n3_; have GW181 := n4_; have GE181 := n5_; have NB176_181 := n6_; have NB181_176 := n7_; clear n0_ n1_ n2_ n3_ n4_ n5_ n6_ n7_; clear hb hbox hg; have hnb30 := NB181_176.out; have hnc30 := NB176_181.out; have hcz31_0 : w29.cell? ⟨gb181, 0, none⟩ = some (.int .i64 0) := (blk_cell BK181.out 0).trans rfl; have hcz31_1 : w29.cell? ⟨gb181, 1, none⟩ = some (.string (⟨#[]⟩ : ByteArray)) := (blk_cell BK181.out 1).trans rfl; have hfz31_0 := blk_frozen BK181.out 0; have hfz31_1 := blk_frozen BK181.out 1; have p182 : 0 ≤ (x12_3 : Int) := of_decide_eq_true (by first | (with_reducible assumption) | assumption); have q182 : x12_3 < (l1.length : Int) := of_decide_eq_true (by first | (with_reducible assumption) | assumption); obtain ⟨ad182, e182, hx182_0, hx182_1⟩ := at_T48 HR1.out x12_3 p182 q182; cases e182; have hn182_0 : ad182.block ≠ gb181 := Nat.ne_of_lt (Nat.lt_of_lt_of_le (by have := World.block_lt_of_cell? _ _ hx182_0; first | rwa [add_block] at this | exact this) GW181.out); have hn182_1 : ad182.block ≠ gb181 := Nat.ne_of_lt (Nat.lt_of_lt_of_le (by have := World.block_lt_of_cell? _ _ hx182_0; first | rwa [add_block] at this | exact this) GW181.out); replace hx182_0 := (HB.out.cell (World.block_lt_of_cell? w _ hx182_0)).trans hx182_0; replace hx182_1 := (HB.out.cell (World.block_lt_of_cell? w _ hx182_1)).trans hx182_1; replace hx182_0 := (cell_far (p := ⟨gb181, 0, none⟩) (by first | (rw [add_block]; exact hn182_0) | (show (Addr.add _ _).block ≠ _; rw [add_block]; exact hn182_0) | exact hn182_0) (.int .i64 ((rd_T40 l0_2 x14_4).f0))).trans hx182_0; replace hx182_1 := (cell_far (p := ⟨gb181, 0, none⟩) (by first | (rw [add_block]; exact hn182_0) | (show (Addr.add _ _).block ≠ _; rw [add_block]; exact hn182_0) | exact hn182_0) (.int .i64 ((rd_T40 l0_2 x14_4).f0))).trans hx182_1; replace hx182_0 := (cell_far (p := ⟨gb181, 1, none⟩) (by first | (rw [add_block]; exact hn182_1) | (show (Addr.add _ _).block ≠ _; rw [add_block]; exact hn182_1) | exact hn182_1) (.string ((rd_T40 l0_2 x14_4).f1))).trans hx182_0; replace hx182_1 := (cell_far (p := ⟨gb181, 1, none⟩) (by first | (rw [add_block]; exact hn182_1) | (show (Addr.add _ _).block ≠ _; rw [add_block]; exact hn182_1) | exact hn182_1) (.string ((rd_T40 l0_2 x14_4).f1))).trans hx182_1; (try have hy182_0 := fun (n_ : Nat) => (show ((((w29.drewN n_).setCell ⟨gb181, 0, none⟩ (.int .i64 ((rd_T40 l0_2 x14_4).f0))).setCell ⟨gb181, 1, none⟩ (.string ((rd_T40 l0_2 x14_4).f1)))).cell? _ = some _ from hx182_0)); (try have hy182_1 := fun (n_ : Nat) => (show ((((w29.drewN n_).setCell ⟨gb181, 0, none⟩ (.int .i64 ((rd_T40 l0_2 x14_4).f0))).setCell ⟨gb181, 1, none⟩ (.string ((rd_T40 l0_2 x14_4).f1)))).cell? _ = some _ from hx182_1)); clear hn182_0; clear hn182_1; replace p182 := eq_true p182; replace q182 := eq_true q182) | (go_at_call 15; (with_reducible refine (cellarerref04_Of.calls k4 ((rd_T40 l0_2 x14_4).f1) t183 _ A24.out).mono ?_); rintro e w' ⟨rfl, ⟨nd, rfl⟩⟩; (try first | exact ⟨rfl, _, World.drewN_drewN _ _ _⟩ | exact ⟨rfl, _, Eq.trans (World.drewN_drewN _ _ _) (congrArg (World.drewN _) (Nat.add_assoc _ _ _))⟩); have p184 : 0 ≤ (x12_3 : Int) := of_decide_eq_true (by first | (with_reducible assumption) | assumption); have q184 : x12_3 < (l1.length : Int) := of_decide_eq_true (by first | (with_reducible assumption) | assumption); obtain ⟨ad184, e184, hx184_0, hx184_1⟩ := at_T48 HR1.out x12_3 p184 q184; obtain rfl : ad182 = ad184 := (by injection e184); have hn184_0 : ad182.block ≠ gb181 := Nat.ne_of_lt (Nat.lt_of_lt_of_le (by have := World.block_lt_of_cell? _ _ hx184_0; first | rwa [add_block] at this | exact this) GW181.out); have hn184_1 : ad182.block ≠ gb181 := Nat.ne_of_lt (Nat.lt_of_lt_of_le (by have := World.block_lt_of_cell? _ _ hx184_0; first | rwa [add_block] at this | exact this) GW181.out); replace hx184_0 := (HB.out.cell (World.block_lt_of_cell? w _ hx184_0)).trans hx184_0; replace hx184_1 := (HB.out.cell (World.block_lt_of_cell? w _ hx184_1)).trans hx184_1; replace hx184_0 := (cell_far (p := ⟨gb181, 0, none⟩) (by first | (rw [add_block]; exact hn184_0) | (show (Addr.add _ _).block ≠ _; rw [add_block]; exact hn184_0) | exact hn184_0) (.int .i64 ((rd_T40 l0_2 x14_4).f0))).trans hx184_0; replace hx184_1 := (cell_far (p := ⟨gb181, 0, none⟩) (by first | (rw [add_block]; exact hn184_0) | (show (Addr.add _ _).block ≠ _; rw [add_block]; exact hn184_0) | exact hn184_0) (.int .i64 ((rd_T40 l0_2 x14_4).f0))).trans hx184_1; replace hx184_0 := (cell_far (p := ⟨gb181, 1, none⟩) (by first | (rw [add_block]; exact hn184_1) | (show (Addr.add _ _).block ≠ _; rw [add_block]; exact hn184_1) | exact hn184_1) (.string ((rd_T40 l0_2 x14_4).f1))).trans hx184_0; replace hx184_1 := (cell_far (p := ⟨gb181, 1, none⟩) (by first | (rw [add_block]; exact hn184_1) | (show (Addr.add _ _).block ≠ _; rw [add_block]; exact hn184_1) | exact hn184_1) (.string ((rd_T40 l0_2 x14_4).f1))).trans hx184_1; (try have hy184_0 := fun (n_ : Nat) => (show ((((w29.drewN n_).setCell ⟨gb181, 0, none⟩ (.int .i64 ((rd_T40 l0_2 x14_4).f0))).setCell ⟨gb181, 1, none⟩ (.string ((rd_T40 l0_2 x14_4).f1)))).cell? _ = some _ from hx184_0)); (try have hy184_1 := fun (n_ : Nat) => (show ((((w29.drewN n_).setCell ⟨gb181, 0, none⟩ (.int .i64 ((rd_T40 l0_2 x14_4).f0))).setCell ⟨gb181, 1, none⟩ (.string ((rd_T40 l0_2 x14_4).f1)))).cell? _ = some _ from hx184_1)); clear hn184_0; clear hn184_1; replace p184 := eq_true p184; replace q184 := eq_true q184)); try go_wp2_with (first | ((with_reducible refine gate_dst (N := 15) rfl ?_); (try (refine gate_guard (by rfl) ?_; dsimp only)); refine box_event ?hg (N := 15) ?hd (cs := #[.int .i64 0, .string (⟨#[]⟩ : ByteArray)]) (t := 40) ?hr ?_; (case hd => rfl); (case hg => rfl); (case hr => first | (go_simp; done) | (go_simp; rfl)); intro gb181 hg w29 hbox hb; have n0_ := Aside0.mk (Kd.R_below (by (with_reducible repeat (first | apply Kd.R_alloc | apply Kd.R_drewN | apply Kd.R_drew)); exact HO_11.out) hb); have n1_ := Aside0.mk (blk_below (g := gb176) (o := .cells #[.int .u64 a0_0, .string a0_1, .slice (some ad180) l0_2.length c0_2] 25 (0, 0)) (by (with_reducible repeat (first | refine blk_drewN ?_ _ | refine blk_drew ?_ | refine blk_alloc ?_ _)); exact BK176.out) hb); have n2_ := Aside0.mk (below_step (by repeat (first | (with_reducible first | exact HB.out | apply below_alloc | apply pw_below_drewN | apply below_drew1 | refine below_set ?_ GE176.out) | exact HB.out)) hb); have n3_ := Aside0.mk (hbox); have n4_ := Aside0.mk ((by rw [hg]; exact (below_size (by repeat (first | (with_reducible first | exact HB.out | apply below_alloc | apply pw_below_drewN | apply below_drew1 | refine below_set ?_ GE176.out) | exact HB.out))) : w.heap.size ≤ gb181)); have n5_ := Aside0.mk ((by rw [hg]; exact (below_size (by repeat (first | (with_reducible first | exact HB.out | apply below_alloc | apply pw_below_drewN | apply below_drew1 | refine below_set ?_ GE176.out) | exact HB.out))) : w.heap.size ≤ gb181)); have n6_ := Aside0.mk ((by rw [hg]; exact Nat.ne_of_lt (blk_lt (g := gb176) (o := .cells #[.int .u64 a0_0, .string a0_1, .slice (some ad180) l0_2.length c0_2] 25 (0, 0)) (by (with_reducible repeat (first | refine blk_drewN ?_ _ | refine blk_drew ?_ | refine blk_alloc ?_ _)); exact BK176.out)) : gb176 ≠ gb181)); have n7_ := Aside0.mk ((by rw [hg]; exact Nat.ne_of_gt (blk_lt (g := gb176) (o := .cells #[.int .u64 a0_0, .string a0_1, .slice (some ad180) l0_2.length c0_2] 25 (0, 0)) (by (with_reducible repeat (first | refine blk_drewN ?_ _ | refine blk_drew ?_ | refine blk_alloc ?_ _)); exact BK176.out)) : gb181 ≠ gb176)); clear HO_11; clear BK176; clear HB; have HO_11 := n0_; have BK176 := n1_; have HB := n2_; have BK181 := n3_; have GW181 := n4_; have GE181 := n5_; have NB176_181 := n6_; have NB181_176 := n7_; clear n0_ n1_ n2_ n3_ n4_ n5_ n6_ n7_; clear hb hbox hg; have hnb30 := NB181_176.out; have hnc30 := NB176_181.out; have hcz31_0 : w29.cell? ⟨gb181, 0, none⟩ = some (.int .i64 0) := (blk_cell BK181.out 0).trans rfl; have hcz31_1 : w29.cell? ⟨gb181, 1, none⟩ = some (.string (⟨#[]⟩ : ByteArray)) := (blk_cell BK181.out 1).trans rfl; have hfz31_0 := blk_frozen BK181.out 0; have hfz31_1 := blk_frozen BK181.out 1; have p182 : 0 ≤ (x12_3 : Int) := of_decide_eq_true (by first | (with_reducible assumption) | assumption); have q182 : x12_3 < (l1.length : Int) := of_decide_eq_true (by first | (with_reducible assumption) | assumption); obtain ⟨ad182, e182, hx182_0, hx182_1⟩ := at_T48 HR1.out x12_3 p182 q182; cases e182; have hn182_0 : ad182.block ≠ gb181 := Nat.ne_of_lt (Nat.lt_of_lt_of_le (by have := World.block_lt_of_cell? _ _ hx182_0; first | rwa [add_block] at this | exact this) GW181.out); have hn182_1 : ad182.block ≠ gb181 := Nat.ne_of_lt (Nat.lt_of_lt_of_le (by have := World.block_lt_of_cell? _ _ hx182_0; first | rwa [add_block] at this | exact this) GW181.out); replace hx182_0 := (HB.out.cell (World.block_lt_of_cell? w _ hx182_0)).trans hx182_0; replace hx182_1 := (HB.out.cell (World.block_lt_of_cell? w _ hx182_1)).trans hx182_1; replace hx182_0 := (cell_far (p := ⟨gb181, 0, none⟩) (by first | (rw [add_block]; exact hn182_0) | (show (Addr.add _ _).block ≠ _; rw [add_block]; exact hn182_0) | exact hn182_0) (.int .i64 ((rd_T40 l0_2 x14_4).f0))).trans hx182_0; replace hx182_1 := (cell_far (p := ⟨gb181, 0, none⟩) (by first | (rw [add_block]; exact hn182_0) | (show (Addr.add _ _).block ≠ _; rw [add_block]; exact hn182_0) | exact hn182_0) (.int .i64 ((rd_T40 l0_2 x14_4).f0))).trans hx182_1; replace hx182_0 := (cell_far (p := ⟨gb181, 1, none⟩) (by first | (rw [add_block]; exact hn182_1) | (show (Addr.add _ _).block ≠ _; rw [add_block]; exact hn182_1) | exact hn182_1) (.string ((rd_T40 l0_2 x14_4).f1))).trans hx182_0; replace hx182_1 := (cell_far (p := ⟨gb181, 1, none⟩) (by first | (rw [add_block]; exact hn182_1) | (show (Addr.add _ _).block ≠ _; rw [add_block]; exact hn182_1) | exact hn182_1) (.string ((rd_T40 l0_2 x14_4).f1))).trans hx182_1; (try have hy182_0 := fun (n_ : Nat) => (show ((((w29.drewN n_).setCell ⟨gb181, 0, none⟩ (.int .i64 ((rd_T40 l0_2 x14_4).f0))).setCell ⟨gb181, 1, none⟩ (.string ((rd_T40 l0_2 x14_4).f1)))).cell? _ = some _ from hx182_0)); (try have hy182_1 := fun (n_ : Nat) => (show ((((w29.drewN n_).setCell ⟨gb181, 0, none⟩ (.int .i64 ((rd_T40 l0_2 x14_4).f0))).setCell ⟨gb181, 1, none⟩ (.string ((rd_T40 l0_2 x14_4).f1)))).cell? _ = some _ from hx182_1)); clear hn182_0; clear hn182_1; replace p182 := eq_true p182; replace q182 := eq_true q182) | (go_at_call 15; (with_reducible refine (cellarerref04_Of.calls k4 ((rd_T40 l0_2 x14_4).f1) t183 _ A24.out).mono ?_); rintro e w' ⟨rfl, ⟨nd, rfl⟩⟩; (try first | exact ⟨rfl, _, World.drewN_drewN _ _ _⟩ | exact ⟨rfl, _, Eq.trans (World.drewN_drewN _ _ _) (congrArg (World.drewN _) (Nat.add_assoc _ _ _))⟩); have p184 : 0 ≤ (x12_3 : Int) := of_decide_eq_true (by first | (with_reducible assumption) | assumption); have q184 : x12_3 < (l1.length : Int) := of_decide_eq_true (by first | (with_reducible assumption) | assumption); obtain ⟨ad184, e184, hx184_0, hx184_1⟩ := at_T48 HR1.out x12_3 p184 q184; obtain rfl : ad182 = ad184 := (by injection e184); have hn184_0 : ad182.block ≠ gb181 := Nat.ne_of_lt (Nat.lt_of_lt_of_le (by have := World.block_lt_of_cell? _ _ hx184_0; first | rwa [add_block] at this | exact this) GW181.out); have hn184_1 : ad182.block ≠ gb181 := Nat.ne_of_lt (Nat.lt_of_lt_of_le (by have := World.block_lt_of_cell? _ _ hx184_0; first | rwa [add_block] at this | exact this) GW181.out); replace hx184_0 := (HB.out.cell (World.block_lt_of_cell? w _ hx184_0)).trans hx184_0; replace hx184_1 := (HB.out.cell (World.block_lt_of_cell? w _ hx184_1)).trans hx184_1; replace hx184_0 := (cell_far (p := ⟨gb181, 0, none⟩) (by first | (rw [add_block]; exact hn184_0) | (show (Addr.add _ _).block ≠ _; rw [add_block]; exact hn184_0) | exact hn184_0) (.int .i64 ((rd_T40 l0_2 x14_4).f0))).trans hx184_0; replace hx184_1 := (cell_far (p := ⟨gb181, 0, none⟩) (by first | (rw [add_block]; exact hn184_0) | (show (Addr.add _ _).block ≠ _; rw [add_block]; exact hn184_0) | exact hn184_0) (.int .i64 ((rd_T40 l0_2 x14_4).f0))).trans hx184_1; replace hx184_0 := (cell_far (p := ⟨gb181, 1, none⟩) (by first | (rw [add_block]; exact hn184_1) | (show (Addr.add _ _).block ≠ _; rw [add_block]; exact hn184_1) | exact hn184_1) (.string ((rd_T40 l0_2 x14_4).f1))).trans hx184_0; replace hx184_1 := (cell_far (p := ⟨gb181, 1, none⟩) (by first | (rw [add_block]; exact hn184_1) | (show (Addr.add _ _).block ≠ _; rw [add_block]; exact hn184_1) | exact hn184_1) (.string ((rd_T40 l0_2 x14_4).f1))).trans hx184_1; (try have hy184_0 := fun (n_ : Nat) => (show ((((w29.drewN n_).setCell ⟨gb181, 0, none⟩ (.int .i64 ((rd_T40 l0_2 x14_4).f0))).setCell ⟨gb181, 1, none⟩ (.string ((rd_T40 l0_2 x14_4).f1)))).cell? _ = some _ from hx184_0)); (try have hy184_1 := fun (n_ : Nat) => (show ((((w29.drewN n_).setCell ⟨gb181, 0, none⟩ (.int .i64 ((rd_T40 l0_2 x14_4).f0))).setCell ⟨gb181, 1, none⟩ (.string ((rd_T40 l0_2 x14_4).f1)))).cell? _ = some _ from hx184_1)); clear hn184_0; clear hn184_1; replace p184 := eq_true p184; replace q184 := eq_true q184)))
                                        go_roundg k4
                                        case measure => have := HJ2.out; have := HK2.out; have := HK3.out; have := HK4.out; omega
                                        case rel => exact ⟨(x8_4 ++ ((rd_T40 l0_2 x14_4).f1)), (true), (true), (wrap64 (x14_4 + 1)), (by first | rfl | (simp; done) | (simp [*]; done)), (by first | rfl | (simp; done) | (simp [*]; done)), (by first | rfl | (simp; done) | (simp [*]; done)), (by first | rfl | (simp; done) | (simp [*]; done)), H', ⟨by have := HJ2.out; have := HK2.out; have := HK3.out; have := HK4.out; omega⟩, ⟨by (with_reducible repeat (first | apply Kd.R_alloc | apply Kd.R_drewN | apply Kd.R_drew)); exact Kd.R_mono (Kd.R_far (p := ⟨gb181, 1, none⟩) (Kd.R_far (p := ⟨gb181, 0, none⟩) (Kd.R_types HO_11.out BK181.out (by decide)) (fun _ hk => hk.2) (.int .i64 ((rd_T40 l0_2 x14_4).f0))) (fun _ hk => hk.2) (.string ((rd_T40 l0_2 x14_4).f1))) (fun _ hk => trivial)⟩, ⟨by (with_reducible repeat (first | refine blk_drewN ?_ _ | refine blk_drew ?_ | refine blk_alloc ?_ _)); refine blk_far ?_ NB176_181.out _; (with_reducible repeat (first | refine blk_drewN ?_ _ | refine blk_drew ?_ | refine blk_alloc ?_ _)); refine blk_far ?_ NB176_181.out _; (with_reducible repeat (first | refine blk_drewN ?_ _ | refine blk_drew ?_ | refine blk_alloc ?_ _)); exact BK176.out⟩, ⟨by repeat (first | (with_reducible first | exact HB.out | apply below_alloc | apply pw_below_drewN | apply below_drew1 | refine below_set ?_ GE176.out | refine below_set ?_ GE181.out) | exact HB.out)⟩⟩
                                      · replace c27 := Bool.eq_false_iff.mpr c27
                                        subst c27
                                        have H1 : (if x12_3 < (wrap64 ((l1.length : Int) - 1)) then (cellarerref08_Whole.l2 k4 l1 (x8_4 ++ ((rd_T40 l0_2 x14_4).f1)) (decide ((((rd_T40 l0_2 x14_4).f1).size : Int) < 5)) x10_3 x11_3 x12_3 true (wrap64 (x14_4 + 1)) a0_0 a0_1 l0_2) else (cellarerref08_Whole.l2 k4 l1 (x8_4 ++ ((rd_T40 l0_2 x14_4).f1)) false x10_3 x11_3 x12_3 true (wrap64 (x14_4 + 1)) a0_0 a0_1 l0_2)) = some (r1, r2, r3) := by rw [if_neg (show ¬ (false = true) by decide)] at H; exact H
                                        clear H
                                        have H := H1
                                        clear H1
                                        by_cases c32 : x12_3 < (wrap64 ((l1.length : Int) - 1))
                                        · rw [if_pos c32] at H
                                          have c32b0 : decide (x12_3 < (wrap64 ((l1.length : Int) - 1))) = true := decide_eq_true c32
                                          clear c32
                                          have H' := Aside0.mk H
                                          clear H
                                          have hcz33_0 : wr.cell? ⟨gb176, 0, none⟩ = some (.int .u64 a0_0) := (blk_cell BK176.out 0).trans rfl
                                          have hcz33_1 : wr.cell? ⟨gb176, 1, none⟩ = some (.string a0_1) := (blk_cell BK176.out 1).trans rfl
                                          have hcz33_2 : wr.cell? ⟨gb176, 2, none⟩ = some (.slice A0_2 l0_2.length c0_2) := (blk_cell BK176.out 2).trans rfl
                                          have hfz33_0 := blk_frozen BK176.out 0
                                          have hfz33_1 := blk_frozen BK176.out 1
                                          have hfz33_2 := blk_frozen BK176.out 2
                                          have p180 : 0 ≤ (x14_4 : Int) := of_decide_eq_true (by first | (with_reducible assumption) | assumption)
                                          have q180 : x14_4 < (l0_2.length : Int) := of_decide_eq_true (by first | (with_reducible assumption) | assumption)
                                          obtain ⟨ad180, e180, hx180_0, hx180_1⟩ := at_T40 HR0_2.out x14_4 p180 q180
                                          cases e180
                                          replace hx180_0 := (HB.out.cell (World.block_lt_of_cell? w _ hx180_0)).trans hx180_0
                                          replace hx180_1 := (HB.out.cell (World.block_lt_of_cell? w _ hx180_1)).trans hx180_1
                                          replace p180 := eq_true p180
                                          replace q180 := eq_true q180
                                          go_wp2_with (first | ((with_reducible refine gate_dst (N := 15) rfl ?_); (try (refine gate_guard (by rfl) ?_; dsimp only)); refine box_event ?hg (N := 15) ?hd (cs := #[.int .i64 0, .string (⟨#[]⟩ : ByteArray)]) (t := 40) ?hr ?_; (case hd => rfl); (case hg => rfl); (case hr => first | (go_simp; done) | (go_simp; rfl)); intro gb181 hg w34 hbox hb; have n0_ := Aside0.mk (Kd.R_below (by (with_reducible repeat (first | apply Kd.R_alloc | apply Kd.R_drewN | apply Kd.R_drew)); exact HO_11.out) hb); have n1_ := Aside0.mk (blk_below (g := gb176) (o := .cells #[.int .u64 a0_0, .string a0_1, .slice (some ad180) l0_2.length c0_2] 25 (0, 0)) (by (with_reducible repeat (first | refine blk_drewN ?_ _ | refine blk_drew ?_ | refine blk_alloc ?_ _)); exact BK176.out) hb); have n2_ := Aside0.mk (below_step (by repeat (first | (with_reducible first | exact HB.out | apply below_alloc | apply pw_below_drewN | apply below_drew1 | refine below_set ?_ GE176.out) | exact HB.out)) hb); have n3_ := Aside0.mk (hbox); have n4_ := Aside0.mk ((by rw [hg]; exact (below_size (by repeat (first | (with_reducible first | exact HB.out | apply below_alloc | apply pw_below_drewN | apply below_drew1 | refine below_set ?_ GE176.out) | exact HB.out))) : w.heap.size ≤ gb181)); have n5_ := Aside0.mk ((by rw [hg]; exact (below_size (by repeat (first | (with_reducible first | exact HB.out | apply below_alloc | apply pw_below_drewN | apply below_drew1 | refine below_set ?_ GE176.out) | exact HB.out))) : w.heap.size ≤ gb181)); have n6_ := Aside0.mk ((by rw [hg]; exact Nat.ne_of_lt (blk_lt (g := gb176) (o := .cells #[.int .u64 a0_0, .string a0_1, .slice (some ad180) l0_2.length c0_2] 25 (0, 0)) (by (with_reducible repeat (first | refine blk_drewN ?_ _ | refine blk_drew ?_ | refine blk_alloc ?_ _)); exact BK176.out)) : gb176 ≠ gb181)); have n7_ := Aside0.mk ((by rw [hg]; exact Nat.ne_of_gt (blk_lt (g := gb176) (o := .cells #[.int .u64 a0_0, .string a0_1, .slice (some ad180) l0_2.length c0_2] 25 (0, 0)) (by (with_reducible repeat (first | refine blk_drewN ?_ _ | refine blk_drew ?_ | refine blk_alloc ?_ _)); exact BK176.out)) : gb181 ≠ gb176)); clear HO_11; clear BK176; clear HB; have HO_11 := n0_; have BK176 := n1_; have HB := n2_; have BK181 := n3_; have GW181 := n4_; have GE181 := n5_; have NB176_181 := n6_; have NB181_176 := n7_; clear n0_ n1_ n2_ n3_ n4_ n5_ n6_ n7_; clear hb hbox hg; have hnb35 := NB181_176.out; have hnc35 := NB176_181.out; have hcz36_0 : w34.cell? ⟨gb181, 0, none⟩ = some (.int .i64 0) := (blk_cell BK181.out 0).trans rfl; have hcz36_1 : w34.cell? ⟨gb181, 1, none⟩ = some (.string (⟨#[]⟩ : ByteArray)) := (blk_cell BK181.out 1).trans rfl; have hfz36_0 := blk_frozen BK181.out 0; have hfz36_1 := blk_frozen BK181.out 1; have p182 : 0 ≤ (x12_3 : Int) := of_decide_eq_true (by first | (with_reducible assumption) | assumption); have q182 : x12_3 < (l1.length : Int) := of_decide_eq_true (by first | (with_reducible assumption) | assumption); obtain ⟨ad182, e182, hx182_0, hx182_1⟩ := at_T48 HR1.out x12_3 p182 q182; cases e182; have hn182_0 : ad182.block ≠ gb181 := Nat.ne_of_lt (Nat.lt_of_lt_of_le (by have := World.block_lt_of_cell? _ _ hx182_0; first | rwa [add_block] at this | exact this) GW181.out); have hn182_1 : ad182.block ≠ gb181 := Nat.ne_of_lt (Nat.lt_of_lt_of_le (by have := World.block_lt_of_cell? _ _ hx182_0; first | rwa [add_block] at this | exact this) GW181.out); replace hx182_0 := (HB.out.cell (World.block_lt_of_cell? w _ hx182_0)).trans hx182_0; replace hx182_1 := (HB.out.cell (World.block_lt_of_cell? w _ hx182_1)).trans hx182_1; replace hx182_0 := (cell_far (p := ⟨gb181, 0, none⟩) (by first | (rw [add_block]; exact hn182_0) | (show (Addr.add _ _).block ≠ _; rw [add_block]; exact hn182_0) | exact hn182_0) (.int .i64 ((rd_T40 l0_2 x14_4).f0))).trans hx182_0; replace hx182_1 := (cell_far (p := ⟨gb181, 0, none⟩) (by first | (rw [add_block]; exact hn182_0) | (show (Addr.add _ _).block ≠ _; rw [add_block]; exact hn182_0) | exact hn182_0) (.int .i64 ((rd_T40 l0_2 x14_4).f0))).trans hx182_1; replace hx182_0 := (cell_far (p := ⟨gb181, 1, none⟩) (by first | (rw [add_block]; exact hn182_1) | (show (Addr.add _ _).block ≠ _; rw [add_block]; exact hn182_1) | exact hn182_1) (.string ((rd_T40 l0_2 x14_4).f1))).trans hx182_0; replace hx182_1 := (cell_far (p := ⟨gb181, 1, none⟩) (by first | (rw [add_block]; exact hn182_1) | (show (Addr.add _ _).block ≠ _; rw [add_block]; exact hn182_1) | exact hn182_1) (.string ((rd_T40 l0_2 x14_4).f1))).trans hx182_1; (try have hy182_0 := fun (n_ : Nat) => (show ((((w34.drewN n_).setCell ⟨gb181, 0, none⟩ (.int .i64 ((rd_T40 l0_2 x14_4).f0))).setCell ⟨gb181, 1, none⟩ (.string ((rd_T40 l0_2 x14_4).f1)))).cell? _ = some _ from hx182_0)); (try have hy182_1 := fun (n_ : Nat) => (show ((((w34.drewN n_).setCell ⟨gb181, 0, none⟩ (.int .i64 ((rd_T40 l0_2 x14_4).f0))).setCell ⟨gb181, 1, none⟩ (.string ((rd_T40 l0_2 x14_4).f1)))).cell? _ = some _ from hx182_1)); clear hn182_0; clear hn182_1; replace p182 := eq_true p182; replace q182 := eq_true q182) | (go_at_call 15; (with_reducible refine (cellarerref04_Of.calls k4 ((rd_T40 l0_2 x14_4).f1) t183 _ A24.out).mono ?_); rintro e w' ⟨rfl, ⟨nd, rfl⟩⟩; (try first | exact ⟨rfl, _, World.drewN_drewN _ _ _⟩ | exact ⟨rfl, _, Eq.trans (World.drewN_drewN _ _ _) (congrArg (World.drewN _) (Nat.add_assoc _ _ _))⟩); have p184 : 0 ≤ (x12_3 : Int) := of_decide_eq_true (by first | (with_reducible assumption) | assumption); have q184 : x12_3 < (l1.length : Int) := of_decide_eq_true (by first | (with_reducible assumption) | assumption); obtain ⟨ad184, e184, hx184_0, hx184_1⟩ := at_T48 HR1.out x12_3 p184 q184; obtain rfl : ad182 = ad184 := (by injection e184); have hn184_0 : ad182.block ≠ gb181 := Nat.ne_of_lt (Nat.lt_of_lt_of_le (by have := World.block_lt_of_cell? _ _ hx184_0; first | rwa [add_block] at this | exact this) GW181.out); have hn184_1 : ad182.block ≠ gb181 := Nat.ne_of_lt (Nat.lt_of_lt_of_le (by have := World.block_lt_of_cell? _ _ hx184_0; first | rwa [add_block] at this | exact this) GW181.out); replace hx184_0 := (HB.out.cell (World.block_lt_of_cell? w _ hx184_0)).trans hx184_0; replace hx184_1 := (HB.out.cell (World.block_lt_of_cell? w _ hx184_1)).trans hx184_1; replace hx184_0 := (cell_far (p := ⟨gb181, 0, none⟩) (by first | (rw [add_block]; exact hn184_0) | (show (Addr.add _ _).block ≠ _; rw [add_block]; exact hn184_0) | exact hn184_0) (.int .i64 ((rd_T40 l0_2 x14_4).f0))).trans hx184_0; replace hx184_1 := (cell_far (p := ⟨gb181, 0, none⟩) (by first | (rw [add_block]; exact hn184_0) | (show (Addr.add _ _).block ≠ _; rw [add_block]; exact hn184_0) | exact hn184_0) (.int .i64 ((rd_T40 l0_2 x14_4).f0))).trans hx184_1; replace hx184_0 := (cell_far (p := ⟨gb181, 1, none⟩) (by first | (rw [add_block]; exact hn184_1) | (show (Addr.add _ _).block ≠ _; rw [add_block]; exact hn184_1) | exact hn184_1) (.string ((rd_T40 l0_2 x14_4).f1))).trans hx184_0; replace hx184_1 := (cell_far (p := ⟨gb181, 1, none⟩) (by first | (rw [add_block]; exact hn184_1) | (show (Addr.add _ _).block ≠ _; rw [add_block]; exact hn184_1) | exact hn184_1) (.string ((rd_T40 l0_2 x14_4).f1))).trans hx184_1; (try have hy184_0 := fun (n_ : Nat) => (show ((((w34.drewN n_).setCell ⟨gb181, 0, none⟩ (.int .i64 ((rd_T40 l0_2 x14_4).f0))).setCell ⟨gb181, 1, none⟩ (.string ((rd_T40 l0_2 x14_4).f1)))).cell? _ = some _ from hx184_0)); (try have hy184_1 := fun (n_ : Nat) => (show ((((w34.drewN n_).setCell ⟨gb181, 0, none⟩ (.int .i64 ((rd_T40 l0_2 x14_4).f0))).setCell ⟨gb181, 1, none⟩ (.string ((rd_T40 l0_2 x14_4).f1)))).cell? _ = some _ from hx184_1)); clear hn184_0; clear hn184_1; replace p184 := eq_true p184; replace q184 := eq_true q184))
                                          repeat (go_quiet (first | ((with_reducible refine gate_dst (N := 15) rfl ?_); (try (refine gate_guard (by rfl) ?_; dsimp only)); refine box_event ?hg (N := 15) ?hd (cs := #[.int .i64 0, .string (⟨#[]⟩ : ByteArray)]) (t := 40) ?hr ?_; (case hd => rfl); (case hg => rfl); (case hr => first | (go_simp; done) | (go_simp; rfl)); intro gb181 hg w34 hbox hb; have n0_ := Aside0.mk (Kd.R_below (by (with_reducible repeat (first | apply Kd.R_alloc | apply Kd.R_drewN | apply Kd.R_drew)); exact HO_11.out) hb); have n1_ := Aside0.mk (blk_below (g := gb176) (o := .cells #[.int .u64 a0_0, .string a0_1, .slice (some ad180) l0_2.length c0_2] 25 (0, 0)) (by (with_reducible repeat (first | refine blk_drewN ?_ _ | refine blk_drew ?_ | refine blk_alloc ?_ _)); exact BK176.out) hb); have n2_ := Aside0.mk (below_step (by repeat (first | (with_reducible first | exact HB.out | apply below_alloc | apply pw_below_drewN | apply below_drew1 | refine below_set ?_ GE176.out) | exact HB.out)) hb); have n3_ := Aside0.mk (hbox); have n4_ := Aside0.mk ((by rw [hg]; exact (below_size (by repeat (first | (with_reducible first | exact HB.out | apply below_alloc | apply pw_below_drewN | apply below_drew1 | refine below_set ?_ GE176.out) | exact HB.out))) : w.heap.size ≤ gb181)); have n5_ := Aside0.mk ((by rw [hg]; exact (below_size (by repeat (first | (with_reducible first | exact HB.out | apply below_alloc | apply pw_below_drewN | apply below_drew1 | refine below_set ?_ GE176.out) | exact HB.out))) : w.heap.size ≤ gb181)); have n6_ := Aside0.mk ((by rw [hg]; exact Nat.ne_of_lt (blk_lt (g := gb176) (o := .cells #[.int .u64 a0_0, .string a0_1, .slice (some ad180) l0_2.length c0_2] 25 (0, 0)) (by (with_reducible repeat (first | refine blk_drewN ?_ _ | refine blk_drew ?_ | refine blk_alloc ?_ _)); exact BK176.out)) : gb176 ≠ gb181)); have n7_ := Aside0.mk ((by rw [hg]; exact Nat.ne_of_gt (blk_lt (g := gb176) (o := .cells #[.int .u64 a0_0, .string a0_1, .slice (some ad180) l0_2.length c0_2] 25 (0, 0)) (by (with_reducible repeat (first | refine blk_drewN ?_ _ | refine blk_drew ?_ | refine blk_alloc ?_ _)); exact BK176.out)) : gb181 ≠ gb176)); clear HO_11; clear BK176; clear HB; have HO_11 := n0_; have BK176 := n1_; have HB := n2_; have BK181 := n3_; have GW181 := n4_; have GE181 := n5_; have NB176_181 := n6_; have NB181_176 := n7_; clear n0_ n1_ n2_ n3_ n4_ n5_ n6_ n7_; clear hb hbox hg; have hnb35 := NB181_176.out; have hnc35 := NB176_181.out; have hcz36_0 : w34.cell? ⟨gb181, 0, none⟩ = some (.int .i64 0) := (blk_cell BK181.out 0).trans rfl; have hcz36_1 : w34.cell? ⟨gb181, 1, none⟩ = some (.string (⟨#[]⟩ : ByteArray)) := (blk_cell BK181.out 1).trans rfl; have hfz36_0 := blk_frozen BK181.out 0; have hfz36_1 := blk_frozen BK181.out 1; have p182 : 0 ≤ (x12_3 : Int) := of_decide_eq_true (by first | (with_reducible assumption) | assumption); have q182 : x12_3 < (l1.length : Int) := of_decide_eq_true (by first | (with_reducible assumption) | assumption); obtain ⟨ad182, e182, hx182_0, hx182_1⟩ := at_T48 HR1.out x12_3 p182 q182; cases e182; have hn182_0 : ad182.block ≠ gb181 := Nat.ne_of_lt (Nat.lt_of_lt_of_le (by have := World.block_lt_of_cell? _ _ hx182_0; first | rwa [add_block] at this | exact this) GW181.out); have hn182_1 : ad182.block ≠ gb181 := Nat.ne_of_lt (Nat.lt_of_lt_of_le (by have := World.block_lt_of_cell? _ _ hx182_0; first | rwa [add_block] at this | exact this) GW181.out); replace hx182_0 := (HB.out.cell (World.block_lt_of_cell? w _ hx182_0)).trans hx182_0; replace hx182_1 := (HB.out.cell (World.block_lt_of_cell? w _ hx182_1)).trans hx182_1; replace hx182_0 := (cell_far (p := ⟨gb181, 0, none⟩) (by first | (rw [add_block]; exact hn182_0) | (show (Addr.add _ _).block ≠ _; rw [add_block]; exact hn182_0) | exact hn182_0) (.int .i64 ((rd_T40 l0_2 x14_4).f0))).trans hx182_0; replace hx182_1 := (cell_far (p := ⟨gb181, 0, none⟩) (by first | (rw [add_block]; exact hn182_0) | (show (Addr.add _ _).block ≠ _; rw [add_block]; exact hn182_0) | exact hn182_0) (.int .i64 ((rd_T40 l0_2 x14_4).f0))).trans hx182_1; replace hx182_0 := (cell_far (p := ⟨gb181, 1, none⟩) (by first | (rw [add_block]; exact hn182_1) | (show (Addr.add _ _).block ≠ _; rw [add_block]; exact hn182_1) | exact hn182_1) (.string ((rd_T40 l0_2 x14_4).f1))).trans hx182_0; replace hx182_1 := (cell_far (p := ⟨gb181, 1, none⟩) (by first | (rw [add_block]; exact hn182_1) | (show (Addr.add _ _).block ≠ _; rw [add_block]; exact hn182_1) | exact hn182_1) (.string ((rd_T40 l0_2 x14_4).f1))).trans hx182_1; (try have hy182_0 := fun (n_ : Nat) => (show ((((w34.drewN n_).setCell ⟨gb181, 0, none⟩ (.int .i64 ((rd_T40 l0_2 x14_4).f0))).setCell ⟨gb181, 1, none⟩ (.string ((rd_T40 l0_2 x14_4).f1)))).cell? _ = some _ from hx182_0)); (try have hy182_1 := fun (n_ : Nat) => (show ((((w34.drewN n_).setCell ⟨gb181, 0, none⟩ (.int .i64 ((rd_T40 l0_2 x14_4).f0))).setCell ⟨gb181, 1, none⟩ (.string ((rd_T40 l0_2 x14_4).f1)))).cell? _ = some _ from hx182_1)); clear hn182_0; clear hn182_1; replace p182 := eq_true p182; replace q182 := eq_true q182) | (go_at_call 15; (with_reducible refine (cellarerref04_Of.calls k4 ((rd_T40 l0_2 x14_4).f1) t183 _ A24.out).mono ?_); rintro e w' ⟨rfl, ⟨nd, rfl⟩⟩; (try first | exact ⟨rfl, _, World.drewN_drewN _ _ _⟩ | exact ⟨rfl, _, Eq.trans (World.drewN_drewN _ _ _) (congrArg (World.drewN _) (Nat.add_assoc _ _ _))⟩); have p184 : 0 ≤ (x12_3 : Int) := of_decide_eq_true (by first | (with_reducible assumption) | assumption); have q184 : x12_3 < (l1.length : Int) := of_decide_eq_true (by first | (with_reducible assumption) | assumption); obtain ⟨ad184, e184, hx184_0, hx184_1⟩ := at_T48 HR1.out x12_3 p184 q184; obtain rfl : ad182 = ad184 := (by injection e184); have hn184_0 : ad182.block ≠ gb181 := Nat.ne_of_lt (Nat.lt_of_lt_of_le (by have := World.block_lt_of_cell? _ _ hx184_0; first | rwa [add_block] at this | exact this) GW181.out); have hn184_1 : ad182.block ≠ gb181 := Nat.ne_of_lt (Nat.lt_of_lt_of_le (by have := World.block_lt_of_cell? _ _ hx184_0; first | rwa [add_block] at this | exact this) GW181.out); replace hx184_0 := (HB.out.cell (World.block_lt_of_cell? w _ hx184_0)).trans hx184_0; replace hx184_1 := (HB.out.cell (World.block_lt_of_cell? w _ hx184_1)).trans hx184_1; replace hx184_0 := (cell_far (p := ⟨gb181, 0, none⟩) (by first | (rw [add_block]; exact hn184_0) | (show (Addr.add _ _).block ≠ _; rw [add_block]; exact hn184_0) | exact hn184_0) (.int .i64 ((rd_T40 l0_2 x14_4).f0))).trans hx184_0; replace hx184_1 := (cell_far (p := ⟨gb181, 0, none⟩) (by first | (rw [add_block]; exact hn184_0) | (show (Addr.add _ _).block ≠ _; rw [add_block]; exact hn184_0) | exact hn184_0) (.int .i64 ((rd_T40 l0_2 x14_4).f0))).trans hx184_1; replace hx184_0 := (cell_far (p := ⟨gb181, 1, none⟩) (by first | (rw [add_block]; exact hn184_1) | (show (Addr.add _ _).block ≠ _; rw [add_block]; exact hn184_1) | exact hn184_1) (.string ((rd_T40 l0_2 x14_4).f1))).trans hx184_0; replace hx184_1 := (cell_far (p := ⟨gb181, 1, none⟩) (by first | (rw [add_block]; exact hn184_1) | (show (Addr.add _ _).block ≠ _; rw [add_block]; exact hn184_1) | exact hn184_1) (.string ((rd_T40 l0_2 x14_4).f1))).trans hx184_1; (try have hy184_0 := fun (n_ : Nat) => (show ((((w34.drewN n_).setCell ⟨gb181, 0, none⟩ (.int .i64 ((rd_T40 l0_2 x14_4).f0))).setCell ⟨gb181, 1, none⟩ (.string ((rd_T40 l0_2 x14_4).f1)))).cell? _ = some _ from hx184_0)); (try have hy184_1 := fun (n_ : Nat) => (show ((((w34.drewN n_).setCell ⟨gb181, 0, none⟩ (.int .i64 ((rd_T40 l0_2 x14_4).f0))).setCell ⟨gb181, 1, none⟩ (.string ((rd_T40 l0_2 x14_4).f1)))).cell? _ = some _ from hx184_1)); clear hn184_0; clear hn184_1; replace p184 := eq_true p184; replace q184 := eq_true q184)); try go_wp2_with (first | ((with_reducible refine gate_dst (N := 15) rfl ?_); (try (refine gate_guard (by rfl) ?_; dsimp only)); refine box_event ?hg (N := 15) ?hd (cs := #[.int .i64 0, .string (⟨#[]⟩ : ByteArray)]) (t := 40) ?hr ?_; (case hd => rfl); (case hg => rfl); (case hr => first | (go_simp; done) | (go_simp; rfl)); intro gb181 hg w34 hbox hb; have n0_ := Aside0.mk (Kd.R_below (by (with_reducible repeat (first | apply Kd.R_alloc | apply Kd.R_drewN | apply Kd.R_drew)); exact HO_11.out) hb); have n1_ := Aside0.mk (blk_below (g := gb176) (o := .cells #[.int .u64 a0_0, .string a0_1, .slice (some ad180) l0_2.length c0_2] 25 (0, 0)) (by (with_reducible repeat (first | refine blk_drewN ?_ _ | refine blk_drew ?_ | refine blk_alloc ?_ _)); exact BK176.out) hb); have n2_ := Aside0.mk (below_step (by repeat (first | (with_reducible first | exact HB.out | apply below_alloc | apply pw_below_drewN | apply below_drew1 | refine below_set ?_ GE176.out) | exact HB.out)) hb); have n3_ := Aside0.mk (hbox); have n4_ := Aside0.mk ((by rw [hg]; exact (below_size (by repeat (first | (with_reducible first | exact HB.out | apply below_alloc | apply pw_below_drewN | apply below_drew1 | refine below_set ?_ GE176.out) | exact HB.out))) : w.heap.size ≤ gb181)); have n5_ := Aside0.mk ((by rw [hg]; exact (below_size (by repeat (first | (with_reducible first | exact HB.out | apply below_alloc | apply pw_below_drewN | apply below_drew1 | refine below_set ?_ GE176.out) | exact HB.out))) : w.heap.size ≤ gb181)); have n6_ := Aside0.mk ((by rw [hg]; exact Nat.ne_of_lt (blk_lt (g := gb176) (o := .cells #[.int .u64 a0_0, .string a0_1, .slice (some ad180) l0_2.length c0_2] 25 (0, 0)) (by (with_reducible repeat (first | refine blk_drewN ?_ _ | refine blk_drew ?_ | refine blk_alloc ?_ _)); exact BK176.out)) : gb176 ≠ gb181)); have n7_ := Aside0.mk ((by rw [hg]; exact Nat.ne_of_gt (blk_lt (g := gb176) (o := .cells #[.int .u64 a0_0, .string a0_1, .slice (some ad180) l0_2.length c0_2] 25 (0, 0)) (by (with_reducible repeat (first | refine blk_drewN ?_ _ | refine blk_drew ?_ | refine blk_alloc ?_ _)); exact BK176.out)) : gb181 ≠ gb176)); clear HO_11; clear BK176; clear HB; have HO_11 := n0_; have BK176 := n1_; have HB := n2_; have BK181 := n3_; have GW181 := n4_; have GE181 := n5_; have NB176_181 := n6_; have NB181_176 := n7_; clear n0_ n1_ n2_ n3_ n4_ n5_ n6_ n7_; clear hb hbox hg; have hnb35 := NB181_176.out; have hnc35 := NB176_181.out; have hcz36_0 : w34.cell? ⟨gb181, 0, none⟩ = some (.int .i64 0) := (blk_cell BK181.out 0).trans rfl; have hcz36_1 : w34.cell? ⟨gb181, 1, none⟩ = some (.string (⟨#[]⟩ : ByteArray)) := (blk_cell BK181.out 1).trans rfl; have hfz36_0 := blk_frozen BK181.out 0; have hfz36_1 := blk_frozen BK181.out 1; have p182 : 0 ≤ (x12_3 : Int) := of_decide_eq_true (by first | (with_reducible assumption) | assumption); have q182 : x12_3 < (l1.length : Int) := of_decide_eq_true (by first | (with_reducible assumption) | assumption); obtain ⟨ad182, e182, hx182_0, hx182_1⟩ := at_T48 HR1.out x12_3 p182 q182; cases e182; have hn182_0 : ad182.block ≠ gb181 := Nat.ne_of_lt (Nat.lt_of_lt_of_le (by have := World.block_lt_of_cell? _ _ hx182_0; first | rwa [add_block] at this | exact this) GW181.out); have hn182_1 : ad182.block ≠ gb181 := Nat.ne_of_lt (Nat.lt_of_lt_of_le (by have := World.block_lt_of_cell? _ _ hx182_0; first | rwa [add_block] at this | exact this) GW181.out); replace hx182_0 := (HB.out.cell (World.block_lt_of_cell? w _ hx182_0)).trans hx182_0; replace hx182_1 := (HB.out.cell (World.block_lt_of_cell? w _ hx182_1)).trans hx182_1; replace hx182_0 := (cell_far (p := ⟨gb181, 0, none⟩) (by first | (rw [add_block]; exact hn182_0) | (show (Addr.add _ _).block ≠ _; rw [add_block]; exact hn182_0) | exact hn182_0) (.int .i64 ((rd_T40 l0_2 x14_4).f0))).trans hx182_0; replace hx182_1 := (cell_far (p := ⟨gb181, 0, none⟩) (by first | (rw [add_block]; exact hn182_0) | (show (Addr.add _ _).block ≠ _; rw [add_block]; exact hn182_0) | exact hn182_0) (.int .i64 ((rd_T40 l0_2 x14_4).f0))).trans hx182_1; replace hx182_0 := (cell_far (p := ⟨gb181, 1, none⟩) (by first | (rw [add_block]; exact hn182_1) | (show (Addr.add _ _).block ≠ _; rw [add_block]; exact hn182_1) | exact hn182_1) (.string ((rd_T40 l0_2 x14_4).f1))).trans hx182_0; replace hx182_1 := (cell_far (p := ⟨gb181, 1, none⟩) (by first | (rw [add_block]; exact hn182_1) | (show (Addr.add _ _).block ≠ _; rw [add_block]; exact hn182_1) | exact hn182_1) (.string ((rd_T40 l0_2 x14_4).f1))).trans hx182_1; (try have hy182_0 := fun (n_ : Nat) => (show ((((w34.drewN n_).setCell ⟨gb181, 0, none⟩ (.int .i64 ((rd_T40 l0_2 x14_4).f0))).setCell ⟨gb181, 1, none⟩ (.string ((rd_T40 l0_2 x14_4).f1)))).cell? _ = some _ from hx182_0)); (try have hy182_1 := fun (n_ : Nat) => (show ((((w34.drewN n_).setCell ⟨gb181, 0, none⟩ (.int .i64 ((rd_T40 l0_2 x14_4).f0))).setCell ⟨gb181, 1, none⟩ (.string ((rd_T40 l0_2 x14_4).f1)))).cell? _ = some _ from hx182_1)); clear hn182_0; clear hn182_1; replace p182 := eq_true p182; replace q182 := eq_true q182) | (go_at_call 15; (with_reducible refine (cellarerref04_Of.calls k4 ((rd_T40 l0_2 x14_4).f1) t183 _ A24.out).mono ?_); rintro e w' ⟨rfl, ⟨nd, rfl⟩⟩; (try first | exact ⟨rfl, _, World.drewN_drewN _ _ _⟩ | exact ⟨rfl, _, Eq.trans (World.drewN_drewN _ _ _) (congrArg (World.drewN _) (Nat.add_assoc _ _ _))⟩); have p184 : 0 ≤ (x12_3 : Int) := of_decide_eq_true (by first | (with_reducible assumption) | assumption); have q184 : x12_3 < (l1.length : Int) := of_decide_eq_true (by first | (with_reducible assumption) | assumption); obtain ⟨ad184, e184, hx184_0, hx184_1⟩ := at_T48 HR1.out x12_3 p184 q184; obtain rfl : ad182 = ad184 := (by injection e184); have hn184_0 : ad182.block ≠ gb181 := Nat.ne_of_lt (Nat.lt_of_lt_of_le (by have := World.block_lt_of_cell? _ _ hx184_0; first | rwa [add_block] at this | exact this) GW181.out); have hn184_1 : ad182.block ≠ gb181 := Nat.ne_of_lt (Nat.lt_of_lt_of_le (by have := World.block_lt_of_cell? _ _ hx184_0; first | rwa [add_block] at this | exact this) GW181.out); replace hx184_0 := (HB.out.cell (World.block_lt_of_cell? w _ hx184_0)).trans hx184_0; replace hx184_1 := (HB.out.cell (World.block_lt_of_cell? w _ hx184_1)).trans hx184_1; replace hx184_0 := (cell_far (p := ⟨gb181, 0, none⟩) (by first | (rw [add_block]; exact hn184_0) | (show (Addr.add _ _).block ≠ _; rw [add_block]; exact hn184_0) | exact hn184_0) (.int .i64 ((rd_T40 l0_2 x14_4).f0))).trans hx184_0; replace hx184_1 := (cell_far (p := ⟨gb181, 0, none⟩) (by first | (rw [add_block]; exact hn184_0) | (show (Addr.add _ _).block ≠ _; rw [add_block]; exact hn184_0) | exact hn184_0) (.int .i64 ((rd_T40 l0_2 x14_4).f0))).trans hx184_1; replace hx184_0 := (cell_far (p := ⟨gb181, 1, none⟩) (by first | (rw [add_block]; exact hn184_1) | (show (Addr.add _ _).block ≠ _; rw [add_block]; exact hn184_1) | exact hn184_1) (.string ((rd_T40 l0_2 x14_4).f1))).trans hx184_0; replace hx184_1 := (cell_far (p := ⟨gb181, 1, none⟩) (by first | (rw [add_block]; exact hn184_1) | (show (Addr.add _ _).block ≠ _; rw [add_block]; exact hn184_1) | exact hn184_1) (.string ((rd_T40 l0_2 x14_4).f1))).trans hx184_1; (try have hy184_0 := fun (n_ : Nat) => (show ((((w34.drewN n_).setCell ⟨gb181, 0, none⟩ (.int .i64 ((rd_T40 l0_2 x14_4).f0))).setCell ⟨gb181, 1, none⟩ (.string ((rd_T40 l0_2 x14_4).f1)))).cell? _ = some _ from hx184_0)); (try have hy184_1 := fun (n_ : Nat) => (show ((((w34.drewN n_).setCell ⟨gb181, 0, none⟩ (.int .i64 ((rd_T40 l0_2 x14_4).f0))).setCell ⟨gb181, 1, none⟩ (.string ((rd_T40 l0_2 x14_4).f1)))).cell? _ = some _ from hx184_1)); clear hn184_0; clear hn184_1; replace p184 := eq_true p184; replace q184 := eq_true q184)))
                                          go_roundg k4
                                          case measure => have := HJ2.out; have := HK2.out; have := HK3.out; have := HK4.out; omega
                                          case rel => exact ⟨(x8_4 ++ ((rd_T40 l0_2 x14_4).f1)), (decide ((((rd_T40 l0_2 x14_4).f1).size : Int) < 5)), (true), (wrap64 (x14_4 + 1)), (by first | rfl | (simp; done) | (simp [*]; done)), (by first | rfl | (simp; done) | (simp [*]; done)), (by first | rfl | (simp; done) | (simp [*]; done)), (by first | rfl | (simp; done) | (simp [*]; done)), H', ⟨by have := HJ2.out; have := HK2.out; have := HK3.out; have := HK4.out; omega⟩, ⟨by (with_reducible repeat (first | apply Kd.R_alloc | apply Kd.R_drewN | apply Kd.R_drew)); exact Kd.R_mono (Kd.R_far (p := ⟨gb181, 1, none⟩) (Kd.R_far (p := ⟨gb181, 0, none⟩) (Kd.R_types HO_11.out BK181.out (by decide)) (fun _ hk => hk.2) (.int .i64 ((rd_T40 l0_2 x14_4).f0))) (fun _ hk => hk.2) (.string ((rd_T40 l0_2 x14_4).f1))) (fun _ hk => trivial)⟩, ⟨by (with_reducible repeat (first | refine blk_drewN ?_ _ | refine blk_drew ?_ | refine blk_alloc ?_ _)); refine blk_far ?_ NB176_181.out _; (with_reducible repeat (first | refine blk_drewN ?_ _ | refine blk_drew ?_ | refine blk_alloc ?_ _)); refine blk_far ?_ NB176_181.out _; (with_reducible repeat (first | refine blk_drewN ?_ _ | refine blk_drew ?_ | refine blk_alloc ?_ _)); exact BK176.out⟩, ⟨by repeat (first | (with_reducible first | exact HB.out | apply below_alloc | apply pw_below_drewN | apply below_drew1 | refine below_set ?_ GE176.out | refine below_set ?_ GE181.out) | exact HB.out)⟩⟩
                                        · rw [if_neg c32] at H
                                          have c32b0 : decide (x12_3 < (wrap64 ((l1.length : Int) - 1))) = false := decide_eq_false c32
                                          clear c32
                                          have H' := Aside0.mk H
                                          clear H
                                          have hcz37_0 : wr.cell? ⟨gb176, 0, none⟩ = some (.int .u64 a0_0) := (blk_cell BK176.out 0).trans rfl
                                          have hcz37_1 : wr.cell? ⟨gb176, 1, none⟩ = some (.string a0_1) := (blk_cell BK176.out 1).trans rfl
                                          have hcz37_2 : wr.cell? ⟨gb176, 2, none⟩ = some (.slice A0_2 l0_2.length c0_2) := (blk_cell BK176.out 2).trans rfl
                                          have hfz37_0 := blk_frozen BK176.out 0
                                          have hfz37_1 := blk_frozen BK176.out 1
                                          have hfz37_2 := blk_frozen BK176.out 2
                                          have p180 : 0 ≤ (x14_4 : Int) := of_decide_eq_true (by first | (with_reducible assumption) | assumption)
                                          have q180 : x14_4 < (l0_2.length : Int) := of_decide_eq_true (by first | (with_reducible assumption) | assumption)
                                          obtain ⟨ad180, e180, hx180_0, hx180_1⟩ := at_T40 HR0_2.out x14_4 p180 q180
                                          cases e180
                                          replace hx180_0 := (HB.out.cell (World.block_lt_of_cell? w _ hx180_0)).trans hx180_0
                                          replace hx180_1 := (HB.out.cell (World.block_lt_of_cell? w _ hx180_1)).trans hx180_1
                                          replace p180 := eq_true p180
                                          replace q180 := eq_true q180
                                          go_wp2_with (first | ((with_reducible refine gate_dst (N := 15) rfl ?_); (try (refine gate_guard (by rfl) ?_; dsimp only)); refine box_event ?hg (N := 15) ?hd (cs := #[.int .i64 0, .string (⟨#[]⟩ : ByteArray)]) (t := 40) ?hr ?_; (case hd => rfl); (case hg => rfl); (case hr => first | (go_simp; done) | (go_simp; rfl)); intro gb181 hg w38 hbox hb; have n0_ := Aside0.mk (Kd.R_below (by (with_reducible repeat (first | apply Kd.R_alloc | apply Kd.R_drewN | apply Kd.R_drew)); exact HO_11.out) hb); have n1_ := Aside0.mk (blk_below (g := gb176) (o := .cells #[.int .u64 a0_0, .string a0_1, .slice (some ad180) l0_2.length c0_2] 25 (0, 0)) (by (with_reducible repeat (first | refine blk_drewN ?_ _ | refine blk_drew ?_ | refine blk_alloc ?_ _)); exact BK176.out) hb); have n2_ := Aside0.mk (below_step (by repeat (first | (with_reducible first | exact HB.out | apply below_alloc | apply pw_below_drewN | apply below_drew1 | refine below_set ?_ GE176.out) | exact HB.out)) hb); have n3_ := Aside0.mk (hbox); have n4_ := Aside0.mk ((by rw [hg]; exact (below_size (by repeat (first | (with_reducible first | exact HB.out | apply below_alloc | apply pw_below_drewN | apply below_drew1 | refine below_set ?_ GE176.out) | exact HB.out))) : w.heap.size ≤ gb181)); have n5_ := Aside0.mk ((by rw [hg]; exact (below_size (by repeat (first | (with_reducible first | exact HB.out | apply below_alloc | apply pw_below_drewN | apply below_drew1 | refine below_set ?_ GE176.out) | exact HB.out))) : w.heap.size ≤ gb181)); have n6_ := Aside0.mk ((by rw [hg]; exact Nat.ne_of_lt (blk_lt (g := gb176) (o := .cells #[.int .u64 a0_0, .string a0_1, .slice (some ad180) l0_2.length c0_2] 25 (0, 0)) (by (with_reducible repeat (first | refine blk_drewN ?_ _ | refine blk_drew ?_ | refine blk_alloc ?_ _)); exact BK176.out)) : gb176 ≠ gb181)); have n7_ := Aside0.mk ((by rw [hg]; exact Nat.ne_of_gt (blk_lt (g := gb176) (o := .cells #[.int .u64 a0_0, .string a0_1, .slice (some ad180) l0_2.length c0_2] 25 (0, 0)) (by (with_reducible repeat (first | refine blk_drewN ?_ _ | refine blk_drew ?_ | refine blk_alloc ?_ _)); exact BK176.out)) : gb181 ≠ gb176)); clear HO_11; clear BK176; clear HB; have HO_11 := n0_; have BK176 := n1_; have HB := n2_; have BK181 := n3_; have GW181 := n4_; have GE181 := n5_; have NB176_181 := n6_; have NB181_176 := n7_; clear n0_ n1_ n2_ n3_ n4_ n5_ n6_ n7_; clear hb hbox hg; have hnb39 := NB181_176.out; have hnc39 := NB176_181.out; have hcz40_0 : w38.cell? ⟨gb181, 0, none⟩ = some (.int .i64 0) := (blk_cell BK181.out 0).trans rfl; have hcz40_1 : w38.cell? ⟨gb181, 1, none⟩ = some (.string (⟨#[]⟩ : ByteArray)) := (blk_cell BK181.out 1).trans rfl; have hfz40_0 := blk_frozen BK181.out 0; have hfz40_1 := blk_frozen BK181.out 1; have p182 : 0 ≤ (x12_3 : Int) := of_decide_eq_true (by first | (with_reducible assumption) | assumption); have q182 : x12_3 < (l1.length : Int) := of_decide_eq_true (by first | (with_reducible assumption) | assumption); obtain ⟨ad182, e182, hx182_0, hx182_1⟩ := at_T48 HR1.out x12_3 p182 q182; cases e182; have hn182_0 : ad182.block ≠ gb181 := Nat.ne_of_lt (Nat.lt_of_lt_of_le (by have := World.block_lt_of_cell? _ _ hx182_0; first | rwa [add_block] at this | exact this) GW181.out); have hn182_1 : ad182.block ≠ gb181 := Nat.ne_of_lt (Nat.lt_of_lt_of_le (by have := World.block_lt_of_cell? _ _ hx182_0; first | rwa [add_block] at this | exact this) GW181.out); replace hx182_0 := (HB.out.cell (World.block_lt_of_cell? w _ hx182_0)).trans hx182_0; replace hx182_1 := (HB.out.cell (World.block_lt_of_cell? w _ hx182_1)).trans hx182_1; replace hx182_0 := (cell_far (p := ⟨gb181, 0, none⟩) (by first | (rw [add_block]; exact hn182_0) | (show (Addr.add _ _).block ≠ _; rw [add_block]; exact hn182_0) | exact hn182_0) (.int .i64 ((rd_T40 l0_2 x14_4).f0))).trans hx182_0; replace hx182_1 := (cell_far (p := ⟨gb181, 0, none⟩) (by first | (rw [add_block]; exact hn182_0) | (show (Addr.add _ _).block ≠ _; rw [add_block]; exact hn182_0) | exact hn182_0) (.int .i64 ((rd_T40 l0_2 x14_4).f0))).trans hx182_1; replace hx182_0 := (cell_far (p := ⟨gb181, 1, none⟩) (by first | (rw [add_block]; exact hn182_1) | (show (Addr.add _ _).block ≠ _; rw [add_block]; exact hn182_1) | exact hn182_1) (.string ((rd_T40 l0_2 x14_4).f1))).trans hx182_0; replace hx182_1 := (cell_far (p := ⟨gb181, 1, none⟩) (by first | (rw [add_block]; exact hn182_1) | (show (Addr.add _ _).block ≠ _; rw [add_block]; exact hn182_1) | exact hn182_1) (.string ((rd_T40 l0_2 x14_4).f1))).trans hx182_1; (try have hy182_0 := fun (n_ : Nat) => (show ((((w38.drewN n_).setCell ⟨gb181, 0, none⟩ (.int .i64 ((rd_T40 l0_2 x14_4).f0))).setCell ⟨gb181, 1, none⟩ (.string ((rd_T40 l0_2 x14_4).f1)))).cell? _ = some _ from hx182_0)); (try have hy182_1 := fun (n_ : Nat) => (show ((((w38.drewN n_).setCell ⟨gb181, 0, none⟩ (.int .i64 ((rd_T40 l0_2 x14_4).f0))).setCell ⟨gb181, 1, none⟩ (.string ((rd_T40 l0_2 x14_4).f1)))).cell? _ = some _ from hx182_1)); clear hn182_0; clear hn182_1; replace p182 := eq_true p182; replace q182 := eq_true q182) | (go_at_call 15; (with_reducible refine (cellarerref04_Of.calls k4 ((rd_T40 l0_2 x14_4).f1) t183 _ A24.out).mono ?_); rintro e w' ⟨rfl, ⟨nd, rfl⟩⟩; (try first | exact ⟨rfl, _, World.drewN_drewN _ _ _⟩ | exact ⟨rfl, _, Eq.trans (World.drewN_drewN _ _ _) (congrArg (World.drewN _) (Nat.add_assoc _ _ _))⟩); have p184 : 0 ≤ (x12_3 : Int) := of_decide_eq_true (by first | (with_reducible assumption) | assumption); have q184 : x12_3 < (l1.length : Int) := of_decide_eq_true (by first | (with_reducible assumption) | assumption); obtain ⟨ad184, e184, hx184_0, hx184_1⟩ := at_T48 HR1.out x12_3 p184 q184; obtain rfl : ad182 = ad184 := (by injection e184); have hn184_0 : ad182.block ≠ gb181 := Nat.ne_of_lt (Nat.lt_of_lt_of_le (by have := World.block_lt_of_cell? _ _ hx184_0; first | rwa [add_block] at this | exact this) GW181.out); have hn184_1 : ad182.block ≠ gb181 := Nat.ne_of_lt (Nat.lt_of_lt_of_le (by have := World.block_lt_of_cell? _ _ hx184_0; first | rwa [add_block] at this | exact this) GW181.out); replace hx184_0 := (HB.out.cell (World.block_lt_of_cell? w _ hx184_0)).trans hx184_0; replace hx184_1 := (HB.out.cell (World.block_lt_of_cell? w _ hx184_1)).trans hx184_1; replace hx184_0 := (cell_far (p := ⟨gb181, 0, none⟩) (by first | (rw [add_block]; exact hn184_0) | (show (Addr.add _ _).block ≠ _; rw [add_block]; exact hn184_0) | exact hn184_0) (.int .i64 ((rd_T40 l0_2 x14_4).f0))).trans hx184_0; replace hx184_1 := (cell_far (p := ⟨gb181, 0, none⟩) (by first | (rw [add_block]; exact hn184_0) | (show (Addr.add _ _).block ≠ _; rw [add_block]; exact hn184_0) | exact hn184_0) (.int .i64 ((rd_T40 l0_2 x14_4).f0))).trans hx184_1; replace hx184_0 := (cell_far (p := ⟨gb181, 1, none⟩) (by first | (rw [add_block]; exact hn184_1) | (show (Addr.add _ _).block ≠ _; rw [add_block]; exact hn184_1) | exact hn184_1) (.string ((rd_T40 l0_2 x14_4).f1))).trans hx184_0; replace hx184_1 := (cell_far (p := ⟨gb181, 1, none⟩) (by first | (rw [add_block]; exact hn184_1) | (show (Addr.add _ _).block ≠ _; rw [add_block]; exact hn184_1) | exact hn184_1) (.string ((rd_T40 l0_2 x14_4).f1))).trans hx184_1; (try have hy184_0 := fun (n_ : Nat) => (show ((((w38.drewN n_).setCell ⟨gb181, 0, none⟩ (.int .i64 ((rd_T40 l0_2 x14_4).f0))).setCell ⟨gb181, 1, none⟩ (.string ((rd_T40 l0_2 x14_4).f1)))).cell? _ = some _ from hx184_0)); (try have hy184_1 := fun (n_ : Nat) => (show ((((w38.drewN n_).setCell ⟨gb181, 0, none⟩ (.int .i64 ((rd_T40 l0_2 x14_4).f0))).setCell ⟨gb181, 1, none⟩ (.string ((rd_T40 l0_2 x14_4).f1)))).cell? _ = some _ from hx184_1)); clear hn184_0; clear hn184_1; replace p184 := eq_true p184; replace q184 := eq_true q184))
                                          repeat (go_quiet (first | ((with_reducible refine gate_dst (N := 15) rfl ?_); (try (refine gate_guard (by rfl) ?_; dsimp only)); refine box_event ?hg (N := 15) ?hd (cs := #[.int .i64 0, .string (⟨#[]⟩ : ByteArray)]) (t := 40) ?hr ?_; (case hd => rfl); (case hg => rfl); (case hr => first | (go_simp; done) | (go_simp; rfl)); intro gb181 hg w38 hbox hb; have n0_ := Aside0.mk (Kd.R_below (by (with_reducible repeat (first | apply Kd.R_alloc | apply Kd.R_drewN | apply Kd.R_drew)); exact HO_11.out) hb); have n1_ := Aside0.mk (blk_below (g := gb176) (o := .cells #[.int .u64 a0_0, .string a0_1, .slice (some ad180) l0_2.length c0_2] 25 (0, 0)) (by (with_reducible repeat (first | refine blk_drewN ?_ _ | refine blk_drew ?_ | refine blk_alloc ?_ _)); exact BK176.out) hb); have n2_ := Aside0.mk (below_step (by repeat (first | (with_reducible first | exact HB.out | apply below_alloc | apply pw_below_drewN | apply below_drew1 | refine below_set ?_ GE176.out) | exact HB.out)) hb); have n3_ := Aside0.mk (hbox); have n4_ := Aside0.mk ((by rw [hg]; exact (below_size (by repeat (first | (with_reducible first | exact HB.out | apply below_alloc | apply pw_below_drewN | apply below_drew1 | refine below_set ?_ GE176.out) | exact HB.out))) : w.heap.size ≤ gb181)); have n5_ := Aside0.mk ((by rw [hg]; exact (below_size (by repeat (first | (with_reducible first | exact HB.out | apply below_alloc | apply pw_below_drewN | apply below_drew1 | refine below_set ?_ GE176.out) | exact HB.out))) : w.heap.size ≤ gb181)); have n6_ := Aside0.mk ((by rw [hg]; exact Nat.ne_of_lt (blk_lt (g := gb176) (o := .cells #[.int .u64 a0_0, .string a0_1, .slice (some ad180) l0_2.length c0_2] 25 (0, 0)) (by (with_reducible repeat (first | refine blk_drewN ?_ _ | refine blk_drew ?_ | refine blk_alloc ?_ _)); exact BK176.out)) : gb176 ≠ gb181)); have n7_ := Aside0.mk ((by rw [hg]; exact Nat.ne_of_gt (blk_lt (g := gb176) (o := .cells #[.int .u64 a0_0, .string a0_1, .slice (some ad180) l0_2.length c0_2] 25 (0, 0)) (by (with_reducible repeat (first | refine blk_drewN ?_ _ | refine blk_drew ?_ | refine blk_alloc ?_ _)); exact BK176.out)) : gb181 ≠ gb176)); clear HO_11; clear BK176; clear HB; have HO_11 := n0_; have BK176 := n1_; have HB := n2_; have BK181 := n3_; have GW181 := n4_; have GE181 := n5_; have NB176_181 := n6_; have NB181_176 := n7_; clear n0_ n1_ n2_ n3_ n4_ n5_ n6_ n7_; clear hb hbox hg; have hnb39 := NB181_176.out; have hnc39 := NB176_181.out; have hcz40_0 : w38.cell? ⟨gb181, 0, none⟩ = some (.int .i64 0) := (blk_cell BK181.out 0).trans rfl; have hcz40_1 : w38.cell? ⟨gb181, 1, none⟩ = some (.string (⟨#[]⟩ : ByteArray)) := (blk_cell BK181.out 1).trans rfl; have hfz40_0 := blk_frozen BK181.out 0; have hfz40_1 := blk_frozen BK181.out 1; have p182 : 0 ≤ (x12_3 : Int) := of_decide_eq_true (by first | (with_reducible assumption) | assumption); have q182 : x12_3 < (l1.length : Int) := of_decide_eq_true (by first | (with_reducible assumption) | assumption); obtain ⟨ad182, e182, hx182_0, hx182_1⟩ := at_T48 HR1.out x12_3 p182 q182; cases e182; have hn182_0 : ad182.block ≠ gb181 := Nat.ne_of_lt (Nat.lt_of_lt_of_le (by have := World.block_lt_of_cell? _ _ hx182_0; first | rwa [add_block] at this | exact this) GW181.out); have hn182_1 : ad182.block ≠ gb181 := Nat.ne_of_lt (Nat.lt_of_lt_of_le (by have := World.block_lt_of_cell? _ _ hx182_0; first | rwa [add_block] at this | exact this) GW181.out); replace hx182_0 := (HB.out.cell (World.block_lt_of_cell? w _ hx182_0)).trans hx182_0; replace hx182_1 := (HB.out.cell (World.block_lt_of_cell? w _ hx182_1)).trans hx182_1; replace hx182_0 := (cell_far (p := ⟨gb181, 0, none⟩) (by first | (rw [add_block]; exact hn182_0) | (show (Addr.add _ _).block ≠ _; rw [add_block]; exact hn182_0) | exact hn182_0) (.int .i64 ((rd_T40 l0_2 x14_4).f0))).trans hx182_0; replace hx182_1 := (cell_far (p := ⟨gb181, 0, none⟩) (by first | (rw [add_block]; exact hn182_0) | (show (Addr.add _ _).block ≠ _; rw [add_block]; exact hn182_0) | exact hn182_0) (.int .i64 ((rd_T40 l0_2 x14_4).f0))).trans hx182_1; replace hx182_0 := (cell_far (p := ⟨gb181, 1, none⟩) (by first | (rw [add_block]; exact hn182_1) | (show (Addr.add _ _).block ≠ _; rw [add_block]; exact hn182_1) | exact hn182_1) (.string ((rd_T40 l0_2 x14_4).f1))).trans hx182_0; replace hx182_1 := (cell_far (p := ⟨gb181, 1, none⟩) (by first | (rw [add_block]; exact hn182_1) | (show (Addr.add _ _).block ≠ _; rw [add_block]; exact hn182_1) | exact hn182_1) (.string ((rd_T40 l0_2 x14_4).f1))).trans hx182_1; (try have hy182_0 := fun (n_ : Nat) => (show ((((w38.drewN n_).setCell ⟨gb181, 0, none⟩ (.int .i64 ((rd_T40 l0_2 x14_4).f0))).setCell ⟨gb181, 1, none⟩ (.string ((rd_T40 l0_2 x14_4).f1)))).cell? _ = some _ from hx182_0)); (try have hy182_1 := fun (n_ : Nat) => (show ((((w38.drewN n_).setCell ⟨gb181, 0, none⟩ (.int .i64 ((rd_T40 l0_2 x14_4).f0))).setCell ⟨gb181, 1, none⟩ (.string ((rd_T40 l0_2 x14_4).f1)))).cell? _ = some _ from hx182_1)); clear hn182_0; clear hn182_1; replace p182 := eq_true p182; replace q182 := eq_true q182) | (go_at_call 15; (with_reducible refine (cellarerref04_Of.calls k4 ((rd_T40 l0_2 x14_4).f1) t183 _ A24.out).mono ?_); rintro e w' ⟨rfl, ⟨nd, rfl⟩⟩; (try first | exact ⟨rfl, _, World.drewN_drewN _ _ _⟩ | exact ⟨rfl, _, Eq.trans (World.drewN_drewN _ _ _) (congrArg (World.drewN _) (Nat.add_assoc _ _ _))⟩); have p184 : 0 ≤ (x12_3 : Int) := of_decide_eq_true (by first | (with_reducible assumption) | assumption); have q184 : x12_3 < (l1.length : Int) := of_decide_eq_true (by first | (with_reducible assumption) | assumption); obtain ⟨ad184, e184, hx184_0, hx184_1⟩ := at_T48 HR1.out x12_3 p184 q184; obtain rfl : ad182 = ad184 := (by injection e184); have hn184_0 : ad182.block ≠ gb181 := Nat.ne_of_lt (Nat.lt_of_lt_of_le (by have := World.block_lt_of_cell? _ _ hx184_0; first | rwa [add_block] at this | exact this) GW181.out); have hn184_1 : ad182.block ≠ gb181 := Nat.ne_of_lt (Nat.lt_of_lt_of_le (by have := World.block_lt_of_cell? _ _ hx184_0; first | rwa [add_block] at this | exact this) GW181.out); replace hx184_0 := (HB.out.cell (World.block_lt_of_cell? w _ hx184_0)).trans hx184_0; replace hx184_1 := (HB.out.cell (World.block_lt_of_cell? w _ hx184_1)).trans hx184_1; replace hx184_0 := (cell_far (p := ⟨gb181, 0, none⟩) (by first | (rw [add_block]; exact hn184_0) | (show (Addr.add _ _).block ≠ _; rw [add_block]; exact hn184_0) | exact hn184_0) (.int .i64 ((rd_T40 l0_2 x14_4).f0))).trans hx184_0; replace hx184_1 := (cell_far (p := ⟨gb181, 0, none⟩) (by first | (rw [add_block]; exact hn184_0) | (show (Addr.add _ _).block ≠ _; rw [add_block]; exact hn184_0) | exact hn184_0) (.int .i64 ((rd_T40 l0_2 x14_4).f0))).trans hx184_1; replace hx184_0 := (cell_far (p := ⟨gb181, 1, none⟩) (by first | (rw [add_block]; exact hn184_1) | (show (Addr.add _ _).block ≠ _; rw [add_block]; exact hn184_1) | exact hn184_1) (.string ((rd_T40 l0_2 x14_4).f1))).trans hx184_0; replace hx184_1 := (cell_far (p := ⟨gb181, 1, none⟩) (by first | (rw [add_block]; exact hn184_1) | (show (Addr.add _ _).block ≠ _; rw [add_block]; exact hn184_1) | exact hn184_1) (.string ((rd_T40 l0_2 x14_4).f1))).trans hx184_1; (try have hy184_0 := fun (n_ : Nat) => (show ((((w38.drewN n_).setCell ⟨gb181, 0, none⟩ (.int .i64 ((rd_T40 l0_2 x14_4).f0))).setCell ⟨gb181, 1, none⟩ (.string ((rd_T40 l0_2 x14_4).f1)))).cell? _ = some _ from hx184_0)); (try have hy184_1 := fun (n_ : Nat) => (show ((((w38.drewN n_).setCell ⟨gb181, 0, none⟩ (.int .i64 ((rd_T40 l0_2 x14_4).f0))).setCell ⟨gb181, 1, none⟩ (.string ((rd_T40 l0_2 x14_4).f1)))).cell? _ = some _ from hx184_1)); clear hn184_0; clear hn184_1; replace p184 := eq_true p184; replace q184 := eq_true q184)); try go_wp2_with (first | ((with_reducible refine gate_dst (N := 15) rfl ?_); (try (refine gate_guard (by rfl) ?_; dsimp only)); refine box_event ?hg (N := 15) ?hd (cs := #[.int .i64 0, .string (⟨#[]⟩ : ByteArray)]) (t := 40) ?hr ?_; (case hd => rfl); (case hg => rfl); (case hr => first | (go_simp; done) | (go_simp; rfl)); intro gb181 hg w38 hbox hb; have n0_ := Aside0.mk (Kd.R_below (by (with_reducible repeat (first | apply Kd.R_alloc | apply Kd.R_drewN | apply Kd.R_drew)); exact HO_11.out) hb); have n1_ := Aside0.mk (blk_below (g := gb176) (o := .cells #[.int .u64 a0_0, .string a0_1, .slice (some ad180) l0_2.length c0_2] 25 (0, 0)) (by (with_reducible repeat (first | refine blk_drewN ?_ _ | refine blk_drew ?_ | refine blk_alloc ?_ _)); exact BK176.out) hb); have n2_ := Aside0.mk (below_step (by repeat (first | (with_reducible first | exact HB.out | apply below_alloc | apply pw_below_drewN | apply below_drew1 | refine below_set ?_ GE176.out) | exact HB.out)) hb); have n3_ := Aside0.mk (hbox); have n4_ := Aside0.mk ((by rw [hg]; exact (below_size (by repeat (first | (with_reducible first | exact HB.out | apply below_alloc | apply pw_below_drewN | apply below_drew1 | refine below_set ?_ GE176.out) | exact HB.out))) : w.heap.size ≤ gb181)); have n5_ := Aside0.mk ((by rw [hg]; exact (below_size (by repeat (first | (with_reducible first | exact HB.out | apply below_alloc | apply pw_below_drewN | apply below_drew1 | refine below_set ?_ GE176.out) | exact HB.out))) : w.heap.size ≤ gb181)); have n6_ := Aside0.mk ((by rw [hg]; exact Nat.ne_of_lt (blk_lt (g := gb176) (o := .cells #[.int .u64 a0_0, .string a0_1, .slice (some ad180) l0_2.length c0_2] 25 (0, 0)) (by (with_reducible repeat (first | refine blk_drewN ?_ _ | refine blk_drew ?_ | refine blk_alloc ?_ _)); exact BK176.out)) : gb176 ≠ gb181)); have n7_ := Aside0.mk ((by rw [hg]; exact Nat.ne_of_gt (blk_lt (g := gb176) (o := .cells #[.int .u64 a0_0, .string a0_1, .slice (some ad180) l0_2.length c0_2] 25 (0, 0)) (by (with_reducible repeat (first | refine blk_drewN ?_ _ | refine blk_drew ?_ | refine blk_alloc ?_ _)); exact BK176.out)) : gb181 ≠ gb176)); clear HO_11; clear BK176; clear HB; have HO_11 := n0_; have BK176 := n1_; have HB := n2_; have BK181 := n3_; have GW181 := n4_; have GE181 := n5_; have NB176_181 := n6_; have NB181_176 := n7_; clear n0_ n1_ n2_ n3_ n4_ n5_ n6_ n7_; clear hb hbox hg; have hnb39 := NB181_176.out; have hnc39 := NB176_181.out; have hcz40_0 : w38.cell? ⟨gb181, 0, none⟩ = some (.int .i64 0) := (blk_cell BK181.out 0).trans rfl; have hcz40_1 : w38.cell? ⟨gb181, 1, none⟩ = some (.string (⟨#[]⟩ : ByteArray)) := (blk_cell BK181.out 1).trans rfl; have hfz40_0 := blk_frozen BK181.out 0; have hfz40_1 := blk_frozen BK181.out 1; have p182 : 0 ≤ (x12_3 : Int) := of_decide_eq_true (by first | (with_reducible assumption) | assumption); have q182 : x12_3 < (l1.length : Int) := of_decide_eq_true (by first | (with_reducible assumption) | assumption); obtain ⟨ad182, e182, hx182_0, hx182_1⟩ := at_T48 HR1.out x12_3 p182 q182; cases e182; have hn182_0 : ad182.block ≠ gb181 := Nat.ne_of_lt (Nat.lt_of_lt_of_le (by have := World.block_lt_of_cell? _ _ hx182_0; first | rwa [add_block] at this | exact this) GW181.out); have hn182_1 : ad182.block ≠ gb181 := Nat.ne_of_lt (Nat.lt_of_lt_of_le (by have := World.block_lt_of_cell? _ _ hx182_0; first | rwa [add_block] at this | exact this) GW181.out); replace hx182_0 := (HB.out.cell (World.block_lt_of_cell? w _ hx182_0)).trans hx182_0; replace hx182_1 := (HB.out.cell (World.block_lt_of_cell? w _ hx182_1)).trans hx182_1; replace hx182_0 := (cell_far (p := ⟨gb181, 0, none⟩) (by first | (rw [add_block]; exact hn182_0) | (show (Addr.add _ _).block ≠ _; rw [add_block]; exact hn182_0) | exact hn182_0) (.int .i64 ((rd_T40 l0_2 x14_4).f0))).trans hx182_0; replace hx182_1 := (cell_far (p := ⟨gb181, 0, none⟩) (by first | (rw [add_block]; exact hn182_0) | (show (Addr.add _ _).block ≠ _; rw [add_block]; exact hn182_0) | exact hn182_0) (.int .i64 ((rd_T40 l0_2 x14_4).f0))).trans hx182_1; replace hx182_0 := (cell_far (p := ⟨gb181, 1, none⟩) (by first | (rw [add_block]; exact hn182_1) | (show (Addr.add _ _).block ≠ _; rw [add_block]; exact hn182_1) | exact hn182_1) (.string ((rd_T40 l0_2 x14_4).f1))).trans hx182_0; replace hx182_1 := (cell_far (p := ⟨gb181, 1, none⟩) (by first | (rw [add_block]; exact hn182_1) | (show (Addr.add _ _).block ≠ _; rw [add_block]; exact hn182_1) | exact hn182_1) (.string ((rd_T40 l0_2 x14_4).f1))).trans hx182_1; (try have hy182_0 := fun (n_ : Nat) => (show ((((w38.drewN n_).setCell ⟨gb181, 0, none⟩ (.int .i64 ((rd_T40 l0_2 x14_4).f0))).setCell ⟨gb181, 1, none⟩ (.string ((rd_T40 l0_2 x14_4).f1)))).cell? _ = some _ from hx182_0)); (try have hy182_1 := fun (n_ : Nat) => (show ((((w38.drewN n_).setCell ⟨gb181, 0, none⟩ (.int .i64 ((rd_T40 l0_2 x14_4).f0))).setCell ⟨gb181, 1, none⟩ (.string ((rd_T40 l0_2 x14_4).f1)))).cell? _ = some _ from hx182_1)); clear hn182_0; clear hn182_1; replace p182 := eq_true p182; replace q182 := eq_true q182) | (go_at_call 15; (with_reducible refine (cellarerref04_Of.calls k4 ((rd_T40 l0_2 x14_4).f1) t183 _ A24.out).mono ?_); rintro e w' ⟨rfl, ⟨nd, rfl⟩⟩; (try first | exact ⟨rfl, _, World.drewN_drewN _ _ _⟩ | exact ⟨rfl, _, Eq.trans (World.drewN_drewN _ _ _) (congrArg (World.drewN _) (Nat.add_assoc _ _ _))⟩); have p184 : 0 ≤ (x12_3 : Int) := of_decide_eq_true (by first | (with_reducible assumption) | assumption); have q184 : x12_3 < (l1.length : Int) := of_decide_eq_true (by first | (with_reducible assumption) | assumption); obtain ⟨ad184, e184, hx184_0, hx184_1⟩ := at_T48 HR1.out x12_3 p184 q184; obtain rfl : ad182 = ad184 := (by injection e184); have hn184_0 : ad182.block ≠ gb181 := Nat.ne_of_lt (Nat.lt_of_lt_of_le (by have := World.block_lt_of_cell? _ _ hx184_0; first | rwa [add_block] at this | exact this) GW181.out); have hn184_1 : ad182.block ≠ gb181 := Nat.ne_of_lt (Nat.lt_of_lt_of_le (by have := World.block_lt_of_cell? _ _ hx184_0; first | rwa [add_block] at this | exact this) GW181.out); replace hx184_0 := (HB.out.cell (World.block_lt_of_cell? w _ hx184_0)).trans hx184_0; replace hx184_1 := (HB.out.cell (World.block_lt_of_cell? w _ hx184_1)).trans hx184_1; replace hx184_0 := (cell_far (p := ⟨gb181, 0, none⟩) (by first | (rw [add_block]; exact hn184_0) | (show (Addr.add _ _).block ≠ _; rw [add_block]; exact hn184_0) | exact hn184_0) (.int .i64 ((rd_T40 l0_2 x14_4).f0))).trans hx184_0; replace hx184_1 := (cell_far (p := ⟨gb181, 0, none⟩) (by first | (rw [add_block]; exact hn184_0) | (show (Addr.add _ _).block ≠ _; rw [add_block]; exact hn184_0) | exact hn184_0) (.int .i64 ((rd_T40 l0_2 x14_4).f0))).trans hx184_1; replace hx184_0 := (cell_far (p := ⟨gb181, 1, none⟩) (by first | (rw [add_block]; exact hn184_1) | (show (Addr.add _ _).block ≠ _; rw [add_block]; exact hn184_1) | exact hn184_1) (.string ((rd_T40 l0_2 x14_4).f1))).trans hx184_0; replace hx184_1 := (cell_far (p := ⟨gb181, 1, none⟩) (by first | (rw [add_block]; exact hn184_1) | (show (Addr.add _ _).block ≠ _; rw [add_block]; exact hn184_1) | exact hn184_1) (.string ((rd_T40 l0_2 x14_4).f1))).trans hx184_1; (try have hy184_0 := fun (n_ : Nat) => (show ((((w38.drewN n_).setCell ⟨gb181, 0, none⟩ (.int .i64 ((rd_T40 l0_2 x14_4).f0))).setCell ⟨gb181, 1, none⟩ (.string ((rd_T40 l0_2 x14_4).f1)))).cell? _ = some _ from hx184_0)); (try have hy184_1 := fun (n_ : Nat) => (show ((((w38.drewN n_).setCell ⟨gb181, 0, none⟩ (.int .i64 ((rd_T40 l0_2 x14_4).f0))).setCell ⟨gb181, 1, none⟩ (.string ((rd_T40 l0_2 x14_4).f1)))).cell? _ = some _ from hx184_1)); clear hn184_0; clear hn184_1; replace p184 := eq_true p184; replace q184 := eq_true q184)))
                                          go_roundg k4
                                          case measure => have := HJ2.out; have := HK2.out; have := HK3.out; have := HK4.out; omega
                                          case rel => exact ⟨(x8_4 ++ ((rd_T40 l0_2 x14_4).f1)), (false), (true), (wrap64 (x14_4 + 1)), (by first | rfl | (simp; done) | (simp [*]; done)), (by first | rfl | (simp; done) | (simp [*]; done)), (by first | rfl | (simp; done) | (simp [*]; done)), (by first | rfl | (simp; done) | (simp [*]; done)), H', ⟨by have := HJ2.out; have := HK2.out; have := HK3.out; have := HK4.out; omega⟩, ⟨by (with_reducible repeat (first | apply Kd.R_alloc | apply Kd.R_drewN | apply Kd.R_drew)); exact Kd.R_mono (Kd.R_far (p := ⟨gb181, 1, none⟩) (Kd.R_far (p := ⟨gb181, 0, none⟩) (Kd.R_types HO_11.out BK181.out (by decide)) (fun _ hk => hk.2) (.int .i64 ((rd_T40 l0_2 x14_4).f0))) (fun _ hk => hk.2) (.string ((rd_T40 l0_2 x14_4).f1))) (fun _ hk => trivial)⟩, ⟨by (with_reducible repeat (first | refine blk_drewN ?_ _ | refine blk_drew ?_ | refine blk_alloc ?_ _)); refine blk_far ?_ NB176_181.out _; (with_reducible repeat (first | refine blk_drewN ?_ _ | refine blk_drew ?_ | refine blk_alloc ?_ _)); refine blk_far ?_ NB176_181.out _; (with_reducible repeat (first | refine blk_drewN ?_ _ | refine blk_drew ?_ | refine blk_alloc ?_ _)); exact BK176.out⟩, ⟨by repeat (first | (with_reducible first | exact HB.out | apply below_alloc | apply pw_below_drewN | apply below_drew1 | refine below_set ?_ GE176.out | refine below_set ?_ GE181.out) | exact HB.out)⟩⟩
                                    · rw [if_neg c26] at H
                                      exact absurd H (by simp)
                                  · rw [if_neg c25] at H
                                    have c25b0 : (t183 == ((rd_T48 l1 x12_3).f1)) = false := beq_eq_false_iff_ne.mpr c25
                                    have c25b1 : (t183 != ((rd_T48 l1 x12_3).f1)) = true := bne_iff_ne.mpr c25
                                    have H' := Aside0.mk H
                                    clear H
                                    have hcz41_0 : wr.cell? ⟨gb176, 0, none⟩ = some (.int .u64 a0_0) := (blk_cell BK176.out 0).trans rfl
                                    have hcz41_1 : wr.cell? ⟨gb176, 1, none⟩ = some (.string a0_1) := (blk_cell BK176.out 1).trans rfl
                                    have hcz41_2 : wr.cell? ⟨gb176, 2, none⟩ = some (.slice A0_2 l0_2.length c0_2) := (blk_cell BK176.out 2).trans rfl
                                    have hfz41_0 := blk_frozen BK176.out 0
                                    have hfz41_1 := blk_frozen BK176.out 1
                                    have hfz41_2 := blk_frozen BK176.out 2
                                    have p180 : 0 ≤ (x14_4 : Int) := of_decide_eq_true (by first | (with_reducible assumption) | assumption)
                                    have q180 : x14_4 < (l0_2.length : Int) := of_decide_eq_true (by first | (with_reducible assumption) | assumption)
                                    obtain ⟨ad180, e180, hx180_0, hx180_1⟩ := at_T40 HR0_2.out x14_4 p180 q180
                                    cases e180
                                    replace hx180_0 := (HB.out.cell (World.block_lt_of_cell? w _ hx180_0)).trans hx180_0
                                    replace hx180_1 := (HB.out.cell (World.block_lt_of_cell? w _ hx180_1)).trans hx180_1
                                    replace p180 := eq_true p180
                                    replace q180 := eq_true q180
                                    go_wp2_with (first | ((with_reducible refine gate_dst (N := 15) rfl ?_); (try (refine gate_guard (by rfl) ?_; dsimp only)); refine box_event ?hg (N := 15) ?hd (cs := #[.int .i64 0, .string (⟨#[]⟩ : ByteArray)]) (t := 40) ?hr ?_; (case hd => rfl); (case hg => rfl); (case hr => first | (go_simp; done) | (go_simp; rfl)); intro gb181 hg w42 hbox hb; have n0_ := Aside0.mk (Kd.R_below (by (with_reducible repeat (first | apply Kd.R_alloc | apply Kd.R_drewN | apply Kd.R_drew)); exact HO_11.out) hb); have n1_ := Aside0.mk (blk_below (g := gb176) (o := .cells #[.int .u64 a0_0, .string a0_1, .slice (some ad180) l0_2.length c0_2] 25 (0, 0)) (by (with_reducible repeat (first | refine blk_drewN ?_ _ | refine blk_drew ?_ | refine blk_alloc ?_ _)); exact BK176.out) hb); have n2_ := Aside0.mk (below_step (by repeat (first | (with_reducible first | exact HB.out | apply below_alloc | apply pw_below_drewN | apply below_drew1 | refine below_set ?_ GE176.out) | exact HB.out)) hb); have n3_ := Aside0.mk (hbox); have n4_ := Aside0.mk ((by rw [hg]; exact (below_size (by repeat (first | (with_reducible first | exact HB.out | apply below_alloc | apply pw_below_drewN | apply below_drew1 | refine below_set ?_ GE176.out) | exact HB.out))) : w.heap.size ≤ gb181)); have n5_ := Aside0.mk ((by rw [hg]; exact (below_size (by repeat (first | (with_reducible first | exact HB.out | apply below_alloc | apply pw_below_drewN | apply below_drew1 | refine below_set ?_ GE176.out) | exact HB.out))) : w.heap.size ≤ gb181)); have n6_ := Aside0.mk ((by rw [hg]; exact Nat.ne_of_lt (blk_lt (g := gb176) (o := .cells #[.int .u64 a0_0, .string a0_1, .slice (some ad180) l0_2.length c0_2] 25 (0, 0)) (by (with_reducible repeat (first | refine blk_drewN ?_ _ | refine blk_drew ?_ | refine blk_alloc ?_ _)); exact BK176.out)) : gb176 ≠ gb181)); have n7_ := Aside0.mk ((by rw [hg]; exact Nat.ne_of_gt (blk_lt (g := gb176) (o := .cells #[.int .u64 a0_0, .string a0_1, .slice (some ad180) l0_2.length c0_2] 25 (0, 0)) (by (with_reducible repeat (first | refine blk_drewN ?_ _ | refine blk_drew ?_ | refine blk_alloc ?_ _)); exact BK176.out)) : gb181 ≠ gb176)); clear HO_11; clear BK176; clear HB; have HO_11 := n0_; have BK176 := n1_; have HB := n2_; have BK181 := n3_; have GW181 := n4_; have GE181 := n5_; have NB176_181 := n6_; have NB181_176 := n7_; clear n0_ n1_ n2_ n3_ n4_ n5_ n6_ n7_; clear hb hbox hg; have hnb43 := NB181_176.out; have hnc43 := NB176_181.out; have hcz44_0 : w42.cell? ⟨gb181, 0, none⟩ = some (.int .i64 0) := (blk_cell BK181.out 0).trans rfl; have hcz44_1 : w42.cell? ⟨gb181, 1, none⟩ = some (.string (⟨#[]⟩ : ByteArray)) := (blk_cell BK181.out 1).trans rfl; have hfz44_0 := blk_frozen BK181.out 0; have hfz44_1 := blk_frozen BK181.out 1; have p182 : 0 ≤ (x12_3 : Int) := of_decide_eq_true (by first | (with_reducible assumption) | assumption); have q182 : x12_3 < (l1.length : Int) := of_decide_eq_true (by first | (with_reducible assumption) | assumption); obtain ⟨ad182, e182, hx182_0, hx182_1⟩ := at_T48 HR1.out x12_3 p182 q182; cases e182; have hn182_0 : ad182.block ≠ gb181 := Nat.ne_of_lt (Nat.lt_of_lt_of_le (by have := World.block_lt_of_cell? _ _ hx182_0; first | rwa [add_block] at this | exact this) GW181.out); have hn182_1 : ad182.block ≠ gb181 := Nat.ne_of_lt (Nat.lt_of_lt_of_le (by have := World.block_lt_of_cell? _ _ hx182_0; first | rwa [add_block] at this | exact this) GW181.out); replace hx182_0 := (HB.out.cell (World.block_lt_of_cell? w _ hx182_0)).trans hx182_0; replace hx182_1 := (HB.out.cell (World.block_lt_of_cell? w _ hx182_1)).trans hx182_1; replace hx182_0 := (cell_far (p := ⟨gb181, 0, none⟩) (by first | (rw [add_block]; exact hn182_0) | (show (Addr.add _ _).block ≠ _; rw [add_block]; exact hn182_0) | exact hn182_0) (.int .i64 ((rd_T40 l0_2 x14_4).f0))).trans hx182_0; replace hx182_1 := (cell_far (p := ⟨gb181, 0, none⟩) (by first | (rw [add_block]; exact hn182_0) | (show (Addr.add _ _).block ≠ _; rw [add_block]; exact hn182_0) | exact hn182_0) (.int .i64 ((rd_T40 l0_2 x14_4).f0))).trans hx182_1; replace hx182_0 := (cell_far (p := ⟨gb181, 1, none⟩) (by first | (rw [add_block]; exact hn182_1) | (show (Addr.add _ _).block ≠ _; rw [add_block]; exact hn182_1) | exact hn182_1) (.string ((rd_T40 l0_2 x14_4).f1))).trans hx182_0; replace hx182_1 := (cell_far (p := ⟨gb181, 1, none⟩) (by first | (rw [add_block]; exact hn182_1) | (show (Addr.add _ _).block ≠ _; rw [add_block]; exact hn182_1) | exact hn182_1) (.string ((rd_T40 l0_2 x14_4).f1))).trans hx182_1; (try have hy182_0 := fun (n_ : Nat) => (show ((((w42.drewN n_).setCell ⟨gb181, 0, none⟩ (.int .i64 ((rd_T40 l0_2 x14_4).f0))).setCell ⟨gb181, 1, none⟩ (.string ((rd_T40 l0_2 x14_4).f1)))).cell? _ = some _ from hx182_0)); (try have hy182_1 := fun (n_ : Nat) => (show ((((w42.drewN n_).setCell ⟨gb181, 0, none⟩ (.int .i64 ((rd_T40 l0_2 x14_4).f0))).setCell ⟨gb181, 1, none⟩ (.string ((rd_T40 l0_2 x14_4).f1)))).cell? _ = some _ from hx182_1)); clear hn182_0; clear hn182_1; replace p182 := eq_true p182; replace q182 := eq_true q182) | (go_at_call 15; (with_reducible refine (cellarerref04_Of.calls k4 ((rd_T40 l0_2 x14_4).f1) t183 _ A24.out).mono ?_); rintro e w' ⟨rfl, ⟨nd, rfl⟩⟩; (try first | exact ⟨rfl, _, World.drewN_drewN _ _ _⟩ | exact ⟨rfl, _, Eq.trans (World.drewN_drewN _ _ _) (congrArg (World.drewN _) (Nat.add_assoc _ _ _))⟩); have p184 : 0 ≤ (x12_3 : Int) := of_decide_eq_true (by first | (with_reducible assumption) | assumption); have q184 : x12_3 < (l1.length : Int) := of_decide_eq_true (by first | (with_reducible assumption) | assumption); obtain ⟨ad184, e184, hx184_0, hx184_1⟩ := at_T48 HR1.out x12_3 p184 q184; obtain rfl : ad182 = ad184 := (by injection e184); have hn184_0 : ad182.block ≠ gb181 := Nat.ne_of_lt (Nat.lt_of_lt_of_le (by have := World.block_lt_of_cell? _ _ hx184_0; first | rwa [add_block] at this | exact this) GW181.out); have hn184_1 : ad182.block ≠ gb181 := Nat.ne_of_lt (Nat.lt_of_lt_of_le (by have := World.block_lt_of_cell? _ _ hx184_0; first | rwa [add_block] at this | exact this) GW181.out); replace hx184_0 := (HB.out.cell (World.block_lt_of_cell? w _ hx184_0)).trans hx184_0; replace hx184_1 := (HB.out.cell (World.block_lt_of_cell? w _ hx184_1)).trans hx184_1; replace hx184_0 := (cell_far (p := ⟨gb181, 0, none⟩) (by first | (rw [add_block]; exact hn184_0) | (show (Addr.add _ _).block ≠ _; rw [add_block]; exact hn184_0) | exact hn184_0) (.int .i64 ((rd_T40 l0_2 x14_4).f0))).trans hx184_0; replace hx184_1 := (cell_far (p := ⟨gb181, 0, none⟩) (by first | (rw [add_block]; exact hn184_0) | (show (Addr.add _ _).block ≠ _; rw [add_block]; exact hn184_0) | exact hn184_0) (.int .i64 ((rd_T40 l0_2 x14_4).f0))).trans hx184_1; replace hx184_0 := (cell_far (p := ⟨gb181, 1, none⟩) (by first | (rw [add_block]; exact hn184_1) | (show (Addr.add _ _).block ≠ _; rw [add_block]; exact hn184_1) | exact hn184_1) (.string ((rd_T40 l0_2 x14_4).f1))).trans hx184_0; replace hx184_1 := (cell_far (p := ⟨gb181, 1, none⟩) (by first | (rw [add_block]; exact hn184_1) | (show (Addr.add _ _).block ≠ _; rw [add_block]; exact hn184_1) | exact hn184_1) (.string ((rd_T40 l0_2 x14_4).f1))).trans hx184_1; (try have hy184_0 := fun (n_ : Nat) => (show ((((w42.drewN n_).setCell ⟨gb181, 0, none⟩ (.int .i64 ((rd_T40 l0_2 x14_4).f0))).setCell ⟨gb181, 1, none⟩ (.string ((rd_T40 l0_2 x14_4).f1)))).cell? _ = some _ from hx184_0)); (try have hy184_1 := fun (n_ : Nat) => (show ((((w42.drewN n_).setCell ⟨gb181, 0, none⟩ (.int .i64 ((rd_T40 l0_2 x14_4).f0))).setCell ⟨gb181, 1, none⟩ (.string ((rd_T40 l0_2 x14_4).f1)))).cell? _ = some _ from hx184_1)); clear hn184_0; clear hn184_1; replace p184 := eq_true p184; replace q184 := eq_true q184))
                                    repeat (go_quiet (first | ((with_reducible refine gate_dst (N := 15) rfl ?_); (try (refine gate_guard (by rfl) ?_; dsimp only)); refine box_event ?hg (N := 15) ?hd (cs := #[.int .i64 0, .string (⟨#[]⟩ : ByteArray)]) (t := 40) ?hr ?_; (case hd => rfl); (case hg => rfl); (case hr => first | (go_simp; done) | (go_simp; rfl)); intro gb181 hg w42 hbox hb; have n0_ := Aside0.mk (Kd.R_below (by (with_reducible repeat (first | apply Kd.R_alloc | apply Kd.R_drewN | apply Kd.R_drew)); exact HO_11.out) hb); have n1_ := Aside0.mk (blk_below (g := gb176) (o := .cells #[.int .u64 a0_0, .string a0_1, .slice (some ad180) l0_2.length c0_2] 25 (0, 0)) (by (with_reducible repeat (first | refine blk_drewN ?_ _ | refine blk_drew ?_ | refine blk_alloc ?_ _)); exact BK176.out) hb); have n2_ := Aside0.mk (below_step (by repeat (first | (with_reducible first | exact HB.out | apply below_alloc | apply pw_below_drewN | apply below_drew1 | refine below_set ?_ GE176.out) | exact HB.out)) hb); have n3_ := Aside0.mk (hbox); have n4_ := Aside0.mk ((by rw [hg]; exact (below_size (by repeat (first | (with_reducible first | exact HB.out | apply below_alloc | apply pw_below_drewN | apply below_drew1 | refine below_set ?_ GE176.out) | exact HB.out))) : w.heap.size ≤ gb181)); have n5_ := Aside0.mk ((by rw [hg]; exact (below_size (by repeat (first | (with_reducible first | exact HB.out | apply below_alloc | apply pw_below_drewN | apply below_drew1 | refine below_set ?_ GE176.out) | exact HB.out))) : w.heap.size ≤ gb181)); have n6_ := Aside0.mk ((by rw [hg]; exact Nat.ne_of_lt (blk_lt (g := gb176) (o := .cells #[.int .u64 a0_0, .string a0_1, .slice (some ad180) l0_2.length c0_2] 25 (0, 0)) (by (with_reducible repeat (first | refine blk_drewN ?_ _ | refine blk_drew ?_ | refine blk_alloc ?_ _)); exact BK176.out)) : gb176 ≠ gb181)); have n7_ := Aside0.mk ((by rw [hg]; exact Nat.ne_of_gt (blk_lt (g := gb176) (o := .cells #[.int .u64 a0_0, .string a0_1, .slice (some ad180) l0_2.length c0_2] 25 (0, 0)) (by (with_reducible repeat (first | refine blk_drewN ?_ _ | refine blk_drew ?_ | refine blk_alloc ?_ _)); exact BK176.out)) : gb181 ≠ gb176)); clear HO_11; clear BK176; clear HB; have HO_11 := n0_; have BK176 := n1_; have HB := n2_; have BK181 := n3_; have GW181 := n4_; have GE181 := n5_; have NB176_181 := n6_; have NB181_176 := n7_; clear n0_ n1_ n2_ n3_ n4_ n5_ n6_ n7_; clear hb hbox hg; have hnb43 := NB181_176.out; have hnc43 := NB176_181.out; have hcz44_0 : w42.cell? ⟨gb181, 0, none⟩ = some (.int .i64 0) := (blk_cell BK181.out 0).trans rfl; have hcz44_1 : w42.cell? ⟨gb181, 1, none⟩ = some (.string (⟨#[]⟩ : ByteArray)) := (blk_cell BK181.out 1).trans rfl; have hfz44_0 := blk_frozen BK181.out 0; have hfz44_1 := blk_frozen BK181.out 1; have p182 : 0 ≤ (x12_3 : Int) := of_decide_eq_true (by first | (with_reducible assumption) | assumption); have q182 : x12_3 < (l1.length : Int) := of_decide_eq_true (by first | (with_reducible assumption) | assumption); obtain ⟨ad182, e182, hx182_0, hx182_1⟩ := at_T48 HR1.out x12_3 p182 q182; cases e182; have hn182_0 : ad182.block ≠ gb181 := Nat.ne_of_lt (Nat.lt_of_lt_of_le (by have := World.block_lt_of_cell? _ _ hx182_0; first | rwa [add_block] at this | exact this) GW181.out); have hn182_1 : ad182.block ≠ gb181 := Nat.ne_of_lt (Nat.lt_of_lt_of_le (by have := World.block_lt_of_cell? _ _ hx182_0; first | rwa [add_block] at this | exact this) GW181.out); replace hx182_0 := (HB.out.cell (World.block_lt_of_cell? w _ hx182_0)).trans hx182_0; replace hx182_1 := (HB.out.cell (World.block_lt_of_cell? w _ hx182_1)).trans hx182_1; replace hx182_0 := (cell_far (p := ⟨gb181, 0, none⟩) (by first | (rw [add_block]; exact hn182_0) | (show (Addr.add _ _).block ≠ _; rw [add_block]; exact hn182_0) | exact hn182_0) (.int .i64 ((rd_T40 l0_2 x14_4).f0))).trans hx182_0; replace hx182_1 := (cell_far (p := ⟨gb181, 0, none⟩) (by first | (rw [add_block]; exact hn182_0) | (show (Addr.add _ _).block ≠ _; rw [add_block]; exact hn182_0) | exact hn182_0) (.int .i64 ((rd_T40 l0_2 x14_4).f0))).trans hx182_1; replace hx182_0 := (cell_far (p := ⟨gb181, 1, none⟩) (by first | (rw [add_block]; exact hn182_1) | (show (Addr.add _ _).block ≠ _; rw [add_block]; exact hn182_1) | exact hn182_1) (.string ((rd_T40 l0_2 x14_4).f1))).trans hx182_0; replace hx182_1 := (cell_far (p := ⟨gb181, 1, none⟩) (by first | (rw [add_block]; exact hn182_1) | (show (Addr.add _ _).block ≠ _; rw [add_block]; exact hn182_1) | exact hn182_1) (.string ((rd_T40 l0_2 x14_4).f1))).trans hx182_1; (try have hy182_0 := fun (n_ : Nat) => (show ((((w42.drewN n_).setCell ⟨gb181, 0, none⟩ (.int .i64 ((rd_T40 l0_2 x14_4).f0))).setCell ⟨gb181, 1, none⟩ (.string ((rd_T40 l0_2 x14_4).f1)))).cell? _ = some _ from hx182_0)); (try have hy182_1 := fun (n_ : Nat) => (show ((((w42.drewN n_).setCell ⟨gb181, 0, none⟩ (.int .i64 ((rd_T40 l0_2 x14_4).f0))).setCell ⟨gb181, 1, none⟩ (.string ((rd_T40 l0_2 x14_4).f1)))).cell? _ = some _ from hx182_1)); clear hn182_0; clear hn182_1; replace p182 := eq_true p182; replace q182 := eq_true q182) | (go_at_call 15; (with_reducible refine (cellarerref04_Of.calls k4 ((rd_T40 l0_2 x14_4).f1) t183 _ A24.out).mono ?_); rintro e w' ⟨rfl, ⟨nd, rfl⟩⟩; (try first | exact ⟨rfl, _, World.drewN_drewN _ _ _⟩ | exact ⟨rfl, _, Eq.trans (World.drewN_drewN _ _ _) (congrArg (World.drewN _) (Nat.add_assoc _ _ _))⟩); have p184 : 0 ≤ (x12_3 : Int) := of_decide_eq_true (by first | (with_reducible assumption) | assumption); have q184 : x12_3 < (l1.length : Int) := of_decide_eq_true (by first | (with_reducible assumption) | assumption); obtain ⟨ad184, e184, hx184_0, hx184_1⟩ := at_T48 HR1.out x12_3 p184 q184; obtain rfl : ad182 = ad184 := (by injection e184); have hn184_0 : ad182.block ≠ gb181 := Nat.ne_of_lt (Nat.lt_of_lt_of_le (by have := World.block_lt_of_cell? _ _ hx184_0; first | rwa [add_block] at this | exact this) GW181.out); have hn184_1 : ad182.block ≠ gb181 := Nat.ne_of_lt (Nat.lt_of_lt_of_le (by have := World.block_lt_of_cell? _ _ hx184_0; first | rwa [add_block] at this | exact this) GW181.out); replace hx184_0 := (HB.out.cell (World.block_lt_of_cell? w _ hx184_0)).trans hx184_0; replace hx184_1 := (HB.out.cell (World.block_lt_of_cell? w _ hx184_1)).trans hx184_1; replace hx184_0 := (cell_far (p := ⟨gb181, 0, none⟩) (by first | (rw [add_block]; exact hn184_0) | (show (Addr.add _ _).block ≠ _; rw [add_block]; exact hn184_0) | exact hn184_0) (.int .i64 ((rd_T40 l0_2 x14_4).f0))).trans hx184_0; replace hx184_1 := (cell_far (p := ⟨gb181, 0, none⟩) (by first | (rw [add_block]; exact hn184_0) | (show (Addr.add _ _).block ≠ _; rw [add_block]; exact hn184_0) | exact hn184_0) (.int .i64 ((rd_T40 l0_2 x14_4).f0))).trans hx184_1; replace hx184_0 := (cell_far (p := ⟨gb181, 1, none⟩) (by first | (rw [add_block]; exact hn184_1) | (show (Addr.add _ _).block ≠ _; rw [add_block]; exact hn184_1) | exact hn184_1) (.string ((rd_T40 l0_2 x14_4).f1))).trans hx184_0; replace hx184_1 := (cell_far (p := ⟨gb181, 1, none⟩) (by first | (rw [add_block]; exact hn184_1) | (show (Addr.add _ _).block ≠ _; rw [add_block]; exact hn184_1) | exact hn184_1) (.string ((rd_T40 l0_2 x14_4).f1))).trans hx184_1; (try have hy184_0 := fun (n_ : Nat) => (show ((((w42.drewN n_).setCell ⟨gb181, 0, none⟩ (.int .i64 ((rd_T40 l0_2 x14_4).f0))).setCell ⟨gb181, 1, none⟩ (.string ((rd_T40 l0_2 x14_4).f1)))).cell? _ = some _ from hx184_0)); (try have hy184_1 := fun (n_ : Nat) => (show ((((w42.drewN n_).setCell ⟨gb181, 0, none⟩ (.int .i64 ((rd_T40 l0_2 x14_4).f0))).setCell ⟨gb181, 1, none⟩ (.string ((rd_T40 l0_2 x14_4).f1)))).cell? _ = some _ from hx184_1)); clear hn184_0; clear hn184_1; replace p184 := eq_true p184; replace q184 := eq_true q184)); try go_wp2_with (first | ((with_reducible refine gate_dst (N := 15) rfl ?_); (try (refine gate_guard (by rfl) ?_; dsimp only)); refine box_event ?hg (N := 15) ?hd (cs := #[.int .i64 0, .string (⟨#[]⟩ : ByteArray)]) (t := 40) ?hr ?_; (case hd => rfl); (case hg => rfl); (case hr => first | (go_simp; done) | (go_simp; rfl)); intro gb181 hg w42 hbox hb; have n0_ := Aside0.mk (Kd.R_below (by (with_reducible repeat (first | apply Kd.R_alloc | apply Kd.R_drewN | apply Kd.R_drew)); exact HO_11.out) hb); have n1_ := Aside0.mk (blk_below (g := gb176) (o := .cells #[.int .u64 a0_0, .string a0_1, .slice (some ad180) l0_2.length c0_2] 25 (0, 0)) (by (with_reducible repeat (first | refine blk_drewN ?_ _ | refine blk_drew ?_ | refine blk_alloc ?_ _)); exact BK176.out) hb); have n2_ := Aside0.mk (below_step (by repeat (first | (with_reducible first | exact HB.out | apply below_alloc | apply pw_below_drewN | apply below_drew1 | refine below_set ?_ GE176.out) | exact HB.out)) hb); have n3_ := Aside0.mk (hbox); have n4_ := Aside0.mk ((by rw [hg]; exact (below_size (by repeat (first | (with_reducible first | exact HB.out | apply below_alloc | apply pw_below_drewN | apply below_drew1 | refine below_set ?_ GE176.out) | exact HB.out))) : w.heap.size ≤ gb181)); have n5_ := Aside0.mk ((by rw [hg]; exact (below_size (by repeat (first | (with_reducible first | exact HB.out | apply below_alloc | apply pw_below_drewN | apply below_drew1 | refine below_set ?_ GE176.out) | exact HB.out))) : w.heap.size ≤ gb181)); have n6_ := Aside0.mk ((by rw [hg]; exact Nat.ne_of_lt (blk_lt (g := gb176) (o := .cells #[.int .u64 a0_0, .string a0_1, .slice (some ad180) l0_2.length c0_2] 25 (0, 0)) (by (with_reducible repeat (first | refine blk_drewN ?_ _ | refine blk_drew ?_ | refine blk_alloc ?_ _)); exact BK176.out)) : gb176 ≠ gb181)); have n7_ := Aside0.mk ((by rw [hg]; exact Nat.ne_of_gt (blk_lt (g := gb176) (o := .cells #[.int .u64 a0_0, .string a0_1, .slice (some ad180) l0_2.length c0_2] 25 (0, 0)) (by (with_reducible repeat (first | refine blk_drewN ?_ _ | refine blk_drew ?_ | refine blk_alloc ?_ _)); exact BK176.out)) : gb181 ≠ gb176)); clear HO_11; clear BK176; clear HB; have HO_11 := n0_; have BK176 := n1_; have HB := n2_; have BK181 := n3_; have GW181 := n4_; have GE181 := n5_; have NB176_181 := n6_; have NB181_176 := n7_; clear n0_ n1_ n2_ n3_ n4_ n5_ n6_ n7_; clear hb hbox hg; have hnb43 := NB181_176.out; have hnc43 := NB176_181.out; have hcz44_0 : w42.cell? ⟨gb181, 0, none⟩ = some (.int .i64 0) := (blk_cell BK181.out 0).trans rfl; have hcz44_1 : w42.cell? ⟨gb181, 1, none⟩ = some (.string (⟨#[]⟩ : ByteArray)) := (blk_cell BK181.out 1).trans rfl; have hfz44_0 := blk_frozen BK181.out 0; have hfz44_1 := blk_frozen BK181.out 1; have p182 : 0 ≤ (x12_3 : Int) := of_decide_eq_true (by first | (with_reducible assumption) | assumption); have q182 : x12_3 < (l1.length : Int) := of_decide_eq_true (by first | (with_reducible assumption) | assumption); obtain ⟨ad182, e182, hx182_0, hx182_1⟩ := at_T48 HR1.out x12_3 p182 q182; cases e182; have hn182_0 : ad182.block ≠ gb181 := Nat.ne_of_lt (Nat.lt_of_lt_of_le (by have := World.block_lt_of_cell? _ _ hx182_0; first | rwa [add_block] at this | exact this) GW181.out); have hn182_1 : ad182.block ≠ gb181 := Nat.ne_of_lt (Nat.lt_of_lt_of_le (by have := World.block_lt_of_cell? _ _ hx182_0; first | rwa [add_block] at this | exact this) GW181.out); replace hx182_0 := (HB.out.cell (World.block_lt_of_cell? w _ hx182_0)).trans hx182_0; replace hx182_1 := (HB.out.cell (World.block_lt_of_cell? w _ hx182_1)).trans hx182_1; replace hx182_0 := (cell_far (p := ⟨gb181, 0, none⟩) (by first | (rw [add_block]; exact hn182_0) | (show (Addr.add _ _).block ≠ _; rw [add_block]; exact hn182_0) | exact hn182_0) (.int .i64 ((rd_T40 l0_2 x14_4).f0))).trans hx182_0; replace hx182_1 := (cell_far (p := ⟨gb181, 0, none⟩) (by first | (rw [add_block]; exact hn182_0) | (show (Addr.add _ _).block ≠ _; rw [add_block]; exact hn182_0) | exact hn182_0) (.int .i64 ((rd_T40 l0_2 x14_4).f0))).trans hx182_1; replace hx182_0 := (cell_far (p := ⟨gb181, 1, none⟩) (by first | (rw [add_block]; exact hn182_1) | (show (Addr.add _ _).block ≠ _; rw [add_block]; exact hn182_1) | exact hn182_1) (.string ((rd_T40 l0_2 x14_4).f1))).trans hx182_0; replace hx182_1 := (cell_far (p := ⟨gb181, 1, none⟩) (by first | (rw [add_block]; exact hn182_1) | (show (Addr.add _ _).block ≠ _; rw [add_block]; exact hn182_1) | exact hn182_1) (.string ((rd_T40 l0_2 x14_4).f1))).trans hx182_1; (try have hy182_0 := fun (n_ : Nat) => (show ((((w42.drewN n_).setCell ⟨gb181, 0, none⟩ (.int .i64 ((rd_T40 l0_2 x14_4).f0))).setCell ⟨gb181, 1, none⟩ (.string ((rd_T40 l0_2 x14_4).f1)))).cell? _ = some _ from hx182_0)); (try have hy182_1 := fun (n_ : Nat) => (show ((((w42.drewN n_).setCell ⟨gb181, 0, none⟩ (.int .i64 ((rd_T40 l0_2 x14_4).f0))).setCell ⟨gb181, 1, none⟩ (.string ((rd_T40 l0_2 x14_4).f1)))).cell? _ = some _ from hx182_1)); clear hn182_0; clear hn182_1; replace p182 := eq_true p182; replace q182 := eq_true q182) | (go_at_call 15; (with_reducible refine (cellarerref04_Of.calls k4 ((rd_T40 l0_2 x14_4).f1) t183 _ A24.out).mono ?_); rintro e w' ⟨rfl, ⟨nd, rfl⟩⟩; (try first | exact ⟨rfl, _, World.drewN_drewN _ _ _⟩ | exact ⟨rfl, _, Eq.trans (World.drewN_drewN _ _ _) (congrArg (World.drewN _) (Nat.add_assoc _ _ _))⟩); have p184 : 0 ≤ (x12_3 : Int) := of_decide_eq_true (by first | (with_reducible assumption) | assumption); have q184 : x12_3 < (l1.length : Int) := of_decide_eq_true (by first | (with_reducible assumption) | assumption); obtain ⟨ad184, e184, hx184_0, hx184_1⟩ := at_T48 HR1.out x12_3 p184 q184; obtain rfl : ad182 = ad184 := (by injection e184); have hn184_0 : ad182.block ≠ gb181 := Nat.ne_of_lt (Nat.lt_of_lt_of_le (by have := World.block_lt_of_cell? _ _ hx184_0; first | rwa [add_block] at this | exact this) GW181.out); have hn184_1 : ad182.block ≠ gb181 := Nat.ne_of_lt (Nat.lt_of_lt_of_le (by have := World.block_lt_of_cell? _ _ hx184_0; first | rwa [add_block] at this | exact this) GW181.out); replace hx184_0 := (HB.out.cell (World.block_lt_of_cell? w _ hx184_0)).trans hx184_0; replace hx184_1 := (HB.out.cell (World.block_lt_of_cell? w _ hx184_1)).trans hx184_1; replace hx184_0 := (cell_far (p := ⟨gb181, 0, none⟩) (by first | (rw [add_block]; exact hn184_0) | (show (Addr.add _ _).block ≠ _; rw [add_block]; exact hn184_0) | exact hn184_0) (.int .i64 ((rd_T40 l0_2 x14_4).f0))).trans hx184_0; replace hx184_1 := (cell_far (p := ⟨gb181, 0, none⟩) (by first | (rw [add_block]; exact hn184_0) | (show (Addr.add _ _).block ≠ _; rw [add_block]; exact hn184_0) | exact hn184_0) (.int .i64 ((rd_T40 l0_2 x14_4).f0))).trans hx184_1; replace hx184_0 := (cell_far (p := ⟨gb181, 1, none⟩) (by first | (rw [add_block]; exact hn184_1) | (show (Addr.add _ _).block ≠ _; rw [add_block]; exact hn184_1) | exact hn184_1) (.string ((rd_T40 l0_2 x14_4).f1))).trans hx184_0; replace hx184_1 := (cell_far (p := ⟨gb181, 1, none⟩) (by first | (rw [add_block]; exact hn184_1) | (show (Addr.add _ _).block ≠ _; rw [add_block]; exact hn184_1) | exact hn184_1) (.string ((rd_T40 l0_2 x14_4).f1))).trans hx184_1; (try have hy184_0 := fun (n_ : Nat) => (show ((((w42.drewN n_).setCell ⟨gb181, 0, none⟩ (.int .i64 ((rd_T40 l0_2 x14_4).f0))).setCell ⟨gb181, 1, none⟩ (.string ((rd_T40 l0_2 x14_4).f1)))).cell? _ = some _ from hx184_0)); (try have hy184_1 := fun (n_ : Nat) => (show ((((w42.drewN n_).setCell ⟨gb181, 0, none⟩ (.int .i64 ((rd_T40 l0_2 x14_4).f0))).setCell ⟨gb181, 1, none⟩ (.string ((rd_T40 l0_2 x14_4).f1)))).cell? _ = some _ from hx184_1)); clear hn184_0; clear hn184_1; replace p184 := eq_true p184; replace q184 := eq_true q184)))
                                    go_roundg k4
                                    case measure => have := HJ2.out; have := HK2.out; have := HK3.out; have := HK4.out; omega
                                    case rel => exact ⟨(x8_4), (x9_4), (x13_4), (wrap64 (x14_4 + 1)), (by first | rfl | (simp; done) | (simp [*]; done)), (by first | rfl | (simp; done) | (simp [*]; done)), (by first | rfl | (simp; done) | (simp [*]; done)), (by first | rfl | (simp; done) | (simp [*]; done)), H', ⟨by have := HJ2.out; have := HK2.out; have := HK3.out; have := HK4.out; omega⟩, ⟨by (with_reducible repeat (first | apply Kd.R_alloc | apply Kd.R_drewN | apply Kd.R_drew)); exact Kd.R_mono (Kd.R_far (p := ⟨gb181, 1, none⟩) (Kd.R_far (p := ⟨gb181, 0, none⟩) (Kd.R_types HO_11.out BK181.out (by decide)) (fun _ hk => hk.2) (.int .i64 ((rd_T40 l0_2 x14_4).f0))) (fun _ hk => hk.2) (.string ((rd_T40 l0_2 x14_4).f1))) (fun _ hk => trivial)⟩, ⟨by (with_reducible repeat (first | refine blk_drewN ?_ _ | refine blk_drew ?_ | refine blk_alloc ?_ _)); refine blk_far ?_ NB176_181.out _; (with_reducible repeat (first | refine blk_drewN ?_ _ | refine blk_drew ?_ | refine blk_alloc ?_ _)); refine blk_far ?_ NB176_181.out _; (with_reducible repeat (first | refine blk_drewN ?_ _ | refine blk_drew ?_ | refine blk_alloc ?_ _)); exact BK176.out⟩, ⟨by repeat (first | (with_reducible first | exact HB.out | apply below_alloc | apply pw_below_drewN | apply below_drew1 | refine below_set ?_ GE176.out | refine below_set ?_ GE181.out) | exact HB.out)⟩⟩
                                · rw [if_neg c23] at H
                                  have c23b0 : (((rd_T40 l0_2 x14_4).f0) == ((rd_T48 l1 x12_3).f0)) = false := beq_eq_false_iff_ne.mpr c23
                                  have c23b1 : (((rd_T40 l0_2 x14_4).f0) != ((rd_T48 l1 x12_3).f0)) = true := bne_iff_ne.mpr c23
                                  have H' := Aside0.mk H
                                  clear H
                                  have hcz45_0 : wr.cell? ⟨gb176, 0, none⟩ = some (.int .u64 a0_0) := (blk_cell BK176.out 0).trans rfl
                                  have hcz45_1 : wr.cell? ⟨gb176, 1, none⟩ = some (.string a0_1) := (blk_cell BK176.out 1).trans rfl
                                  have hcz45_2 : wr.cell? ⟨gb176, 2, none⟩ = some (.slice A0_2 l0_2.length c0_2) := (blk_cell BK176.out 2).trans rfl
                                  have hfz45_0 := blk_frozen BK176.out 0
                                  have hfz45_1 := blk_frozen BK176.out 1
                                  have hfz45_2 := blk_frozen BK176.out 2
                                  have p180 : 0 ≤ (x14_4 : Int) := of_decide_eq_true (by first | (with_reducible assumption) | assumption)
                                  have q180 : x14_4 < (l0_2.length : Int) := of_decide_eq_true (by first | (with_reducible assumption) | assumption)
                                  obtain ⟨ad180, e180, hx180_0, hx180_1⟩ := at_T40 HR0_2.out x14_4 p180 q180
                                  cases e180
                                  replace hx180_0 := (HB.out.cell (World.block_lt_of_cell? w _ hx180_0)).trans hx180_0
                                  replace hx180_1 := (HB.out.cell (World.block_lt_of_cell? w _ hx180_1)).trans hx180_1
                                  replace p180 := eq_true p180
                                  replace q180 := eq_true q180
                                  go_wp2_with (first | ((with_reducible refine gate_dst (N := 15) rfl ?_); (try (refine gate_guard (by rfl) ?_; dsimp only)); refine box_event ?hg (N := 15) ?hd (cs := #[.int .i64 0, .string (⟨#[]⟩ : ByteArray)]) (t := 40) ?hr ?_; (case hd => rfl); (case hg => rfl); (case hr => first | (go_simp; done) | (go_simp; rfl)); intro gb181 hg w46 hbox hb; have n0_ := Aside0.mk (Kd.R_below (by (with_reducible repeat (first | apply Kd.R_alloc | apply Kd.R_drewN | apply Kd.R_drew)); exact HO_11.out) hb); have n1_ := Aside0.mk (blk_below (g := gb176) (o := .cells #[.int .u64 a0_0, .string a0_1, .slice (some ad180) l0_2.length c0_2] 25 (0, 0)) (by (with_reducible repeat (first | refine blk_drewN ?_ _ | refine blk_drew ?_ | refine blk_alloc ?_ _)); exact BK176.out) hb); have n2_ := Aside0.mk (below_step (by repeat (first | (with_reducible first | exact HB.out | apply below_alloc | apply pw_below_drewN | apply below_drew1 | refine below_set ?_ GE176.out) | exact HB.out)) hb); have n3_ := Aside0.mk (hbox); have n4_ := Aside0.mk ((by rw [hg]; exact (below_size (by repeat (first | (with_reducible first | exact HB.out | apply below_alloc | apply pw_below_drewN | apply below_drew1 | refine below_set ?_ GE176.out) | exact HB.out))) : w.heap.size ≤ gb181)); have n5_ := Aside0.mk ((by rw [hg]; exact (below_size (by repeat (first | (with_reducible first | exact HB.out | apply below_alloc | apply pw_below_drewN | apply below_drew1 | refine below_set ?_ GE176.out) | exact HB.out))) : w.heap.size ≤ gb181)); have n6_ := Aside0.mk ((by rw [hg]; exact Nat.ne_of_lt (blk_lt (g := gb176) (o := .cells #[.int .u64 a0_0, .string a0_1, .slice (some ad180) l0_2.length c0_2] 25 (0, 0)) (by (with_reducible repeat (first | refine blk_drewN ?_ _ | refine blk_drew ?_ | refine blk_alloc ?_ _)); exact BK176.out)) : gb176 ≠ gb181)); have n7_ := Aside0.mk ((by rw [hg]; exact Nat.ne_of_gt (blk_lt (g := gb176) (o := .cells #[.int .u64 a0_0, .string a0_1, .slice (some ad180) l0_2.length c0_2] 25 (0, 0)) (by (with_reducible repeat (first | refine blk_drewN ?_ _ | refine blk_drew ?_ | refine blk_alloc ?_ _)); exact BK176.out)) : gb181 ≠ gb176)); clear HO_11; clear BK176; clear HB; have HO_11 := n0_; have BK176 := n1_; have HB := n2_; have BK181 := n3_; have GW181 := n4_; have GE181 := n5_; have NB176_181 := n6_; have NB181_176 := n7_; clear n0_ n1_ n2_ n3_ n4_ n5_ n6_ n7_; clear hb hbox hg; have hnb47 := NB181_176.out; have hnc47 := NB176_181.out; have hcz48_0 : w46.cell? ⟨gb181, 0, none⟩ = some (.int .i64 0) := (blk_cell BK181.out 0).trans rfl; have hcz48_1 : w46.cell? ⟨gb181, 1, none⟩ = some (.string (⟨#[]⟩ : ByteArray)) := (blk_cell BK181.out 1).trans rfl; have hfz48_0 := blk_frozen BK181.out 0; have hfz48_1 := blk_frozen BK181.out 1; have p182 : 0 ≤ (x12_3 : Int) := of_decide_eq_true (by first | (with_reducible assumption) | assumption); have q182 : x12_3 < (l1.length : Int) := of_decide_eq_true (by first | (with_reducible assumption) | assumption); obtain ⟨ad182, e182, hx182_0, hx182_1⟩ := at_T48 HR1.out x12_3 p182 q182; cases e182; have hn182_0 : ad182.block ≠ gb181 := Nat.ne_of_lt (Nat.lt_of_lt_of_le (by have := World.block_lt_of_cell? _ _ hx182_0; first | rwa [add_block] at this | exact this) GW181.out); have hn182_1 : ad182.block ≠ gb181 := Nat.ne_of_lt (Nat.lt_of_lt_of_le (by have := World.block_lt_of_cell? _ _ hx182_0; first | rwa [add_block] at this | exact this) GW181.out); replace hx182_0 := (HB.out.cell (World.block_lt_of_cell? w _ hx182_0)).trans hx182_0; replace hx182_1 := (HB.out.cell (World.block_lt_of_cell? w _ hx182_1)).trans hx182_1; replace hx182_0 := (cell_far (p := ⟨gb181, 0, none⟩) (by first | (rw [add_block]; exact hn182_0) | (show (Addr.add _ _).block ≠ _; rw [add_block]; exact hn182_0) | exact hn182_0) (.int .i64 ((rd_T40 l0_2 x14_4).f0))).trans hx182_0; replace hx182_1 := (cell_far (p := ⟨gb181, 0, none⟩) (by first | (rw [add_block]; exact hn182_0) | (show (Addr.add _ _).block ≠ _; rw [add_block]; exact hn182_0) | exact hn182_0) (.int .i64 ((rd_T40 l0_2 x14_4).f0))).trans hx182_1; replace hx182_0 := (cell_far (p := ⟨gb181, 1, none⟩) (by first | (rw [add_block]; exact hn182_1) | (show (Addr.add _ _).block ≠ _; rw [add_block]; exact hn182_1) | exact hn182_1) (.string ((rd_T40 l0_2 x14_4).f1))).trans hx182_0; replace hx182_1 := (cell_far (p := ⟨gb181, 1, none⟩) (by first | (rw [add_block]; exact hn182_1) | (show (Addr.add _ _).block ≠ _; rw [add_block]; exact hn182_1) | exact hn182_1) (.string ((rd_T40 l0_2 x14_4).f1))).trans hx182_1; (try have hy182_0 := fun (n_ : Nat) => (show ((((w46.drewN n_).setCell ⟨gb181, 0, none⟩ (.int .i64 ((rd_T40 l0_2 x14_4).f0))).setCell ⟨gb181, 1, none⟩ (.string ((rd_T40 l0_2 x14_4).f1)))).cell? _ = some _ from hx182_0)); (try have hy182_1 := fun (n_ : Nat) => (show ((((w46.drewN n_).setCell ⟨gb181, 0, none⟩ (.int .i64 ((rd_T40 l0_2 x14_4).f0))).setCell ⟨gb181, 1, none⟩ (.string ((rd_T40 l0_2 x14_4).f1)))).cell? _ = some _ from hx182_1)); clear hn182_0; clear hn182_1; replace p182 := eq_true p182; replace q182 := eq_true q182))
                                  repeat (go_quiet (first | ((with_reducible refine gate_dst (N := 15) rfl ?_); (try (refine gate_guard (by rfl) ?_; dsimp only)); refine box_event ?hg (N := 15) ?hd (cs := #[.int .i64 0, .string (⟨#[]⟩ : ByteArray)]) (t := 40) ?hr ?_; (case hd => rfl); (case hg => rfl); (case hr => first | (go_simp; done) | (go_simp; rfl)); intro gb181 hg w46 hbox hb; have n0_ := Aside0.mk (Kd.R_below (by (with_reducible repeat (first | apply Kd.R_alloc | apply Kd.R_drewN | apply Kd.R_drew)); exact HO_11.out) hb); have n1_ := Aside0.mk (blk_below (g := gb176) (o := .cells #[.int .u64 a0_0, .string a0_1, .slice (some ad180) l0_2.length c0_2] 25 (0, 0)) (by (with_reducible repeat (first | refine blk_drewN ?_ _ | refine blk_drew ?_ | refine blk_alloc ?_ _)); exact BK176.out) hb); have n2_ := Aside0.mk (below_step (by repeat (first | (with_reducible first | exact HB.out | apply below_alloc | apply pw_below_drewN | apply below_drew1 | refine below_set ?_ GE176.out) | exact HB.out)) hb); have n3_ := Aside0.mk (hbox); have n4_ := Aside0.mk ((by rw [hg]; exact (below_size (by repeat (first | (with_reducible first | exact HB.out | apply below_alloc | apply pw_below_drewN | apply below_drew1 | refine below_set ?_ GE176.out) | exact HB.out))) : w.heap.size ≤ gb181)); have n5_ := Aside0.mk ((by rw [hg]; exact (below_size (by repeat (first | (with_reducible first | exact HB.out | apply below_alloc | apply pw_below_drewN | apply below_drew1 | refine below_set ?_ GE176.out) | exact HB.out))) : w.heap.size ≤ gb181)); have n6_ := Aside0.mk ((by rw [hg]; exact Nat.ne_of_lt (blk_lt (g := gb176) (o := .cells #[.int .u64 a0_0, .string a0_1, .slice (some ad180) l0_2.length c0_2] 25 (0, 0)) (by (with_reducible repeat (first | refine blk_drewN ?_ _ | refine blk_drew ?_ | refine blk_alloc ?_ _)); exact BK176.out)) : gb176 ≠ gb181)); have n7_ := Aside0.mk ((by rw [hg]; exact Nat.ne_of_gt (blk_lt (g := gb176) (o := .cells #[.int .u64 a0_0, .string a0_1, .slice (some ad180) l0_2.length c0_2] 25 (0, 0)) (by (with_reducible repeat (first | refine blk_drewN ?_ _ | refine blk_drew ?_ | refine blk_alloc ?_ _)); exact BK176.out)) : gb181 ≠ gb176)); clear HO_11; clear BK176; clear HB; have HO_11 := n0_; have BK176 := n1_; have HB := n2_; have BK181 := n3_; have GW181 := n4_; have GE181 := n5_; have NB176_181 := n6_; have NB181_176 := n7_; clear n0_ n1_ n2_ n3_ n4_ n5_ n6_ n7_; clear hb hbox hg; have hnb47 := NB181_176.out; have hnc47 := NB176_181.out; have hcz48_0 : w46.cell? ⟨gb181, 0, none⟩ = some (.int .i64 0) := (blk_cell BK181.out 0).trans rfl; have hcz48_1 : w46.cell? ⟨gb181, 1, none⟩ = some (.string (⟨#[]⟩ : ByteArray)) := (blk_cell BK181.out 1).trans rfl; have hfz48_0 := blk_frozen BK181.out 0; have hfz48_1 := blk_frozen BK181.out 1; have p182 : 0 ≤ (x12_3 : Int) := of_decide_eq_true (by first | (with_reducible assumption) | assumption); have q182 : x12_3 < (l1.length : Int) := of_decide_eq_true (by first | (with_reducible assumption) | assumption); obtain ⟨ad182, e182, hx182_0, hx182_1⟩ := at_T48 HR1.out x12_3 p182 q182; cases e182; have hn182_0 : ad182.block ≠ gb181 := Nat.ne_of_lt (Nat.lt_of_lt_of_le (by have := World.block_lt_of_cell? _ _ hx182_0; first | rwa [add_block] at this | exact this) GW181.out); have hn182_1 : ad182.block ≠ gb181 := Nat.ne_of_lt (Nat.lt_of_lt_of_le (by have := World.block_lt_of_cell? _ _ hx182_0; first | rwa [add_block] at this | exact this) GW181.out); replace hx182_0 := (HB.out.cell (World.block_lt_of_cell? w _ hx182_0)).trans hx182_0; replace hx182_1 := (HB.out.cell (World.block_lt_of_cell? w _ hx182_1)).trans hx182_1; replace hx182_0 := (cell_far (p := ⟨gb181, 0, none⟩) (by first | (rw [add_block]; exact hn182_0) | (show (Addr.add _ _).block ≠ _; rw [add_block]; exact hn182_0) | exact hn182_0) (.int .i64 ((rd_T40 l0_2 x14_4).f0))).trans hx182_0; replace hx182_1 := (cell_far (p := ⟨gb181, 0, none⟩) (by first | (rw [add_block]; exact hn182_0) | (show (Addr.add _ _).block ≠ _; rw [add_block]; exact hn182_0) | exact hn182_0) (.int .i64 ((rd_T40 l0_2 x14_4).f0))).trans hx182_1; replace hx182_0 := (cell_far (p := ⟨gb181, 1, none⟩) (by first | (rw [add_block]; exact hn182_1) | (show (Addr.add _ _).block ≠ _; rw [add_block]; exact hn182_1) | exact hn182_1) (.string ((rd_T40 l0_2 x14_4).f1))).trans hx182_0; replace hx182_1 := (cell_far (p := ⟨gb181, 1, none⟩) (by first | (rw [add_block]; exact hn182_1) | (show (Addr.add _ _).block ≠ _; rw [add_block]; exact hn182_1) | exact hn182_1) (.string ((rd_T40 l0_2 x14_4).f1))).trans hx182_1; (try have hy182_0 := fun (n_ : Nat) => (show ((((w46.drewN n_).setCell ⟨gb181, 0, none⟩ (.int .i64 ((rd_T40 l0_2 x14_4).f0))).setCell ⟨gb181, 1, none⟩ (.string ((rd_T40 l0_2 x14_4).f1)))).cell? _ = some _ from hx182_0)); (try have hy182_1 := fun (n_ : Nat) => (show ((((w46.drewN n_).setCell ⟨gb181, 0, none⟩ (.int .i64 ((rd_T40 l0_2 x14_4).f0))).setCell ⟨gb181, 1, none⟩ (.string ((rd_T40 l0_2 x14_4).f1)))).cell? _ = some _ from hx182_1)); clear hn182_0; clear hn182_1; replace p182 := eq_true p182; replace q182 := eq_true q182)); try go_wp2_with (first | ((with_reducible refine gate_dst (N := 15) rfl ?_); (try (refine gate_guard (by rfl) ?_; dsimp only)); refine box_event ?hg (N := 15) ?hd (cs := #[.int .i64 0, .string (⟨#[]⟩ : ByteArray)]) (t := 40) ?hr ?_; (case hd => rfl); (case hg => rfl); (case hr => first | (go_simp; done) | (go_simp; rfl)); intro gb181 hg w46 hbox hb; have n0_ := Aside0.mk (Kd.R_below (by (with_reducible repeat (first | apply Kd.R_alloc | apply Kd.R_drewN | apply Kd.R_drew)); exact HO_11.out) hb); have n1_ := Aside0.mk (blk_below (g := gb176) (o := .cells #[.int .u64 a0_0, .string a0_1, .slice (some ad180) l0_2.length c0_2] 25 (0, 0)) (by (with_reducible repeat (first | refine blk_drewN ?_ _ | refine blk_drew ?_ | refine blk_alloc ?_ _)); exact BK176.out) hb); have n2_ := Aside0.mk (below_step (by repeat (first | (with_reducible first | exact HB.out | apply below_alloc | apply pw_below_drewN | apply below_drew1 | refine below_set ?_ GE176.out) | exact HB.out)) hb); have n3_ := Aside0.mk (hbox); have n4_ := Aside0.mk ((by rw [hg]; exact (below_size (by repeat (first | (with_reducible first | exact HB.out | apply below_alloc | apply pw_below_drewN | apply below_drew1 | refine below_set ?_ GE176.out) | exact HB.out))) : w.heap.size ≤ gb181)); have n5_ := Aside0.mk ((by rw [hg]; exact (below_size (by repeat (first | (with_reducible first | exact HB.out | apply below_alloc | apply pw_below_drewN | apply below_drew1 | refine below_set ?_ GE176.out) | exact HB.out))) : w.heap.size ≤ gb181)); have n6_ := Aside0.mk ((by rw [hg]; exact Nat.ne_of_lt (blk_lt (g := gb176) (o := .cells #[.int .u64 a0_0, .string a0_1, .slice (some ad180) l0_2.length c0_2] 25 (0, 0)) (by (with_reducible repeat (first | refine blk_drewN ?_ _ | refine blk_drew ?_ | refine blk_alloc ?_ _)); exact BK176.out)) : gb176 ≠ gb181)); have n7_ := Aside0.mk ((by rw [hg]; exact Nat.ne_of_gt (blk_lt (g := gb176) (o := .cells #[.int .u64 a0_0, .string a0_1, .slice (some ad180) l0_2.length c0_2] 25 (0, 0)) (by (with_reducible repeat (first | refine blk_drewN ?_ _ | refine blk_drew ?_ | refine blk_alloc ?_ _)); exact BK176.out)) : gb181 ≠ gb176)); clear HO_11; clear BK176; clear HB; have HO_11 := n0_; have BK176 := n1_; have HB := n2_; have BK181 := n3_; have GW181 := n4_; have GE181 := n5_; have NB176_181 := n6_; have NB181_176 := n7_; clear n0_ n1_ n2_ n3_ n4_ n5_ n6_ n7_; clear hb hbox hg; have hnb47 := NB181_176.out; have hnc47 := NB176_181.out; have hcz48_0 : w46.cell? ⟨gb181, 0, none⟩ = some (.int .i64 0) := (blk_cell BK181.out 0).trans rfl; have hcz48_1 : w46.cell? ⟨gb181, 1, none⟩ = some (.string (⟨#[]⟩ : ByteArray)) := (blk_cell BK181.out 1).trans rfl; have hfz48_0 := blk_frozen BK181.out 0; have hfz48_1 := blk_frozen BK181.out 1; have p182 : 0 ≤ (x12_3 : Int) := of_decide_eq_true (by first | (with_reducible assumption) | assumption); have q182 : x12_3 < (l1.length : Int) := of_decide_eq_true (by first | (with_reducible assumption) | assumption); obtain ⟨ad182, e182, hx182_0, hx182_1⟩ := at_T48 HR1.out x12_3 p182 q182; cases e182; have hn182_0 : ad182.block ≠ gb181 := Nat.ne_of_lt (Nat.lt_of_lt_of_le (by have := World.block_lt_of_cell? _ _ hx182_0; first | rwa [add_block] at this | exact this) GW181.out); have hn182_1 : ad182.block ≠ gb181 := Nat.ne_of_lt (Nat.lt_of_lt_of_le (by have := World.block_lt_of_cell? _ _ hx182_0; first | rwa [add_block] at this | exact this) GW181.out); replace hx182_0 := (HB.out.cell (World.block_lt_of_cell? w _ hx182_0)).trans hx182_0; replace hx182_1 := (HB.out.cell (World.block_lt_of_cell? w _ hx182_1)).trans hx182_1; replace hx182_0 := (cell_far (p := ⟨gb181, 0, none⟩) (by first | (rw [add_block]; exact hn182_0) | (show (Addr.add _ _).block ≠ _; rw [add_block]; exact hn182_0) | exact hn182_0) (.int .i64 ((rd_T40 l0_2 x14_4).f0))).trans hx182_0; replace hx182_1 := (cell_far (p := ⟨gb181, 0, none⟩) (by first | (rw [add_block]; exact hn182_0) | (show (Addr.add _ _).block ≠ _; rw [add_block]; exact hn182_0) | exact hn182_0) (.int .i64 ((rd_T40 l0_2 x14_4).f0))).trans hx182_1; replace hx182_0 := (cell_far (p := ⟨gb181, 1, none⟩) (by first | (rw [add_block]; exact hn182_1) | (show (Addr.add _ _).block ≠ _; rw [add_block]; exact hn182_1) | exact hn182_1) (.string ((rd_T40 l0_2 x14_4).f1))).trans hx182_0; replace hx182_1 := (cell_far (p := ⟨gb181, 1, none⟩) (by first | (rw [add_block]; exact hn182_1) | (show (Addr.add _ _).block ≠ _; rw [add_block]; exact hn182_1) | exact hn182_1) (.string ((rd_T40 l0_2 x14_4).f1))).trans hx182_1; (try have hy182_0 := fun (n_ : Nat) => (show ((((w46.drewN n_).setCell ⟨gb181, 0, none⟩ (.int .i64 ((rd_T40 l0_2 x14_4).f0))).setCell ⟨gb181, 1, none⟩ (.string ((rd_T40 l0_2 x14_4).f1)))).cell? _ = some _ from hx182_0)); (try have hy182_1 := fun (n_ : Nat) => (show ((((w46.drewN n_).setCell ⟨gb181, 0, none⟩ (.int .i64 ((rd_T40 l0_2 x14_4).f0))).setCell ⟨gb181, 1, none⟩ (.string ((rd_T40 l0_2 x14_4).f1)))).cell? _ = some _ from hx182_1)); clear hn182_0; clear hn182_1; replace p182 := eq_true p182; replace q182 := eq_true q182)))
                                  go_roundg k4
                                  case measure => have := HJ2.out; have := HK2.out; have := HK3.out; have := HK4.out; omega
                                  case rel => exact ⟨(x8_4), (x9_4), (x13_4), (wrap64 (x14_4 + 1)), (by first | rfl | (simp; done) | (simp [*]; done)), (by first | rfl | (simp; done) | (simp [*]; done)), (by first | rfl | (simp; done) | (simp [*]; done)), (by first | rfl | (simp; done) | (simp [*]; done)), H', ⟨by have := HJ2.out; have := HK2.out; have := HK3.out; have := HK4.out; omega⟩, ⟨by (with_reducible repeat (first | apply Kd.R_alloc | apply Kd.R_drewN | apply Kd.R_drew)); exact Kd.R_mono (Kd.R_far (p := ⟨gb181, 1, none⟩) (Kd.R_far (p := ⟨gb181, 0, none⟩) (Kd.R_types HO_11.out BK181.out (by decide)) (fun _ hk => hk.2) (.int .i64 ((rd_T40 l0_2 x14_4).f0))) (fun _ hk => hk.2) (.string ((rd_T40 l0_2 x14_4).f1))) (fun _ hk => trivial)⟩, ⟨by (with_reducible repeat (first | refine blk_drewN ?_ _ | refine blk_drew ?_ | refine blk_alloc ?_ _)); refine blk_far ?_ NB176_181.out _; (with_reducible repeat (first | refine blk_drewN ?_ _ | refine blk_drew ?_ | refine blk_alloc ?_ _)); refine blk_far ?_ NB176_181.out _; (with_reducible repeat (first | refine blk_drewN ?_ _ | refine blk_drew ?_ | refine blk_alloc ?_ _)); exact BK176.out⟩, ⟨by repeat (first | (with_reducible first | exact HB.out | apply below_alloc | apply pw_below_drewN | apply below_drew1 | refine below_set ?_ GE176.out | refine below_set ?_ GE181.out) | exact HB.out)⟩⟩
                              · rw [if_neg c22] at H
                                exact absurd H (by simp)
                            · rw [if_neg c21] at H
                              exact absurd H (by simp)
                          · rw [if_neg c20] at H
                            exact absurd H (by simp)
                        · rw [if_neg c19] at H
                          have c19b0 : decide (x14_4 < (l0_2.length : Int)) = false := decide_eq_false c19
                          clear c19
                          by_cases c49 : x10_3 = true
                          · subst c49
                            have H1 : (if 0 ≤ x12_3 then (if x12_3 < (l1.length : Int) then (if x11_3.length < 35184372088832 then (cellarerref08_Whole.l1 k4 l1 x8_4 x9_4 true (x11_3 ++ [(rd_T48 l1 x12_3).f1]) (wrap64 (x12_3 + 1)) a0_0 a0_1 l0_2) else (none)) else (none)) else (none)) = some (r1, r2, r3) := by rw [if_pos rfl] at H; exact H
                            clear H
                            have H := H1
                            clear H1
                            by_cases c50 : 0 ≤ x12_3
                            · rw [if_pos c50] at H
                              have c50b0 : decide (0 ≤ x12_3) = true := decide_eq_true c50
                              clear c50
                              by_cases c51 : x12_3 < (l1.length : Int)
                              · rw [if_pos c51] at H
                                have c51b0 : decide (x12_3 < (l1.length : Int)) = true := decide_eq_true c51
                                clear c51
                                by_cases c52 : x11_3.length < 35184372088832
                                · rw [if_pos c52] at H
                                  have LMc52 := Aside0.mk c52
                                  clear c52
                                  obtain ⟨y186, hy186⟩ : ∃ y_ : List Int, y_ = (x11_3 ++ [(rd_T48 l1 x12_3).f1]) := ⟨_, rfl⟩
                                  replace H : (cellarerref08_Whole.l1 k4 l1 x8_4 x9_4 true y186 (wrap64 (x12_3 + 1)) a0_0 a0_1 l0_2) = some (r1, r2, r3) := by first | (rw [hy186]; with_reducible exact H) | (have H2_ := (Option.bind_some _ _).symm.trans H; rw [hy186]; with_reducible exact H2_) | (have H2_ := (Option.bind_some _ _).symm.trans H; with_reducible exact H2_) | with_reducible exact H | (rw [hy186]; exact H) | exact H
                                  have Ny186 := Aside0.mk hy186
                                  clear hy186
                                  have H' := Aside0.mk H
                                  clear H
                                  have hcz53_0 : wr.cell? ⟨gb176, 0, none⟩ = some (.int .u64 a0_0) := (blk_cell BK176.out 0).trans rfl
                                  have hcz53_1 : wr.cell? ⟨gb176, 1, none⟩ = some (.string a0_1) := (blk_cell BK176.out 1).trans rfl
                                  have hcz53_2 : wr.cell? ⟨gb176, 2, none⟩ = some (.slice A0_2 l0_2.length c0_2) := (blk_cell BK176.out 2).trans rfl
                                  have hfz53_0 := blk_frozen BK176.out 0
                                  have hfz53_1 := blk_frozen BK176.out 1
                                  have hfz53_2 := blk_frozen BK176.out 2
                                  have p185 : 0 ≤ (x12_3 : Int) := of_decide_eq_true (by first | (with_reducible assumption) | assumption)
                                  have q185 : x12_3 < (l1.length : Int) := of_decide_eq_true (by first | (with_reducible assumption) | assumption)
                                  obtain ⟨ad185, e185, hx185_0, hx185_1⟩ := at_T48 HR1.out x12_3 p185 q185
                                  cases e185
                                  replace hx185_0 := (HB.out.cell (World.block_lt_of_cell? w _ hx185_0)).trans hx185_0
                                  replace hx185_1 := (HB.out.cell (World.block_lt_of_cell? w _ hx185_1)).trans hx185_1
                                  replace p185 := eq_true p185
                                  replace q185 := eq_true q185
                                  go_wp2_with (first | ((with_reducible refine gate_builtin (b := .append) (xs := #[.tmp 102, .tmp 108]) rfl ?_); (try (refine gate_guard (by rfl) ?_; dsimp only)); at_builtin; refine Kd.R_append (Kd.int .u32) (w0 := w) w.heap.size rfl (.tmp 102) (.tmp 108) 67 42 (.int .u32 0) 4 rfl Tryd.underlying67 info42 rfl (by decide) (by omega) u11 x11_3 ((rd_T48 l1 x12_3).f1) [.int .u32 ((rd_T48 l1 x12_3).f1)] (fun _ => True) (fun _ => False) rfl rfl ?aP (fun _ hk => hk.elim) ?aF ?aO ?aB ?aS ?aL ?_; (case aP => exact rfl); (case aB => exact (by repeat (first | (with_reducible first | exact HB.out | apply below_alloc | apply pw_below_drewN | apply below_drew1 | refine below_set ?_ GE176.out) | exact HB.out))); (case aF => exact (fun _ _ => trivial)); (case aO => exact (by (with_reducible repeat (first | apply Kd.R_alloc | apply Kd.R_drewN | apply Kd.R_drew)); exact HO_11.out)); (case aS => exact (below_size (by repeat (first | (with_reducible first | exact HB.out | apply below_alloc | apply pw_below_drewN | apply below_drew1 | refine below_set ?_ GE176.out) | exact HB.out)))); (case aL => have := LMc52.out; omega); intro v187 w54 ho hb hg hat; rw [← Ny186.out] at ho; have n0_ := Aside0.mk (blk_grown (g := gb176) (o := .cells #[.int .u64 a0_0, .string a0_1, .slice A0_2 l0_2.length c0_2] 25 (0, 0)) (by (with_reducible repeat (first | refine blk_drewN ?_ _ | refine blk_drew ?_ | refine blk_alloc ?_ _)); exact BK176.out) hg (Kd.R_ne HO_11.out BK176.out (by decide))); have n1_ := Aside0.mk (hb); have n2_ := Aside0.mk (ho); clear BK176; clear HB; clear HO_11; have BK176 := n0_; have HB := n1_; have HO188 := n2_; clear n0_ n1_ n2_; clear ho hb hg hat))
                                  repeat (go_quiet (first | ((with_reducible refine gate_builtin (b := .append) (xs := #[.tmp 102, .tmp 108]) rfl ?_); (try (refine gate_guard (by rfl) ?_; dsimp only)); at_builtin; refine Kd.R_append (Kd.int .u32) (w0 := w) w.heap.size rfl (.tmp 102) (.tmp 108) 67 42 (.int .u32 0) 4 rfl Tryd.underlying67 info42 rfl (by decide) (by omega) u11 x11_3 ((rd_T48 l1 x12_3).f1) [.int .u32 ((rd_T48 l1 x12_3).f1)] (fun _ => True) (fun _ => False) rfl rfl ?aP (fun _ hk => hk.elim) ?aF ?aO ?aB ?aS ?aL ?_; (case aP => exact rfl); (case aB => exact (by repeat (first | (with_reducible first | exact HB.out | apply below_alloc | apply pw_below_drewN | apply below_drew1 | refine below_set ?_ GE176.out) | exact HB.out))); (case aF => exact (fun _ _ => trivial)); (case aO => exact (by (with_reducible repeat (first | apply Kd.R_alloc | apply Kd.R_drewN | apply Kd.R_drew)); exact HO_11.out)); (case aS => exact (below_size (by repeat (first | (with_reducible first | exact HB.out | apply below_alloc | apply pw_below_drewN | apply below_drew1 | refine below_set ?_ GE176.out) | exact HB.out)))); (case aL => have := LMc52.out; omega); intro v187 w54 ho hb hg hat; rw [← Ny186.out] at ho; have n0_ := Aside0.mk (blk_grown (g := gb176) (o := .cells #[.int .u64 a0_0, .string a0_1, .slice A0_2 l0_2.length c0_2] 25 (0, 0)) (by (with_reducible repeat (first | refine blk_drewN ?_ _ | refine blk_drew ?_ | refine blk_alloc ?_ _)); exact BK176.out) hg (Kd.R_ne HO_11.out BK176.out (by decide))); have n1_ := Aside0.mk (hb); have n2_ := Aside0.mk (ho); clear BK176; clear HB; clear HO_11; have BK176 := n0_; have HB := n1_; have HO188 := n2_; clear n0_ n1_ n2_; clear ho hb hg hat)); try go_wp2_with (first | ((with_reducible refine gate_builtin (b := .append) (xs := #[.tmp 102, .tmp 108]) rfl ?_); (try (refine gate_guard (by rfl) ?_; dsimp only)); at_builtin; refine Kd.R_append (Kd.int .u32) (w0 := w) w.heap.size rfl (.tmp 102) (.tmp 108) 67 42 (.int .u32 0) 4 rfl Tryd.underlying67 info42 rfl (by decide) (by omega) u11 x11_3 ((rd_T48 l1 x12_3).f1) [.int .u32 ((rd_T48 l1 x12_3).f1)] (fun _ => True) (fun _ => False) rfl rfl ?aP (fun _ hk => hk.elim) ?aF ?aO ?aB ?aS ?aL ?_; (case aP => exact rfl); (case aB => exact (by repeat (first | (with_reducible first | exact HB.out | apply below_alloc | apply pw_below_drewN | apply below_drew1 | refine below_set ?_ GE176.out) | exact HB.out))); (case aF => exact (fun _ _ => trivial)); (case aO => exact (by (with_reducible repeat (first | apply Kd.R_alloc | apply Kd.R_drewN | apply Kd.R_drew)); exact HO_11.out)); (case aS => exact (below_size (by repeat (first | (with_reducible first | exact HB.out | apply below_alloc | apply pw_below_drewN | apply below_drew1 | refine below_set ?_ GE176.out) | exact HB.out)))); (case aL => have := LMc52.out; omega); intro v187 w54 ho hb hg hat; rw [← Ny186.out] at ho; have n0_ := Aside0.mk (blk_grown (g := gb176) (o := .cells #[.int .u64 a0_0, .string a0_1, .slice A0_2 l0_2.length c0_2] 25 (0, 0)) (by (with_reducible repeat (first | refine blk_drewN ?_ _ | refine blk_drew ?_ | refine blk_alloc ?_ _)); exact BK176.out) hg (Kd.R_ne HO_11.out BK176.out (by decide))); have n1_ := Aside0.mk (hb); have n2_ := Aside0.mk (ho); clear BK176; clear HB; clear HO_11; have BK176 := n0_; have HB := n1_; have HO188 := n2_; clear n0_ n1_ n2_; clear ho hb hg hat)))
                                  go_roundg k4
                                  case measure => have := HJ2.out; have := HK2.out; have := HK3.out; have := HK4.out; omega
                                  case rel => exact ⟨(x8_4), (x9_4), (true), (y186), (wrap64 (x12_3 + 1)), (by first | rfl | (simp; done) | (simp [*]; done)), (by first | rfl | (simp; done) | (simp [*]; done)), (by first | rfl | (simp; done) | (simp [*]; done)), (by first | rfl | (simp; done) | (simp [*]; done)), H', ⟨by have := HJ2.out; have := HK2.out; have := HK3.out; have := HK4.out; omega⟩, ⟨by (with_reducible repeat (first | apply Kd.R_alloc | apply Kd.R_drewN | apply Kd.R_drew)); exact HO188.out⟩, ⟨by (with_reducible repeat (first | refine blk_drewN ?_ _ | refine blk_drew ?_ | refine blk_alloc ?_ _)); exact BK176.out⟩, ⟨by repeat (first | (with_reducible first | exact HB.out | apply below_alloc | apply pw_below_drewN | apply below_drew1 | refine below_set ?_ GE176.out) | exact HB.out)⟩⟩
                                · rw [if_neg c52] at H
                                  exact absurd H (by simp)
                              · rw [if_neg c51] at H
                                exact absurd H (by simp)
                            · rw [if_neg c50] at H
                              exact absurd H (by simp)
                          · replace c49 := Bool.eq_false_iff.mpr c49
                            subst c49
                            have H1 : (if 0 ≤ x12_3 then (if x12_3 < (l1.length : Int) then (if x11_3.length < 35184372088832 then (cellarerref08_Whole.l1 k4 l1 x8_4 x9_4 (!x13_4) (x11_3 ++ [(rd_T48 l1 x12_3).f1]) (wrap64 (x12_3 + 1)) a0_0 a0_1 l0_2) else (none)) else (none)) else (none)) = some (r1, r2, r3) := by rw [if_neg (show ¬ (false = true) by decide)] at H; exact H
                            clear H
                            have H := H1
                            clear H1
                            by_cases c55 : 0 ≤ x12_3
                            · rw [if_pos c55] at H
                              have c55b0 : decide (0 ≤ x12_3) = true := decide_eq_true c55
                              clear c55
                              by_cases c56 : x12_3 < (l1.length : Int)
                              · rw [if_pos c56] at H
                                have c56b0 : decide (x12_3 < (l1.length : Int)) = true := decide_eq_true c56
                                clear c56
                                by_cases c57 : x11_3.length < 35184372088832
                                · rw [if_pos c57] at H
                                  have LMc57 := Aside0.mk c57
                                  clear c57
                                  obtain ⟨y190, hy190⟩ : ∃ y_ : List Int, y_ = (x11_3 ++ [(rd_T48 l1 x12_3).f1]) := ⟨_, rfl⟩
                                  replace H : (cellarerref08_Whole.l1 k4 l1 x8_4 x9_4 (!x13_4) y190 (wrap64 (x12_3 + 1)) a0_0 a0_1 l0_2) = some (r1, r2, r3) := by first | (rw [hy190]; with_reducible exact H) | (have H2_ := (Option.bind_some _ _).symm.trans H; rw [hy190]; with_reducible exact H2_) | (have H2_ := (Option.bind_some _ _).symm.trans H; with_reducible exact H2_) | with_reducible exact H | (rw [hy190]; exact H) | exact H
                                  have Ny190 := Aside0.mk hy190
                                  clear hy190
                                  have H' := Aside0.mk H
                                  clear H
                                  have hcz58_0 : wr.cell? ⟨gb176, 0, none⟩ = some (.int .u64 a0_0) := (blk_cell BK176.out 0).trans rfl
                                  have hcz58_1 : wr.cell? ⟨gb176, 1, none⟩ = some (.string a0_1) := (blk_cell BK176.out 1).trans rfl
                                  have hcz58_2 : wr.cell? ⟨gb176, 2, none⟩ = some (.slice A0_2 l0_2.length c0_2) := (blk_cell BK176.out 2).trans rfl
                                  have hfz58_0 := blk_frozen BK176.out 0
                                  have hfz58_1 := blk_frozen BK176.out 1
                                  have hfz58_2 := blk_frozen BK176.out 2
                                  have p189 : 0 ≤ (x12_3 : Int) := of_decide_eq_true (by first | (with_reducible assumption) | assumption)
                                  have q189 : x12_3 < (l1.length : Int) := of_decide_eq_true (by first | (with_reducible assumption) | assumption)
                                  obtain ⟨ad189, e189, hx189_0, hx189_1⟩ := at_T48 HR1.out x12_3 p189 q189
                                  cases e189
                                  replace hx189_0 := (HB.out.cell (World.block_lt_of_cell? w _ hx189_0)).trans hx189_0
                                  replace hx189_1 := (HB.out.cell (World.block_lt_of_cell? w _ hx189_1)).trans hx189_1
                                  replace p189 := eq_true p189
                                  replace q189 := eq_true q189
                                  go_wp2_with (first | ((with_reducible refine gate_builtin (b := .append) (xs := #[.tmp 102, .tmp 108]) rfl ?_); (try (refine gate_guard (by rfl) ?_; dsimp only)); at_builtin; refine Kd.R_append (Kd.int .u32) (w0 := w) w.heap.size rfl (.tmp 102) (.tmp 108) 67 42 (.int .u32 0) 4 rfl Tryd.underlying67 info42 rfl (by decide) (by omega) u11 x11_3 ((rd_T48 l1 x12_3).f1) [.int .u32 ((rd_T48 l1 x12_3).f1)] (fun _ => True) (fun _ => False) rfl rfl ?aP (fun _ hk => hk.elim) ?aF ?aO ?aB ?aS ?aL ?_; (case aP => exact rfl); (case aB => exact (by repeat (first | (with_reducible first | exact HB.out | apply below_alloc | apply pw_below_drewN | apply below_drew1 | refine below_set ?_ GE176.out) | exact HB.out))); (case aF => exact (fun _ _ => trivial)); (case aO => exact (by (with_reducible repeat (first | apply Kd.R_alloc | apply Kd.R_drewN | apply Kd.R_drew)); exact HO_11.out)); (case aS => exact (below_size (by repeat (first | (with_reducible first | exact HB.out | apply below_alloc | apply pw_below_drewN | apply below_drew1 | refine below_set ?_ GE176.out) | exact HB.out)))); (case aL => have := LMc57.out; omega); intro v191 w59 ho hb hg hat; rw [← Ny190.out] at ho; have n0_ := Aside0.mk (blk_grown (g := gb176) (o := .cells #[.int .u64 a0_0, .string a0_1, .slice A0_2 l0_2.length c0_2] 25 (0, 0)) (by (with_reducible repeat (first | refine blk_drewN ?_ _ | refine blk_drew ?_ | refine blk_alloc ?_ _)); exact BK176.out) hg (Kd.R_ne HO_11.out BK176.out (by decide))); have n1_ := Aside0.mk (hb); have n2_ := Aside0.mk (ho); clear BK176; clear HB; clear HO_11; have BK176 := n0_; have HB := n1_; have HO192 := n2_; clear n0_ n1_ n2_; clear ho hb hg hat))
                                  repeat (go_quiet (first | ((with_reducible refine gate_builtin (b := .append) (xs := #[.tmp 102, .tmp 108]) rfl ?_); (try (refine gate_guard (by rfl) ?_; dsimp only)); at_builtin; refine Kd.R_append (Kd.int .u32) (w0 := w) w.heap.size rfl (.tmp 102) (.tmp 108) 67 42 (.int .u32 0) 4 rfl Tryd.underlying67 info42 rfl (by decide) (by omega) u11 x11_3 ((rd_T48 l1 x12_3).f1) [.int .u32 ((rd_T48 l1 x12_3).f1)] (fun _ => True) (fun _ => False) rfl rfl ?aP (fun _ hk => hk.elim) ?aF ?aO ?aB ?aS ?aL ?_; (case aP => exact rfl); (case aB => exact (by repeat (first | (with_reducible first | exact HB.out | apply below_alloc | apply pw_below_drewN | apply below_drew1 | refine below_set ?_ GE176.out) | exact HB.out))); (case aF => exact (fun _ _ => trivial)); (case aO => exact (by (with_reducible repeat (first | apply Kd.R_alloc | apply Kd.R_drewN | apply Kd.R_drew)); exact HO_11.out)); (case aS => exact (below_size (by repeat (first | (with_reducible first | exact HB.out | apply below_alloc | apply pw_below_drewN | apply below_drew1 | refine below_set ?_ GE176.out) | exact HB.out)))); (case aL => have := LMc57.out; omega); intro v191 w59 ho hb hg hat; rw [← Ny190.out] at ho; have n0_ := Aside0.mk (blk_grown (g := gb176) (o := .cells #[.int .u64 a0_0, .string a0_1, .slice A0_2 l0_2.length c0_2] 25 (0, 0)) (by (with_reducible repeat (first | refine blk_drewN ?_ _ | refine blk_drew ?_ | refine blk_alloc ?_ _)); exact BK176.out) hg (Kd.R_ne HO_11.out BK176.out (by decide))); have n1_ := Aside0.mk (hb); have n2_ := Aside0.mk (ho); clear BK176; clear HB; clear HO_11; have BK176 := n0_; have HB := n1_; have HO192 := n2_; clear n0_ n1_ n2_; clear ho hb hg hat)); try go_wp2_with (first | ((with_reducible refine gate_builtin (b := .append) (xs := #[.tmp 102, .tmp 108]) rfl ?_); (try (refine gate_guard (by rfl) ?_; dsimp only)); at_builtin; refine Kd.R_append (Kd.int .u32) (w0 := w) w.heap.size rfl (.tmp 102) (.tmp 108) 67 42 (.int .u32 0) 4 rfl Tryd.underlying67 info42 rfl (by decide) (by omega) u11 x11_3 ((rd_T48 l1 x12_3).f1) [.int .u32 ((rd_T48 l1 x12_3).f1)] (fun _ => True) (fun _ => False) rfl rfl ?aP (fun _ hk => hk.elim) ?aF ?aO ?aB ?aS ?aL ?_; (case aP => exact rfl); (case aB => exact (by repeat (first | (with_reducible first | exact HB.out | apply below_alloc | apply pw_below_drewN | apply below_drew1 | refine below_set ?_ GE176.out) | exact HB.out))); (case aF => exact (fun _ _ => trivial)); (case aO => exact (by (with_reducible repeat (first | apply Kd.R_alloc | apply Kd.R_drewN | apply Kd.R_drew)); exact HO_11.out)); (case aS => exact (below_size (by repeat (first | (with_reducible first | exact HB.out | apply below_alloc | apply pw_below_drewN | apply below_drew1 | refine below_set ?_ GE176.out) | exact HB.out)))); (case aL => have := LMc57.out; omega); intro v191 w59 ho hb hg hat; rw [← Ny190.out] at ho; have n0_ := Aside0.mk (blk_grown (g := gb176) (o := .cells #[.int .u64 a0_0, .string a0_1, .slice A0_2 l0_2.length c0_2] 25 (0, 0)) (by (with_reducible repeat (first | refine blk_drewN ?_ _ | refine blk_drew ?_ | refine blk_alloc ?_ _)); exact BK176.out) hg (Kd.R_ne HO_11.out BK176.out (by decide))); have n1_ := Aside0.mk (hb); have n2_ := Aside0.mk (ho); clear BK176; clear HB; clear HO_11; have BK176 := n0_; have HB := n1_; have HO192 := n2_; clear n0_ n1_ n2_; clear ho hb hg hat)))
                                  go_roundg k4
                                  case measure => have := HJ2.out; have := HK2.out; have := HK3.out; have := HK4.out; omega
                                  case rel => exact ⟨(x8_4), (x9_4), (!x13_4), (y190), (wrap64 (x12_3 + 1)), (by first | rfl | (simp; done) | (simp [*]; done)), (by first | rfl | (simp; done) | (simp [*]; done)), (by first | rfl | (simp; done) | (simp [*]; done)), (by first | rfl | (simp; done) | (simp [*]; done)), H', ⟨by have := HJ2.out; have := HK2.out; have := HK3.out; have := HK4.out; omega⟩, ⟨by (with_reducible repeat (first | apply Kd.R_alloc | apply Kd.R_drewN | apply Kd.R_drew)); exact HO192.out⟩, ⟨by (with_reducible repeat (first | refine blk_drewN ?_ _ | refine blk_drew ?_ | refine blk_alloc ?_ _)); exact BK176.out⟩, ⟨by repeat (first | (with_reducible first | exact HB.out | apply below_alloc | apply pw_below_drewN | apply below_drew1 | refine below_set ?_ GE176.out) | exact HB.out)⟩⟩
                                · rw [if_neg c57] at H
                                  exact absurd H (by simp)
                              · rw [if_neg c56] at H
                                exact absurd H (by simp)
                            · rw [if_neg c55] at H
                              exact absurd H (by simp)
                  · rw [if_neg c18] at H
                    have c18b0 : decide (x12_3 < (l1.length : Int)) = false := decide_eq_false c18
                    clear c18
                    by_cases c60 : x10_3 = true
                    · subst c60
                      have H1 : (some ((⟨#[]⟩ : ByteArray), (⟨#[]⟩ : ByteArray), 4)) = some (r1, r2, r3) := by rw [if_pos rfl] at H; exact H
                      clear H
                      have H := H1
                      clear H1
                      simp only [Option.some.injEq, Prod.mk.injEq] at H
                      obtain ⟨rfl, rfl, rfl⟩ := H
                      go_wp2
                      repeat (go_quiet (fail); try go_wp2)
                      go_ret3
                      exact ⟨by first | rfl | (simp [errW_none, errW_some] <;> rfl) | (simp [*, errW_none, errW_some] <;> rfl), by repeat (first | (with_reducible first | exact HB.out | apply below_alloc | apply pw_below_drewN | apply below_drew1 | refine below_set ?_ GE176.out) | exact HB.out)⟩
                    · replace c60 := Bool.eq_false_iff.mpr c60
                      subst c60
                      have H1 : (if x9_3 = true then (some ((⟨#[]⟩ : ByteArray), (⟨#[]⟩ : ByteArray), 3)) else (if (x8_3.size : Int) > 2000 then (some ((⟨#[]⟩ : ByteArray), (⟨#[]⟩ : ByteArray), 6)) else ((cellarerref04_Many.f k3 x11_3).bind fun t193 => (some (x8_3, t193, 0))))) = some (r1, r2, r3) := by rw [if_neg (show ¬ (false = true) by decide)] at H; exact H
                      clear H
                      have H := H1
                      clear H1
                      by_cases c61 : x9_3 = true
                      · subst c61
                        have H1 : (some ((⟨#[]⟩ : ByteArray), (⟨#[]⟩ : ByteArray), 3)) = some (r1, r2, r3) := by rw [if_pos rfl] at H; exact H
                        clear H
                        have H := H1
                        clear H1
                        simp only [Option.some.injEq, Prod.mk.injEq] at H
                        obtain ⟨rfl, rfl, rfl⟩ := H
                        go_wp2
                        repeat (go_quiet (fail); try go_wp2)
                        go_ret3
                        exact ⟨by first | rfl | (simp [errW_none, errW_some] <;> rfl) | (simp [*, errW_none, errW_some] <;> rfl), by repeat (first | (with_reducible first | exact HB.out | apply below_alloc | apply pw_below_drewN | apply below_drew1 | refine below_set ?_ GE176.out) | exact HB.out)⟩
                      · replace c61 := Bool.eq_false_iff.mpr c61
                        subst c61
                        have H1 : (if (x8_3.size : Int) > 2000 then (some ((⟨#[]⟩ : ByteArray), (⟨#[]⟩ : ByteArray), 6)) else ((cellarerref04_Many.f k3 x11_3).bind fun t193 => (some (x8_3, t193, 0)))) = some (r1, r2, r3) := by rw [if_neg (show ¬ (false = true) by decide)] at H; exact H
                        clear H
                        have H := H1
                        clear H1
                        by_cases c62 : (x8_3.size : Int) > 2000
                        · rw [if_pos c62] at H
                          have c62b0 : decide (2000 < (x8_3.size : Int)) = true := decide_eq_true c62
                          have c62b1 : decide (2000 < x8_3.size) = true := decide_eq_true (by omega)
                          clear c62
                          simp only [Option.some.injEq, Prod.mk.injEq] at H
                          obtain ⟨rfl, rfl, rfl⟩ := H
                          go_wp2
                          repeat (go_quiet (fail); try go_wp2)
                          go_ret3
                          exact ⟨by first | rfl | (simp [errW_none, errW_some] <;> rfl) | (simp [*, errW_none, errW_some] <;> rfl), by repeat (first | (with_reducible first | exact HB.out | apply below_alloc | apply pw_below_drewN | apply below_drew1 | refine below_set ?_ GE176.out) | exact HB.out)⟩
                        · rw [if_neg c62] at H
                          have c62b0 : decide (2000 < (x8_3.size : Int)) = false := decide_eq_false c62
                          have c62b1 : decide (2000 < x8_3.size) = false := decide_eq_false (by omega)
                          clear c62
                          replace H := Option.bind_eq_some_iff.mp H
                          obtain ⟨t193, A630, H⟩ := H
                          replace H : (some (x8_3, t193, 0)) = some (r1, r2, r3) := H
                          have A63 := Aside0.mk A630
                          clear A630
                          simp only [Option.some.injEq, Prod.mk.injEq] at H
                          obtain ⟨rfl, rfl, rfl⟩ := H
                          obtain ⟨Ao64, co64, eo64⟩ := Kd.R_slice HO_11.out
                          subst eo64
                          go_wp2_with (first | (go_at_call 31; (with_reducible refine (cellarerref04_Many.calls k3 _ _ x11_3 t193 _ ?side1 ?side2 A63.out).mono ?_); (case side1 => repeat (first | exact (Kd.R_reads' HO_11.out).2.2 | (with_reducible refine Kd.C_alloc ?_ _) | (with_reducible refine Kd.C_drewN ?_ _) | (with_reducible refine Kd.C_drew ?_))); (case side2 => exact (Kd.R_reads' HO_11.out).2.1); rintro e w65 ⟨rfl, hb⟩; have n0_ := Aside0.mk (Kd.R_below (by (with_reducible repeat (first | apply Kd.R_alloc | apply Kd.R_drewN | apply Kd.R_drew)); exact HO_11.out) hb); have n1_ := Aside0.mk (blk_below (g := gb176) (o := .cells #[.int .u64 a0_0, .string a0_1, .slice A0_2 l0_2.length c0_2] 25 (0, 0)) (by (with_reducible repeat (first | refine blk_drewN ?_ _ | refine blk_drew ?_ | refine blk_alloc ?_ _)); exact BK176.out) hb); have n2_ := Aside0.mk (below_step (by repeat (first | (with_reducible first | exact HB.out | apply below_alloc | apply pw_below_drewN | apply below_drew1 | refine below_set ?_ GE176.out) | exact HB.out)) hb); clear HO_11; clear BK176; clear HB; have HO_11 := n0_; have BK176 := n1_; have HB := n2_; clear n0_ n1_ n2_; (try clear hb); (try clear hb2); (try clear hk); (try clear hi)))
                          repeat (go_quiet (first | (go_at_call 31; (with_reducible refine (cellarerref04_Many.calls k3 _ _ x11_3 t193 _ ?side1 ?side2 A63.out).mono ?_); (case side1 => repeat (first | exact (Kd.R_reads' HO_11.out).2.2 | (with_reducible refine Kd.C_alloc ?_ _) | (with_reducible refine Kd.C_drewN ?_ _) | (with_reducible refine Kd.C_drew ?_))); (case side2 => exact (Kd.R_reads' HO_11.out).2.1); rintro e w65 ⟨rfl, hb⟩; have n0_ := Aside0.mk (Kd.R_below (by (with_reducible repeat (first | apply Kd.R_alloc | apply Kd.R_drewN | apply Kd.R_drew)); exact HO_11.out) hb); have n1_ := Aside0.mk (blk_below (g := gb176) (o := .cells #[.int .u64 a0_0, .string a0_1, .slice A0_2 l0_2.length c0_2] 25 (0, 0)) (by (with_reducible repeat (first | refine blk_drewN ?_ _ | refine blk_drew ?_ | refine blk_alloc ?_ _)); exact BK176.out) hb); have n2_ := Aside0.mk (below_step (by repeat (first | (with_reducible first | exact HB.out | apply below_alloc | apply pw_below_drewN | apply below_drew1 | refine below_set ?_ GE176.out) | exact HB.out)) hb); clear HO_11; clear BK176; clear HB; have HO_11 := n0_; have BK176 := n1_; have HB := n2_; clear n0_ n1_ n2_; (try clear hb); (try clear hb2); (try clear hk); (try clear hi))); try go_wp2_with (first | (go_at_call 31; (with_reducible refine (cellarerref04_Many.calls k3 _ _ x11_3 t193 _ ?side1 ?side2 A63.out).mono ?_); (case side1 => repeat (first | exact (Kd.R_reads' HO_11.out).2.2 | (with_reducible refine Kd.C_alloc ?_ _) | (with_reducible refine Kd.C_drewN ?_ _) | (with_reducible refine Kd.C_drew ?_))); (case side2 => exact (Kd.R_reads' HO_11.out).2.1); rintro e w65 ⟨rfl, hb⟩; have n0_ := Aside0.mk (Kd.R_below (by (with_reducible repeat (first | apply Kd.R_alloc | apply Kd.R_drewN | apply Kd.R_drew)); exact HO_11.out) hb); have n1_ := Aside0.mk (blk_below (g := gb176) (o := .cells #[.int .u64 a0_0, .string a0_1, .slice A0_2 l0_2.length c0_2] 25 (0, 0)) (by (with_reducible repeat (first | refine blk_drewN ?_ _ | refine blk_drew ?_ | refine blk_alloc ?_ _)); exact BK176.out) hb); have n2_ := Aside0.mk (below_step (by repeat (first | (with_reducible first | exact HB.out | apply below_alloc | apply pw_below_drewN | apply below_drew1 | refine below_set ?_ GE176.out) | exact HB.out)) hb); clear HO_11; clear BK176; clear HB; have HO_11 := n0_; have BK176 := n1_; have HB := n2_; clear n0_ n1_ n2_; (try clear hb); (try clear hb2); (try clear hk); (try clear hi))))
                          go_ret3
                          exact ⟨by first | rfl | (simp [errW_none, errW_some] <;> rfl) | (simp [*, errW_none, errW_some] <;> rfl), by repeat (first | (with_reducible first | exact HB.out | apply below_alloc | apply pw_below_drewN | apply below_drew1 | refine below_set ?_ GE176.out) | exact HB.out)⟩

-- NOT PRINTED: function 18 (parts_Check)

-- NOT PRINTED: function 34 (api_Upload_34)

-- NOT PRINTED: function 12 (parts_Begin)

-- NOT PRINTED: function 59 (api_Upload_59)

-- NOT PRINTED: function 35 (parts_place)

-- NOT PRINTED: function 37 (api_Part_int)

-- NOT PRINTED: function 39 (api_Part_39)

-- NOT PRINTED: function 61 (api_Part_61)

-- NOT PRINTED: function 72 (api_Part_72)

-- NOT PRINTED: function 68 (api_Part_68)

-- NOT PRINTED: function 62 (api_Part_62)

-- NOT PRINTED: function 40 (api_Part_40)

-- NOT PRINTED: function 41 (tag_Of)

-- NOT PRINTED: function 14 (parts_Lay)

-- NOT PRINTED: function 16 (parts_Find)

-- NOT PRINTED: function 11 (cellarerlaw08_awake)

-- NOT PRINTED: function 3 (cellarerlaw08_PartsWholes)

-- NOT PRINTED: function 4 (cellarerlaw08_PartsTurns)

-- NOT PRINTED: function 5 (cellarerlaw08_PartsPieces)

end Go.Proofs.YtgpmkbmobdbdoaaDoor.Q

-- Qx8
namespace Go.Proofs.YtgpmkbmobdbdoaaDoor.Q
open Go.RowKit Go.Proofs.YtgpmkbmobdbdoaaDoorW.PrintWords Go.Proofs.YtgpmkbmobdbdoaaDoorW.PrintLast Go.Proofs.YtgpmkbmobdbdoaaDoorW.PrintMore
attribute [local go_sem] max2_int min2_int max_two min_two max_three min_three max_four min_four   -- for this text's walks alone
set_option linter.unusedVariables false
set_option linter.unusedSimpArgs false

attribute [local go_sem high] eqA40
/-! ### parts_Octets: function 17 -/
mutual
def parts_Octets.l0 : Nat → Int → List (S25) → Int → Int → Option (Int)
  | 0, _, _, _, _ => none
  | k + 1, x3, x8, x9, x10 => if x10 < x9 then (if 0 ≤ x10 then (if x10 < (x8.length : Int) then (parts_Octets.l1 k x3 x8 x9 x10 ((rd_T25 x8 x10).f2) (((rd_T25 x8 x10).f2).length : Int) 0) else (none)) else (none)) else (some x3)
def parts_Octets.l1 : Nat → Int → List (S25) → Int → Int → List (S40) → Int → Int → Option (Int)
  | 0, _, _, _, _, _, _, _ => none
  | k + 1, x3, x8, x9, x10, x15, x16, x17 => if x17 < x16 then (if 0 ≤ x17 then (if x17 < (x15.length : Int) then (parts_Octets.l1 k (wrap64 (x3 + (((rd_T40 x15 x17).f1).size : Int))) x8 x9 x10 x15 x16 (wrap64 (x17 + 1))) else (none)) else (none)) else (parts_Octets.l0 k x3 x8 x9 (wrap64 (x10 + 1)))
end
def parts_Octets.f (k : Nat) (l0 : List (S25)) : Option (Int) := parts_Octets.l0 k 0 l0 (l0.length : Int) 0
theorem parts_Octets.mono_l : ∀ k, (∀ y0 y1 y2 y3, LeO (parts_Octets.l0 k y0 y1 y2 y3) (parts_Octets.l0 (k + 1) y0 y1 y2 y3)) ∧ (∀ y0 y1 y2 y3 y4 y5 y6, LeO (parts_Octets.l1 k y0 y1 y2 y3 y4 y5 y6) (parts_Octets.l1 (k + 1) y0 y1 y2 y3 y4 y5 y6))
  | 0 => ⟨fun _ _ _ _ r h => by simp [parts_Octets.l0] at h, fun _ _ _ _ _ _ _ r h => by simp [parts_Octets.l1] at h⟩
  | k + 1 => by
    obtain ⟨ih0, ih1⟩ := parts_Octets.mono_l k
    refine ⟨?_, ?_⟩
    · intro y0 y1 y2 y3
      unfold parts_Octets.l0
      repeat' first
      | (with_reducible exact ih0 _ _ _ _)
      | (with_reducible exact ih1 _ _ _ _ _ _ _)
      | (with_reducible exact LeO.refl _)
      | (with_reducible exact LeO.none _)
      | (with_reducible refine LeO.ite ?_ ?_)
      | (with_reducible refine LeO.bind ?_ (fun _ => ?_))
      | exact ih0 _ _ _ _
      | exact ih1 _ _ _ _ _ _ _
      | exact LeO.none _
      | refine LeO.ite ?_ ?_
      | refine LeO.bind ?_ (fun _ => ?_)
    · intro y0 y1 y2 y3 y4 y5 y6
      unfold parts_Octets.l1
      repeat' first
      | (with_reducible exact ih0 _ _ _ _)
      | (with_reducible exact ih1 _ _ _ _ _ _ _)
      | (with_reducible exact LeO.refl _)
      | (with_reducible exact LeO.none _)
      | (with_reducible refine LeO.ite ?_ ?_)
      | (with_reducible refine LeO.bind ?_ (fun _ => ?_))
      | exact ih0 _ _ _ _
      | exact ih1 _ _ _ _ _ _ _
      | exact LeO.none _
      | refine LeO.ite ?_ ?_
      | refine LeO.bind ?_ (fun _ => ?_)
theorem parts_Octets.mono : ∀ a0 k, LeO (parts_Octets.f k a0) (parts_Octets.f (k + 1) a0) := by
  intro a0 k
  obtain ⟨ih0, ih1⟩ := parts_Octets.mono_l k
  unfold parts_Octets.f
  repeat' first
      | (with_reducible exact ih0 _ _ _ _)
      | (with_reducible exact ih1 _ _ _ _ _ _ _)
      | (with_reducible exact LeO.refl _)
      | (with_reducible exact LeO.none _)
      | (with_reducible refine LeO.ite ?_ ?_)
      | (with_reducible refine LeO.bind ?_ (fun _ => ?_))
      | exact ih0 _ _ _ _
      | exact ih1 _ _ _ _ _ _ _
      | exact LeO.none _
      | refine LeO.ite ?_ ?_
      | refine LeO.bind ?_ (fun _ => ?_)
set_option maxHeartbeats 8000000 in
set_option maxRecDepth 100000 in
theorem parts_Octets.calls (k : Nat) (A0 : Option Addr) (c0 : Nat) (l0 : List (S25)) (r : Int) (w : World) (hr0 : Kd.C k25 w A0 l0.length l0) (hc0 : l0.length ≤ c0) (h : parts_Octets.f k l0 = some r) :
    Calls Tryd.prog 17 #[.slice A0 l0.length c0] w fun e w' => e = .returned (.int .i64 r) ∧ Below w.heap.size w w' := by
  have hu25 := Tryd.underlying25
  have hu40 := Tryd.underlying40
  have HR0 := Aside0.mk hr0
  have HC0 := Aside0.mk hc0
  clear hr0 hc0
  have HB := Aside0.mk (Below.refl w.heap.size w)
  have H : (parts_Octets.l0 k 0 l0 (l0.length : Int) 0) = some r := h
  clear h
  have H' := Aside0.mk H
  clear H
  go_enter Tryd.func17, Tryd.ntmps17
  go_wp2
  go_loopg [3, 10] k (fun kq v3 v10 w' => ∃ (x3_1 : Int) (x10_1 : Int), v3 = .int .i64 x3_1 ∧ v10 = .int .i64 x10_1 ∧ Aside0 (parts_Octets.l0 kq x3_1 l0 (l0.length : Int) x10_1 = some r) ∧ Aside0 (kq ≤ k) ∧ Aside0 (Below w.heap.size w w'))
  case atStart => exact ⟨(0), (0), (by first | rfl | (simp; done) | (simp [*]; done)), (by first | rfl | (simp; done) | (simp [*]; done)), H', ⟨Nat.le_refl _⟩, ⟨by repeat (first | (with_reducible first | exact HB.out | apply below_alloc | apply pw_below_drewN | apply below_drew1) | exact HB.out)⟩⟩
  case round =>
    clear H'
    try clear c1
    obtain ⟨x3_1, x10_1, rfl, rfl, HA, HK1, HB⟩ := hrel
    cases gk with
    | zero => exact absurd HA.out (by simp [parts_Octets.l0])
    | succ k1 =>
      have H := HA.out
      clear HA
      simp only [parts_Octets.l0] at H
      by_cases c2 : x10_1 < (l0.length : Int)
      · rw [if_pos c2] at H
        have c2b0 : decide (x10_1 < (l0.length : Int)) = true := decide_eq_true c2
        clear c2
        by_cases c3 : 0 ≤ x10_1
        · rw [if_pos c3] at H
          have c3b0 : decide (0 ≤ x10_1) = true := decide_eq_true c3
          clear c3
          by_cases c4 : x10_1 < (l0.length : Int)
          · rw [if_pos c4] at H
            have c4b0 : decide (x10_1 < (l0.length : Int)) = true := decide_eq_true c4
            clear c4
            have H' := Aside0.mk H
            clear H
            have p211 : 0 ≤ (x10_1 : Int) := of_decide_eq_true (by first | (with_reducible assumption) | assumption)
            have q211 : x10_1 < (l0.length : Int) := of_decide_eq_true (by first | (with_reducible assumption) | assumption)
            obtain ⟨ad211, A211_2, c211_2, e211, hx211_0, hx211_1, hx211_2, hl211_2, hi211_2⟩ := at_T25 HR0.out x10_1 p211 q211
            cases e211
            replace hx211_0 := (HB.out.cell (World.block_lt_of_cell? w _ hx211_0)).trans hx211_0
            replace hx211_1 := (HB.out.cell (World.block_lt_of_cell? w _ hx211_1)).trans hx211_1
            replace hx211_2 := (HB.out.cell (World.block_lt_of_cell? w _ hx211_2)).trans hx211_2
            have HR211_2 := Aside0.mk hi211_2
            have HC211_2 := Aside0.mk hl211_2
            clear hi211_2 hl211_2
            replace p211 := eq_true p211
            replace q211 := eq_true q211
            go_wp2_with (first | ((with_reducible refine gate_dst (N := 5) rfl ?_); refine box_event ?hg (N := 5) ?hd (cs := #[.int .u64 0, .string (⟨#[]⟩ : ByteArray), .slice none 0 0]) (t := 25) ?hr ?_; (case hd => rfl); (case hg => rfl); (case hr => first | (go_simp; done) | (go_simp; rfl)); intro gb212 hg w5 hbox hb; have n0_ := Aside0.mk (below_step (by repeat (first | (with_reducible first | exact HB.out | apply below_alloc | apply pw_below_drewN | apply below_drew1) | exact HB.out)) hb); have n1_ := Aside0.mk (hbox); have n2_ := Aside0.mk ((by rw [hg]; exact (below_size (by repeat (first | (with_reducible first | exact HB.out | apply below_alloc | apply pw_below_drewN | apply below_drew1) | exact HB.out))) : w.heap.size ≤ gb212)); have n3_ := Aside0.mk ((by rw [hg]; exact (below_size (by repeat (first | (with_reducible first | exact HB.out | apply below_alloc | apply pw_below_drewN | apply below_drew1) | exact HB.out))) : w.heap.size ≤ gb212)); clear HB; have HB := n0_; have BK212 := n1_; have GW212 := n2_; have GE212 := n3_; clear n0_ n1_ n2_ n3_; clear hb hbox hg; have hcz6_0 : w5.cell? ⟨gb212, 0, none⟩ = some (.int .u64 0) := (blk_cell BK212.out 0).trans rfl; have hcz6_1 : w5.cell? ⟨gb212, 1, none⟩ = some (.string (⟨#[]⟩ : ByteArray)) := (blk_cell BK212.out 1).trans rfl; have hcz6_2 : w5.cell? ⟨gb212, 2, none⟩ = some (.slice none 0 0) := (blk_cell BK212.out 2).trans rfl; have hfz6_0 := blk_frozen BK212.out 0; have hfz6_1 := blk_frozen BK212.out 1; have hfz6_2 := blk_frozen BK212.out 2))
            go_loopg [3, 17] k1 (fun kq v3 v17 w' => ∃ (x3_2 : Int) (x17_2 : Int), v3 = .int .i64 x3_2 ∧ v17 = .int .i64 x17_2 ∧ Aside0 (parts_Octets.l1 kq x3_2 l0 (l0.length : Int) x10_1 ((rd_T25 l0 x10_1).f2) (((rd_T25 l0 x10_1).f2).length : Int) x17_2 = some r) ∧ Aside0 (kq ≤ k1) ∧ Aside0 (w'.heap[gb212]? = some (.cells #[.int .u64 ((rd_T25 l0 x10_1).f0), .string ((rd_T25 l0 x10_1).f1), (.slice A211_2 ((rd_T25 l0 x10_1).f2).length c211_2)] 25 (0, 0))) ∧ Aside0 (Below w.heap.size w w'))
            case atStart => exact ⟨(x3_1), (0), (by first | rfl | (simp; done) | (simp [*]; done)), (by first | rfl | (simp; done) | (simp [*]; done)), H', ⟨Nat.le_refl _⟩, ⟨by (with_reducible repeat (first | refine blk_drewN ?_ _ | refine blk_drew ?_ | refine blk_alloc ?_ _)); refine blk_put (cs := #[.int .u64 ((rd_T25 l0 x10_1).f0), .string ((rd_T25 l0 x10_1).f1), .slice none 0 0]) ?_ 2 _ rfl; (with_reducible repeat (first | refine blk_drewN ?_ _ | refine blk_drew ?_ | refine blk_alloc ?_ _)); refine blk_put (cs := #[.int .u64 ((rd_T25 l0 x10_1).f0), .string (⟨#[]⟩ : ByteArray), .slice none 0 0]) ?_ 1 _ rfl; (with_reducible repeat (first | refine blk_drewN ?_ _ | refine blk_drew ?_ | refine blk_alloc ?_ _)); refine blk_put (cs := #[.int .u64 0, .string (⟨#[]⟩ : ByteArray), .slice none 0 0]) ?_ 0 _ rfl; (with_reducible repeat (first | refine blk_drewN ?_ _ | refine blk_drew ?_ | refine blk_alloc ?_ _)); exact BK212.out⟩, ⟨by repeat (first | (with_reducible first | exact HB.out | apply below_alloc | apply pw_below_drewN | apply below_drew1 | refine below_set ?_ GE212.out) | exact HB.out)⟩⟩
            case round =>
              clear H'
              try clear c1
              try clear c2
              try clear c2b0
              try clear p2
              try clear q2
              try clear hx2
              try clear c3
              try clear c3b0
              try clear c4
              try clear c4b0
              try clear hcz6_0
              try clear hcz6_1
              try clear hcz6_2
              try clear hfz6_0
              try clear hfz6_1
              try clear hfz6_2
              try clear hx211_0
              try clear hx211_1
              try clear hx211_2
              try clear p211
              try clear q211
              obtain ⟨x3_2, x17_2, rfl, rfl, HA, HK2, BK212, HB⟩ := hrel
              cases gk with
              | zero => exact absurd HA.out (by simp [parts_Octets.l1])
              | succ k2 =>
                have H := HA.out
                clear HA
                simp only [parts_Octets.l1] at H
                by_cases c7 : x17_2 < (((rd_T25 l0 x10_1).f2).length : Int)
                · rw [if_pos c7] at H
                  have c7b0 : decide (x17_2 < (((rd_T25 l0 x10_1).f2).length : Int)) = true := decide_eq_true c7
                  clear c7
                  by_cases c8 : 0 ≤ x17_2
                  · rw [if_pos c8] at H
                    have c8b0 : decide (0 ≤ x17_2) = true := decide_eq_true c8
                    clear c8
                    by_cases c9 : x17_2 < (((rd_T25 l0 x10_1).f2).length : Int)
                    · rw [if_pos c9] at H
                      have c9b0 : decide (x17_2 < (((rd_T25 l0 x10_1).f2).length : Int)) = true := decide_eq_true c9
                      clear c9
                      have H' := Aside0.mk H
                      clear H
                      have p213 : 0 ≤ (x17_2 : Int) := of_decide_eq_true (by first | (with_reducible assumption) | assumption)
                      have q213 : x17_2 < (((rd_T25 l0 x10_1).f2).length : Int) := of_decide_eq_true (by first | (with_reducible assumption) | assumption)
                      obtain ⟨ad213, e213, hx213_0, hx213_1⟩ := at_T40 HR211_2.out x17_2 p213 q213
                      cases e213
                      replace hx213_0 := (HB.out.cell (World.block_lt_of_cell? w _ hx213_0)).trans hx213_0
                      replace hx213_1 := (HB.out.cell (World.block_lt_of_cell? w _ hx213_1)).trans hx213_1
                      replace p213 := eq_true p213
                      replace q213 := eq_true q213
                      go_wp2_with (first | ((with_reducible refine gate_dst (N := 7) rfl ?_); refine box_event ?hg (N := 7) ?hd (cs := #[.int .i64 0, .string (⟨#[]⟩ : ByteArray)]) (t := 40) ?hr ?_; (case hd => rfl); (case hg => rfl); (case hr => first | (go_simp; done) | (go_simp; rfl)); intro gb214 hg w10 hbox hb; have n0_ := Aside0.mk (blk_below (g := gb212) (o := .cells #[.int .u64 ((rd_T25 l0 x10_1).f0), .string ((rd_T25 l0 x10_1).f1), .slice (some ad213) ((rd_T25 l0 x10_1).f2).length c211_2] 25 (0, 0)) (by (with_reducible repeat (first | refine blk_drewN ?_ _ | refine blk_drew ?_ | refine blk_alloc ?_ _)); exact BK212.out) hb); have n1_ := Aside0.mk (below_step (by repeat (first | (with_reducible first | exact HB.out | apply below_alloc | apply pw_below_drewN | apply below_drew1 | refine below_set ?_ GE212.out) | exact HB.out)) hb); have n2_ := Aside0.mk (hbox); have n3_ := Aside0.mk ((by rw [hg]; exact (below_size (by repeat (first | (with_reducible first | exact HB.out | apply below_alloc | apply pw_below_drewN | apply below_drew1 | refine below_set ?_ GE212.out) | exact HB.out))) : w.heap.size ≤ gb214)); have n4_ := Aside0.mk ((by rw [hg]; exact (below_size (by repeat (first | (with_reducible first | exact HB.out | apply below_alloc | apply pw_below_drewN | apply below_drew1 | refine below_set ?_ GE212.out) | exact HB.out))) : w.heap.size ≤ gb214)); have n5_ := Aside0.mk ((by rw [hg]; exact Nat.ne_of_lt (blk_lt (g := gb212) (o := .cells #[.int .u64 ((rd_T25 l0 x10_1).f0), .string ((rd_T25 l0 x10_1).f1), .slice (some ad213) ((rd_T25 l0 x10_1).f2).length c211_2] 25 (0, 0)) (by (with_reducible repeat (first | refine blk_drewN ?_ _ | refine blk_drew ?_ | refine blk_alloc ?_ _)); exact BK212.out)) : gb212 ≠ gb214)); have n6_ := Aside0.mk ((by rw [hg]; exact Nat.ne_of_gt (blk_lt (g := gb212) (o := .cells #[.int .u64 ((rd_T25 l0 x10_1).f0), .string ((rd_T25 l0 x10_1).f1), .slice (some ad213) ((rd_T25 l0 x10_1).f2).length c211_2] 25 (0, 0)) (by (with_reducible repeat (first | refine blk_drewN ?_ _ | refine blk_drew ?_ | refine blk_alloc ?_ _)); exact BK212.out)) : gb214 ≠ gb212)); clear BK212; clear HB; have BK212 := n0_; have HB := n1_; have BK214 := n2_; have GW214 := n3_; have GE214 := n4_; have NB212_214 := n5_; have NB214_212 := n6_; clear n0_ n1_ n2_ n3_ n4_ n5_ n6_; clear hb hbox hg; have hnb11 := NB214_212.out; have hnc11 := NB212_214.out; have hcz12_0 : w10.cell? ⟨gb214, 0, none⟩ = some (.int .i64 0) := (blk_cell BK214.out 0).trans rfl; have hcz12_1 : w10.cell? ⟨gb214, 1, none⟩ = some (.string (⟨#[]⟩ : ByteArray)) := (blk_cell BK214.out 1).trans rfl; have hfz12_0 := blk_frozen BK214.out 0; have hfz12_1 := blk_frozen BK214.out 1))
                      go_roundg k2
                      case measure => have := HK1.out; have := HK2.out; omega
                      case rel => exact ⟨(wrap64 (x3_2 + (((rd_T40 ((rd_T25 l0 x10_1).f2) x17_2).f1).size : Int))), (wrap64 (x17_2 + 1)), (by first | rfl | (simp; done) | (simp [*]; done)), (by first | rfl | (simp; done) | (simp [*]; done)), H', ⟨by have := HK1.out; have := HK2.out; omega⟩, ⟨by (with_reducible repeat (first | refine blk_drewN ?_ _ | refine blk_drew ?_ | refine blk_alloc ?_ _)); refine blk_far ?_ NB212_214.out _; (with_reducible repeat (first | refine blk_drewN ?_ _ | refine blk_drew ?_ | refine blk_alloc ?_ _)); refine blk_far ?_ NB212_214.out _; (with_reducible repeat (first | refine blk_drewN ?_ _ | refine blk_drew ?_ | refine blk_alloc ?_ _)); exact BK212.out⟩, ⟨by repeat (first | (with_reducible first | exact HB.out | apply below_alloc | apply pw_below_drewN | apply below_drew1 | refine below_set ?_ GE212.out | refine below_set ?_ GE214.out) | exact HB.out)⟩⟩
                    · rw [if_neg c9] at H
                      exact absurd H (by simp)
                  · rw [if_neg c8] at H
                    exact absurd H (by simp)
                · rw [if_neg c7] at H
                  have c7b0 : decide (x17_2 < (((rd_T25 l0 x10_1).f2).length : Int)) = false := decide_eq_false c7
                  clear c7
                  have H' := Aside0.mk H
                  clear H
                  go_wp2
                  go_roundg k2
                  case measure => have := HK1.out; have := HK2.out; omega
                  case rel => exact ⟨(x3_2), (wrap64 (x10_1 + 1)), (by first | rfl | (simp; done) | (simp [*]; done)), (by first | rfl | (simp; done) | (simp [*]; done)), H', ⟨by have := HK1.out; have := HK2.out; omega⟩, ⟨by repeat (first | (with_reducible first | exact HB.out | apply below_alloc | apply pw_below_drewN | apply below_drew1 | refine below_set ?_ GE212.out) | exact HB.out)⟩⟩
          · rw [if_neg c4] at H
            exact absurd H (by simp)
        · rw [if_neg c3] at H
          exact absurd H (by simp)
      · rw [if_neg c2] at H
        have c2b0 : decide (x10_1 < (l0.length : Int)) = false := decide_eq_false c2
        clear c2
        obtain rfl := Option.some.inj H
        go_wp2
        go_ret
        exact ⟨by first | rfl | (simp [errW_none, errW_some] <;> rfl) | (simp [*, errW_none, errW_some] <;> rfl), by repeat (first | (with_reducible first | exact HB.out | apply below_alloc | apply pw_below_drewN | apply below_drew1) | exact HB.out)⟩

-- NOT PRINTED: function 6 (cellarerlaw08_PartsCounts)

-- NOT PRINTED: function 43 (api_Upload_43)

-- NOT PRINTED: function 20 (parts_Abort)

/-! ### cellarerref08_Same: function 21 -/
mutual
def cellarerref08_Same.l0 : Nat → List (S25) → List (S25) → Int → Option (Bool)
  | 0, _, _, _ => none
  | k + 1, x0, x1, x5 => if x5 < (x0.length : Int) then (if 0 ≤ x5 then (if x5 < (x1.length : Int) then (if ((rd_T25 x0 x5).f0) = ((rd_T25 x1 x5).f0) then (if ((rd_T25 x0 x5).f1).toList = ((rd_T25 x1 x5).f1).toList then (cellarerref08_Same.j1 k x0 x1 x5 ((((rd_T25 x0 x5).f2).length : Int) != (((rd_T25 x1 x5).f2).length : Int))) else (cellarerref08_Same.j1 k x0 x1 x5 true)) else (cellarerref08_Same.j1 k x0 x1 x5 true)) else (none)) else (none)) else (some true)
def cellarerref08_Same.j1 : Nat → List (S25) → List (S25) → Int → Bool → Option (Bool)
  | 0, _, _, _, _ => none
  | k + 1, x0, x1, x5, x56 => if x56 = true then (some false) else (cellarerref08_Same.l1 k x0 x1 x5 0)
def cellarerref08_Same.l1 : Nat → List (S25) → List (S25) → Int → Int → Option (Bool)
  | 0, _, _, _, _ => none
  | k + 1, x0, x1, x5, x6 => if 0 ≤ x5 then (if x5 < (x0.length : Int) then (if x6 < (((rd_T25 x0 x5).f2).length : Int) then (if 0 ≤ x6 then (if x5 < (x1.length : Int) then (if x6 < (((rd_T25 x1 x5).f2).length : Int) then (if (!(((rd_T40 ((rd_T25 x0 x5).f2) x6).f0) == ((rd_T40 ((rd_T25 x1 x5).f2) x6).f0)) || (!((((rd_T40 ((rd_T25 x0 x5).f2) x6).f1).toList) == (((rd_T40 ((rd_T25 x1 x5).f2) x6).f1).toList)))) = true then (some false) else (cellarerref08_Same.l1 k x0 x1 x5 (wrap64 (x6 + 1)))) else (none)) else (none)) else (none)) else (cellarerref08_Same.l0 k x0 x1 (wrap64 (x5 + 1)))) else (none)) else (none)
end
def cellarerref08_Same.f (k : Nat) (l0 : List (S25)) (l1 : List (S25)) : Option (Bool) := if (l0.length : Int) = (l1.length : Int) then (cellarerref08_Same.l0 k l0 l1 0) else (some false)
theorem cellarerref08_Same.mono_l : ∀ k, (∀ y0 y1 y2, LeO (cellarerref08_Same.l0 k y0 y1 y2) (cellarerref08_Same.l0 (k + 1) y0 y1 y2)) ∧ (∀ y0 y1 y2 y3, LeO (cellarerref08_Same.j1 k y0 y1 y2 y3) (cellarerref08_Same.j1 (k + 1) y0 y1 y2 y3)) ∧ (∀ y0 y1 y2 y3, LeO (cellarerref08_Same.l1 k y0 y1 y2 y3) (cellarerref08_Same.l1 (k + 1) y0 y1 y2 y3))
  | 0 => ⟨fun _ _ _ r h => by simp [cellarerref08_Same.l0] at h, fun _ _ _ _ r h => by simp [cellarerref08_Same.j1] at h, fun _ _ _ _ r h => by simp [cellarerref08_Same.l1] at h⟩
  | k + 1 => by
    obtain ⟨ih0, ih1, ih2⟩ := cellarerref08_Same.mono_l k
    refine ⟨?_, ?_, ?_⟩
    · intro y0 y1 y2
      unfold cellarerref08_Same.l0
      repeat' first
      | (with_reducible exact ih0 _ _ _)
      | (with_reducible exact ih1 _ _ _ _)
      | (with_reducible exact ih2 _ _ _ _)
      | (with_reducible exact LeO.refl _)
      | (with_reducible exact LeO.none _)
      | (with_reducible refine LeO.ite ?_ ?_)
      | (with_reducible refine LeO.bind ?_ (fun _ => ?_))
      | exact ih0 _ _ _
      | exact ih1 _ _ _ _
      | exact ih2 _ _ _ _
      | exact LeO.none _
      | refine LeO.ite ?_ ?_
      | refine LeO.bind ?_ (fun _ => ?_)
    · intro y0 y1 y2 y3
      unfold cellarerref08_Same.j1
      repeat' first
      | (with_reducible exact ih0 _ _ _)
      | (with_reducible exact ih1 _ _ _ _)
      | (with_reducible exact ih2 _ _ _ _)
      | (with_reducible exact LeO.refl _)
      | (with_reducible exact LeO.none _)
      | (with_reducible refine LeO.ite ?_ ?_)
      | (with_reducible refine LeO.bind ?_ (fun _ => ?_))
      | exact ih0 _ _ _
      | exact ih1 _ _ _ _
      | exact ih2 _ _ _ _
      | exact LeO.none _
      | refine LeO.ite ?_ ?_
      | refine LeO.bind ?_ (fun _ => ?_)
    · intro y0 y1 y2 y3
      unfold cellarerref08_Same.l1
      repeat' first
      | (with_reducible exact ih0 _ _ _)
      | (with_reducible exact ih1 _ _ _ _)
      | (with_reducible exact ih2 _ _ _ _)
      | (with_reducible exact LeO.refl _)
      | (with_reducible exact LeO.none _)
      | (with_reducible refine LeO.ite ?_ ?_)
      | (with_reducible refine LeO.bind ?_ (fun _ => ?_))
      | exact ih0 _ _ _
      | exact ih1 _ _ _ _
      | exact ih2 _ _ _ _
      | exact LeO.none _
      | refine LeO.ite ?_ ?_
      | refine LeO.bind ?_ (fun _ => ?_)
theorem cellarerref08_Same.mono : ∀ a0 a1 k, LeO (cellarerref08_Same.f k a0 a1) (cellarerref08_Same.f (k + 1) a0 a1) := by
  intro a0 a1 k
  obtain ⟨ih0, ih1, ih2⟩ := cellarerref08_Same.mono_l k
  unfold cellarerref08_Same.f
  repeat' first
      | (with_reducible exact ih0 _ _ _)
      | (with_reducible exact ih1 _ _ _ _)
      | (with_reducible exact ih2 _ _ _ _)
      | (with_reducible exact LeO.refl _)
      | (with_reducible exact LeO.none _)
      | (with_reducible refine LeO.ite ?_ ?_)
      | (with_reducible refine LeO.bind ?_ (fun _ => ?_))
      | exact ih0 _ _ _
      | exact ih1 _ _ _ _
      | exact ih2 _ _ _ _
      | exact LeO.none _
      | refine LeO.ite ?_ ?_
      | refine LeO.bind ?_ (fun _ => ?_)
set_option maxHeartbeats 8000000 in
set_option maxRecDepth 100000 in
theorem cellarerref08_Same.calls (k : Nat) (A0 : Option Addr) (c0 : Nat) (l0 : List (S25)) (A1 : Option Addr) (c1 : Nat) (l1 : List (S25)) (r : Bool) (w : World) (hr0 : Kd.C k25 w A0 l0.length l0) (hc0 : l0.length ≤ c0) (hr1 : Kd.C k25 w A1 l1.length l1) (hc1 : l1.length ≤ c1) (h : cellarerref08_Same.f k l0 l1 = some r) :
    Calls Tryd.prog 21 #[.slice A0 l0.length c0, .slice A1 l1.length c1] w fun e w' => e = .returned (.bool r) ∧ Drawn0 w w' := by
  have hu40 := Tryd.underlying40
  have HR0 := Aside0.mk hr0
  have HC0 := Aside0.mk hc0
  clear hr0 hc0
  have HR1 := Aside0.mk hr1
  have HC1 := Aside0.mk hc1
  clear hr1 hc1
  have H : (if (l0.length : Int) = (l1.length : Int) then (cellarerref08_Same.l0 k l0 l1 0) else (some false)) = some r := h
  clear h
  by_cases c3 : (l0.length : Int) = (l1.length : Int)
  · rw [if_pos c3] at H
    have c3b0 : ((l0.length : Int) == (l1.length : Int)) = true := beq_iff_eq.mpr c3
    have c3b1 : ((l0.length : Int) != (l1.length : Int)) = false := bne_eq_false_iff_eq.mpr c3
    have c3b2 : (l0.length == l1.length) = true := by first | simpa using c3 | (simp at c3 ⊢; omega)
    clear c3
    have H' := Aside0.mk H
    clear H
    go_enter Tryd.func21, Tryd.ntmps21
    go_wp2
    repeat (go_quiet (fail); try go_wp2)
    go_loopg [5] k (fun kq v5 w' => ∃ (x5_1 : Int), v5 = .int .i64 x5_1 ∧ Aside0 (cellarerref08_Same.l0 kq l0 l1 x5_1 = some r) ∧ Aside0 (kq ≤ k) ∧ Drawn0 w w')
    case atStart => exact ⟨(0), (by first | rfl | (simp; done) | (simp [*]; done)), H', ⟨Nat.le_refl _⟩, by repeat (first | exact Drawn0.refl _ | apply Drawn0.step)⟩
    case round =>
      clear H'
      try clear c1
      try clear c2
      try clear p2
      try clear c3
      try clear c3b0
      try clear c3b1
      try clear c3b2
      obtain ⟨x5_1, rfl, HA, HK1, ⟨m1, rfl⟩⟩ := hrel
      cases gk with
      | zero => exact absurd HA.out (by simp [cellarerref08_Same.l0])
      | succ k1 =>
        have H := HA.out
        clear HA
        simp only [cellarerref08_Same.l0] at H
        by_cases c4 : x5_1 < (l0.length : Int)
        · rw [if_pos c4] at H
          have c4b0 : decide (x5_1 < (l0.length : Int)) = true := decide_eq_true c4
          clear c4
          have HC5 := Aside0.mk H
          clear H
          go_upto_region 6 with (fail)
          repeat (go_quiet (fail); go_upto_region 6 with (fail))
          go_cut [56] (fun v56 wc => ∃ (kq : Nat) (x56_4 : Bool), v56 = .bool x56_4 ∧ Aside0 (cellarerref08_Same.j1 kq l0 l1 x5_1 x56_4 = some r) ∧ Aside0 (kq ≤ k1) ∧ Drawn0 w wc)
          case first =>
            have H := HC5.out
            clear HC5
            by_cases c6 : 0 ≤ x5_1
            · rw [if_pos c6] at H
              have c6b0 : decide (0 ≤ x5_1) = true := decide_eq_true c6
              clear c6
              (first | rw [c6b0] | (simp only [i64_w, i32_w]; rw [c6b0]) | skip)
              by_cases c7 : x5_1 < (l1.length : Int)
              · rw [if_pos c7] at H
                have c7b0 : decide (x5_1 < (l1.length : Int)) = true := decide_eq_true c7
                clear c7
                by_cases c8 : ((rd_T25 l0 x5_1).f0) = ((rd_T25 l1 x5_1).f0)
                · rw [if_pos c8] at H
                  have c8b0 : (((rd_T25 l0 x5_1).f0) == ((rd_T25 l1 x5_1).f0)) = true := beq_iff_eq.mpr c8
                  have c8b1 : (((rd_T25 l0 x5_1).f0) != ((rd_T25 l1 x5_1).f0)) = false := bne_eq_false_iff_eq.mpr c8
                  clear c8
                  by_cases c9 : ((rd_T25 l0 x5_1).f1).toList = ((rd_T25 l1 x5_1).f1).toList
                  · rw [if_pos c9] at H
                    have c9b0 : (((rd_T25 l0 x5_1).f1).toList == ((rd_T25 l1 x5_1).f1).toList) = true := beq_iff_eq.mpr c9
                    have c9b1 : (((rd_T25 l0 x5_1).f1).toList != ((rd_T25 l1 x5_1).f1).toList) = false := bne_eq_false_iff_eq.mpr c9
                    clear c9
                    have H' := Aside0.mk H
                    clear H
                    have p221 : 0 ≤ (x5_1 : Int) := of_decide_eq_true (by first | (with_reducible assumption) | assumption)
                    have q221 : x5_1 < (l0.length : Int) := of_decide_eq_true (by first | (with_reducible assumption) | assumption)
                    obtain ⟨ad221, A221_2, c221_2, e221, hx221_0, hx221_1, hx221_2, hl221_2, hi221_2⟩ := at_T25 HR0.out x5_1 p221 q221
                    cases e221
                    have HR221_2 := Aside0.mk hi221_2
                    have HC221_2 := Aside0.mk hl221_2
                    clear hi221_2 hl221_2
                    replace p221 := eq_true p221
                    replace q221 := eq_true q221
                    have p222 : 0 ≤ (x5_1 : Int) := of_decide_eq_true (by first | (with_reducible assumption) | assumption)
                    have q222 : x5_1 < (l1.length : Int) := of_decide_eq_true (by first | (with_reducible assumption) | assumption)
                    obtain ⟨ad222, A222_2, c222_2, e222, hx222_0, hx222_1, hx222_2, hl222_2, hi222_2⟩ := at_T25 HR1.out x5_1 p222 q222
                    cases e222
                    have HR222_2 := Aside0.mk hi222_2
                    have HC222_2 := Aside0.mk hl222_2
                    clear hi222_2 hl222_2
                    replace p222 := eq_true p222
                    replace q222 := eq_true q222
                    have p223 : 0 ≤ (x5_1 : Int) := of_decide_eq_true (by first | (with_reducible assumption) | assumption)
                    have q223 : x5_1 < (l0.length : Int) := of_decide_eq_true (by first | (with_reducible assumption) | assumption)
                    obtain ⟨ad223, A223_2, c223_2, e223, hx223_0, hx223_1, hx223_2, hl223_2, hi223_2⟩ := at_T25 HR0.out x5_1 p223 q223
                    obtain rfl : ad221 = ad223 := (by injection e223)
                    have HR223_2 := Aside0.mk hi223_2
                    have HC223_2 := Aside0.mk hl223_2
                    clear hi223_2 hl223_2
                    replace p223 := eq_true p223
                    replace q223 := eq_true q223
                    have ea_ := Option.some.inj (hx221_2.symm.trans hx223_2)
                    injection ea_ with ea_ en_ ec_
                    subst ea_
                    subst ec_
                    clear en_
                    have p224 : 0 ≤ (x5_1 : Int) := of_decide_eq_true (by first | (with_reducible assumption) | assumption)
                    have q224 : x5_1 < (l1.length : Int) := of_decide_eq_true (by first | (with_reducible assumption) | assumption)
                    obtain ⟨ad224, A224_2, c224_2, e224, hx224_0, hx224_1, hx224_2, hl224_2, hi224_2⟩ := at_T25 HR1.out x5_1 p224 q224
                    obtain rfl : ad222 = ad224 := (by injection e224)
                    have HR224_2 := Aside0.mk hi224_2
                    have HC224_2 := Aside0.mk hl224_2
                    clear hi224_2 hl224_2
                    replace p224 := eq_true p224
                    replace q224 := eq_true q224
                    have ea_ := Option.some.inj (hx222_2.symm.trans hx224_2)
                    injection ea_ with ea_ en_ ec_
                    subst ea_
                    subst ec_
                    clear en_
                    have p225 : 0 ≤ (x5_1 : Int) := of_decide_eq_true (by first | (with_reducible assumption) | assumption)
                    have q225 : x5_1 < (l0.length : Int) := of_decide_eq_true (by first | (with_reducible assumption) | assumption)
                    obtain ⟨ad225, A225_2, c225_2, e225, hx225_0, hx225_1, hx225_2, hl225_2, hi225_2⟩ := at_T25 HR0.out x5_1 p225 q225
                    obtain rfl : ad221 = ad225 := (by injection e225)
                    have HR225_2 := Aside0.mk hi225_2
                    have HC225_2 := Aside0.mk hl225_2
                    clear hi225_2 hl225_2
                    replace p225 := eq_true p225
                    replace q225 := eq_true q225
                    have ea_ := Option.some.inj (hx221_2.symm.trans hx225_2)
                    injection ea_ with ea_ en_ ec_
                    subst ea_
                    subst ec_
                    clear en_
                    have p226 : 0 ≤ (x5_1 : Int) := of_decide_eq_true (by first | (with_reducible assumption) | assumption)
                    have q226 : x5_1 < (l1.length : Int) := of_decide_eq_true (by first | (with_reducible assumption) | assumption)
                    obtain ⟨ad226, A226_2, c226_2, e226, hx226_0, hx226_1, hx226_2, hl226_2, hi226_2⟩ := at_T25 HR1.out x5_1 p226 q226
                    obtain rfl : ad222 = ad226 := (by injection e226)
                    have HR226_2 := Aside0.mk hi226_2
                    have HC226_2 := Aside0.mk hl226_2
                    clear hi226_2 hl226_2
                    replace p226 := eq_true p226
                    replace q226 := eq_true q226
                    have ea_ := Option.some.inj (hx222_2.symm.trans hx226_2)
                    injection ea_ with ea_ en_ ec_
                    subst ea_
                    subst ec_
                    clear en_
                    go_wp2
                    repeat (go_quiet (fail); try go_wp2)
                    go_meet
                    case rel => exact ⟨_, (((((rd_T25 l0 x5_1).f2).length : Int) != (((rd_T25 l1 x5_1).f2).length : Int))), (by first | rfl | (simp; done) | (simp [*]; done)), H', ⟨by have := HK1.out; first | omega | exact Nat.le_refl _⟩, by repeat (first | exact Drawn0.refl _ | apply Drawn0.step)⟩
                  · rw [if_neg c9] at H
                    have c9b0 : (((rd_T25 l0 x5_1).f1).toList == ((rd_T25 l1 x5_1).f1).toList) = false := beq_eq_false_iff_ne.mpr c9
                    have c9b1 : (((rd_T25 l0 x5_1).f1).toList != ((rd_T25 l1 x5_1).f1).toList) = true := bne_iff_ne.mpr c9
                    have H' := Aside0.mk H
                    clear H
                    have p221 : 0 ≤ (x5_1 : Int) := of_decide_eq_true (by first | (with_reducible assumption) | assumption)
                    have q221 : x5_1 < (l0.length : Int) := of_decide_eq_true (by first | (with_reducible assumption) | assumption)
                    obtain ⟨ad221, A221_2, c221_2, e221, hx221_0, hx221_1, hx221_2, hl221_2, hi221_2⟩ := at_T25 HR0.out x5_1 p221 q221
                    cases e221
                    have HR221_2 := Aside0.mk hi221_2
                    have HC221_2 := Aside0.mk hl221_2
                    clear hi221_2 hl221_2
                    replace p221 := eq_true p221
                    replace q221 := eq_true q221
                    have p222 : 0 ≤ (x5_1 : Int) := of_decide_eq_true (by first | (with_reducible assumption) | assumption)
                    have q222 : x5_1 < (l1.length : Int) := of_decide_eq_true (by first | (with_reducible assumption) | assumption)
                    obtain ⟨ad222, A222_2, c222_2, e222, hx222_0, hx222_1, hx222_2, hl222_2, hi222_2⟩ := at_T25 HR1.out x5_1 p222 q222
                    cases e222
                    have HR222_2 := Aside0.mk hi222_2
                    have HC222_2 := Aside0.mk hl222_2
                    clear hi222_2 hl222_2
                    replace p222 := eq_true p222
                    replace q222 := eq_true q222
                    have p223 : 0 ≤ (x5_1 : Int) := of_decide_eq_true (by first | (with_reducible assumption) | assumption)
                    have q223 : x5_1 < (l0.length : Int) := of_decide_eq_true (by first | (with_reducible assumption) | assumption)
                    obtain ⟨ad223, A223_2, c223_2, e223, hx223_0, hx223_1, hx223_2, hl223_2, hi223_2⟩ := at_T25 HR0.out x5_1 p223 q223
                    obtain rfl : ad221 = ad223 := (by injection e223)
                    have HR223_2 := Aside0.mk hi223_2
                    have HC223_2 := Aside0.mk hl223_2
                    clear hi223_2 hl223_2
                    replace p223 := eq_true p223
                    replace q223 := eq_true q223
                    have ea_ := Option.some.inj (hx221_2.symm.trans hx223_2)
                    injection ea_ with ea_ en_ ec_
                    subst ea_
                    subst ec_
                    clear en_
                    have p224 : 0 ≤ (x5_1 : Int) := of_decide_eq_true (by first | (with_reducible assumption) | assumption)
                    have q224 : x5_1 < (l1.length : Int) := of_decide_eq_true (by first | (with_reducible assumption) | assumption)
                    obtain ⟨ad224, A224_2, c224_2, e224, hx224_0, hx224_1, hx224_2, hl224_2, hi224_2⟩ := at_T25 HR1.out x5_1 p224 q224
                    obtain rfl : ad222 = ad224 := (by injection e224)
                    have HR224_2 := Aside0.mk hi224_2
                    have HC224_2 := Aside0.mk hl224_2
                    clear hi224_2 hl224_2
                    replace p224 := eq_true p224
                    replace q224 := eq_true q224
                    have ea_ := Option.some.inj (hx222_2.symm.trans hx224_2)
                    injection ea_ with ea_ en_ ec_
                    subst ea_
                    subst ec_
                    clear en_
                    go_wp2
                    repeat (go_quiet (fail); try go_wp2)
                    go_meet
                    case rel => exact ⟨_, (true), (by first | rfl | (simp; done) | (simp [*]; done)), H', ⟨by have := HK1.out; first | omega | exact Nat.le_refl _⟩, by repeat (first | exact Drawn0.refl _ | apply Drawn0.step)⟩
                · rw [if_neg c8] at H
                  have c8b0 : (((rd_T25 l0 x5_1).f0) == ((rd_T25 l1 x5_1).f0)) = false := beq_eq_false_iff_ne.mpr c8
                  have c8b1 : (((rd_T25 l0 x5_1).f0) != ((rd_T25 l1 x5_1).f0)) = true := bne_iff_ne.mpr c8
                  have H' := Aside0.mk H
                  clear H
                  have p221 : 0 ≤ (x5_1 : Int) := of_decide_eq_true (by first | (with_reducible assumption) | assumption)
                  have q221 : x5_1 < (l0.length : Int) := of_decide_eq_true (by first | (with_reducible assumption) | assumption)
                  obtain ⟨ad221, A221_2, c221_2, e221, hx221_0, hx221_1, hx221_2, hl221_2, hi221_2⟩ := at_T25 HR0.out x5_1 p221 q221
                  cases e221
                  have HR221_2 := Aside0.mk hi221_2
                  have HC221_2 := Aside0.mk hl221_2
                  clear hi221_2 hl221_2
                  replace p221 := eq_true p221
                  replace q221 := eq_true q221
                  have p222 : 0 ≤ (x5_1 : Int) := of_decide_eq_true (by first | (with_reducible assumption) | assumption)
                  have q222 : x5_1 < (l1.length : Int) := of_decide_eq_true (by first | (with_reducible assumption) | assumption)
                  obtain ⟨ad222, A222_2, c222_2, e222, hx222_0, hx222_1, hx222_2, hl222_2, hi222_2⟩ := at_T25 HR1.out x5_1 p222 q222
                  cases e222
                  have HR222_2 := Aside0.mk hi222_2
                  have HC222_2 := Aside0.mk hl222_2
                  clear hi222_2 hl222_2
                  replace p222 := eq_true p222
                  replace q222 := eq_true q222
                  go_wp2
                  repeat (go_quiet (fail); try go_wp2)
                  go_meet
                  case rel => exact ⟨_, (true), (by first | rfl | (simp; done) | (simp [*]; done)), H', ⟨by have := HK1.out; first | omega | exact Nat.le_refl _⟩, by repeat (first | exact Drawn0.refl _ | apply Drawn0.step)⟩
              · rw [if_neg c7] at H
                exact absurd H (by simp)
            · rw [if_neg c6] at H
              exact absurd H (by simp)
          case rest =>
            clear HC5
            try clear c1
            try clear c2
            try clear p2
            try clear q2
            try clear hx2
            try clear c3
            try clear c3b0
            try clear c3b1
            try clear c3b2
            try clear c4
            try clear c4b0
            try clear c6
            try clear c6b0
            try clear c7
            try clear c7b0
            try clear c8
            try clear c8b0
            try clear c8b1
            try clear c9
            try clear c9b0
            try clear c9b1
            try clear hx221_0
            try clear hx221_1
            try clear hx221_2
            try clear hx222_0
            try clear hx222_1
            try clear hx222_2
            try clear hx223_0
            try clear hx223_1
            try clear hx223_2
            try clear hx224_0
            try clear hx224_1
            try clear hx224_2
            try clear hx225_0
            try clear hx225_1
            try clear hx225_2
            try clear hx226_0
            try clear hx226_1
            try clear hx226_2
            try clear p2
            try clear p221
            try clear p222
            try clear p223
            try clear p224
            try clear p225
            try clear p226
            try clear q221
            try clear q222
            try clear q223
            try clear q224
            try clear q225
            try clear q226
            obtain ⟨kq, x56_4, rfl, HA, HJ4, ⟨mc4, rfl⟩⟩ := hcut
            cases kq with
            | zero => exact absurd HA.out (by simp [cellarerref08_Same.j1])
            | succ kj4 =>
              have H := HA.out
              clear HA
              simp only [cellarerref08_Same.j1] at H
              by_cases c10 : x56_4 = true
              · subst c10
                have H1 : (some false) = some r := by rw [if_pos rfl] at H; exact H
                clear H
                have H := H1
                clear H1
                obtain rfl := Option.some.inj H
                go_wp2
                repeat (go_quiet (fail); try go_wp2)
                go_ret
                exact ⟨by first | rfl | (simp; done) | (simp [*]; done), by repeat (first | exact Drawn0.refl _ | apply Drawn0.step)⟩
              · replace c10 := Bool.eq_false_iff.mpr c10
                subst c10
                have H1 : (cellarerref08_Same.l1 kj4 l0 l1 x5_1 0) = some r := by rw [if_neg (show ¬ (false = true) by decide)] at H; exact H
                clear H
                have H := H1
                clear H1
                have H' := Aside0.mk H
                clear H
                go_wp2
                repeat (go_quiet (fail); try go_wp2)
                go_loopg [6] kj4 (fun kq v6 w' => ∃ (x6_3 : Int), v6 = .int .i64 x6_3 ∧ Aside0 (cellarerref08_Same.l1 kq l0 l1 x5_1 x6_3 = some r) ∧ Aside0 (kq ≤ kj4) ∧ Drawn0 w w')
                case atStart => exact ⟨(0), (by first | rfl | (simp; done) | (simp [*]; done)), H', ⟨Nat.le_refl _⟩, by repeat (first | exact Drawn0.refl _ | apply Drawn0.step)⟩
                case round =>
                  clear H'
                  try clear c1
                  try clear c2
                  try clear p2
                  try clear q2
                  try clear hx2
                  try clear c3
                  try clear c3b0
                  try clear c3b1
                  try clear c3b2
                  try clear c4
                  try clear c4b0
                  try clear c6
                  try clear c6b0
                  try clear c7
                  try clear c7b0
                  try clear c8
                  try clear c8b0
                  try clear c8b1
                  try clear c9
                  try clear c9b0
                  try clear c9b1
                  try clear c10
                  try clear hx221_0
                  try clear hx221_1
                  try clear hx221_2
                  try clear hx222_0
                  try clear hx222_1
                  try clear hx222_2
                  try clear hx223_0
                  try clear hx223_1
                  try clear hx223_2
                  try clear hx224_0
                  try clear hx224_1
                  try clear hx224_2
                  try clear hx225_0
                  try clear hx225_1
                  try clear hx225_2
                  try clear hx226_0
                  try clear hx226_1
                  try clear hx226_2
                  try clear p2
                  try clear p221
                  try clear p222
                  try clear p223
                  try clear p224
                  try clear p225
                  try clear p226
                  try clear q2
                  try clear q221
                  try clear q222
                  try clear q223
                  try clear q224
                  try clear q225
                  try clear q226
                  obtain ⟨x6_3, rfl, HA, HK3, ⟨m3, rfl⟩⟩ := hrel
                  cases gk with
                  | zero => exact absurd HA.out (by simp [cellarerref08_Same.l1])
                  | succ k3 =>
                    have H := HA.out
                    clear HA
                    simp only [cellarerref08_Same.l1] at H
                    by_cases c11 : 0 ≤ x5_1
                    · rw [if_pos c11] at H
                      have c11b0 : decide (0 ≤ x5_1) = true := decide_eq_true c11
                      clear c11
                      by_cases c12 : x5_1 < (l0.length : Int)
                      · rw [if_pos c12] at H
                        have c12b0 : decide (x5_1 < (l0.length : Int)) = true := decide_eq_true c12
                        clear c12
                        by_cases c13 : x6_3 < (((rd_T25 l0 x5_1).f2).length : Int)
                        · rw [if_pos c13] at H
                          have c13b0 : decide (x6_3 < (((rd_T25 l0 x5_1).f2).length : Int)) = true := decide_eq_true c13
                          clear c13
                          by_cases c14 : 0 ≤ x6_3
                          · rw [if_pos c14] at H
                            have c14b0 : decide (0 ≤ x6_3) = true := decide_eq_true c14
                            clear c14
                            by_cases c15 : x5_1 < (l1.length : Int)
                            · rw [if_pos c15] at H
                              have c15b0 : decide (x5_1 < (l1.length : Int)) = true := decide_eq_true c15
                              clear c15
                              by_cases c16 : x6_3 < (((rd_T25 l1 x5_1).f2).length : Int)
                              · rw [if_pos c16] at H
                                have c16b0 : decide (x6_3 < (((rd_T25 l1 x5_1).f2).length : Int)) = true := decide_eq_true c16
                                clear c16
                                by_cases c17 : (!(((rd_T40 ((rd_T25 l0 x5_1).f2) x6_3).f0) == ((rd_T40 ((rd_T25 l1 x5_1).f2) x6_3).f0)) || (!((((rd_T40 ((rd_T25 l0 x5_1).f2) x6_3).f1).toList) == (((rd_T40 ((rd_T25 l1 x5_1).f2) x6_3).f1).toList)))) = true
                                · rw [if_pos c17] at H
                                  have c17b0 : (!(((rd_T40 ((rd_T25 l0 x5_1).f2) x6_3).f0) == ((rd_T40 ((rd_T25 l1 x5_1).f2) x6_3).f0)) || (!((((rd_T40 ((rd_T25 l0 x5_1).f2) x6_3).f1).toList) == (((rd_T40 ((rd_T25 l1 x5_1).f2) x6_3).f1).toList)))) = true := c17
                                  clear c17
                                  obtain rfl := Option.some.inj H
                                  have p227 : 0 ≤ (x5_1 : Int) := of_decide_eq_true (by first | (with_reducible assumption) | assumption)
                                  have q227 : x5_1 < (l0.length : Int) := of_decide_eq_true (by first | (with_reducible assumption) | assumption)
                                  obtain ⟨ad227, A227_2, c227_2, e227, hx227_0, hx227_1, hx227_2, hl227_2, hi227_2⟩ := at_T25 HR0.out x5_1 p227 q227
                                  cases e227
                                  have HR227_2 := Aside0.mk hi227_2
                                  have HC227_2 := Aside0.mk hl227_2
                                  clear hi227_2 hl227_2
                                  replace p227 := eq_true p227
                                  replace q227 := eq_true q227
                                  have p228 : 0 ≤ (x5_1 : Int) := of_decide_eq_true (by first | (with_reducible assumption) | assumption)
                                  have q228 : x5_1 < (l0.length : Int) := of_decide_eq_true (by first | (with_reducible assumption) | assumption)
                                  obtain ⟨ad228, A228_2, c228_2, e228, hx228_0, hx228_1, hx228_2, hl228_2, hi228_2⟩ := at_T25 HR0.out x5_1 p228 q228
                                  obtain rfl : ad227 = ad228 := (by injection e228)
                                  have HR228_2 := Aside0.mk hi228_2
                                  have HC228_2 := Aside0.mk hl228_2
                                  clear hi228_2 hl228_2
                                  replace p228 := eq_true p228
                                  replace q228 := eq_true q228
                                  have ea_ := Option.some.inj (hx227_2.symm.trans hx228_2)
                                  injection ea_ with ea_ en_ ec_
                                  subst ea_
                                  subst ec_
                                  clear en_
                                  have p229 : 0 ≤ (x6_3 : Int) := of_decide_eq_true (by first | (with_reducible assumption) | assumption)
                                  have q229 : x6_3 < (((rd_T25 l0 x5_1).f2).length : Int) := of_decide_eq_true (by first | (with_reducible assumption) | assumption)
                                  obtain ⟨ad229, e229, hx229_0, hx229_1⟩ := at_T40 HR228_2.out x6_3 p229 q229
                                  cases e229
                                  replace p229 := eq_true p229
                                  replace q229 := eq_true q229
                                  have p230 : 0 ≤ (x5_1 : Int) := of_decide_eq_true (by first | (with_reducible assumption) | assumption)
                                  have q230 : x5_1 < (l1.length : Int) := of_decide_eq_true (by first | (with_reducible assumption) | assumption)
                                  obtain ⟨ad230, A230_2, c230_2, e230, hx230_0, hx230_1, hx230_2, hl230_2, hi230_2⟩ := at_T25 HR1.out x5_1 p230 q230
                                  cases e230
                                  have HR230_2 := Aside0.mk hi230_2
                                  have HC230_2 := Aside0.mk hl230_2
                                  clear hi230_2 hl230_2
                                  replace p230 := eq_true p230
                                  replace q230 := eq_true q230
                                  have p231 : 0 ≤ (x6_3 : Int) := of_decide_eq_true (by first | (with_reducible assumption) | assumption)
                                  have q231 : x6_3 < (((rd_T25 l1 x5_1).f2).length : Int) := of_decide_eq_true (by first | (with_reducible assumption) | assumption)
                                  obtain ⟨ad231, e231, hx231_0, hx231_1⟩ := at_T40 HR230_2.out x6_3 p231 q231
                                  cases e231
                                  replace p231 := eq_true p231
                                  replace q231 := eq_true q231
                                  go_wp2
                                  repeat (go_quiet (fail); try go_wp2)
                                  go_ret
                                  exact ⟨by first | rfl | (simp; done) | (simp [*]; done), by repeat (first | exact Drawn0.refl _ | apply Drawn0.step)⟩
                                · rw [if_neg c17] at H
                                  have c17b0 : (!(((rd_T40 ((rd_T25 l0 x5_1).f2) x6_3).f0) == ((rd_T40 ((rd_T25 l1 x5_1).f2) x6_3).f0)) || (!((((rd_T40 ((rd_T25 l0 x5_1).f2) x6_3).f1).toList) == (((rd_T40 ((rd_T25 l1 x5_1).f2) x6_3).f1).toList)))) = false := by simpa using c17
                                  clear c17
                                  have H' := Aside0.mk H
                                  clear H
                                  have p227 : 0 ≤ (x5_1 : Int) := of_decide_eq_true (by first | (with_reducible assumption) | assumption)
                                  have q227 : x5_1 < (l0.length : Int) := of_decide_eq_true (by first | (with_reducible assumption) | assumption)
                                  obtain ⟨ad227, A227_2, c227_2, e227, hx227_0, hx227_1, hx227_2, hl227_2, hi227_2⟩ := at_T25 HR0.out x5_1 p227 q227
                                  cases e227
                                  have HR227_2 := Aside0.mk hi227_2
                                  have HC227_2 := Aside0.mk hl227_2
                                  clear hi227_2 hl227_2
                                  replace p227 := eq_true p227
                                  replace q227 := eq_true q227
                                  have p228 : 0 ≤ (x5_1 : Int) := of_decide_eq_true (by first | (with_reducible assumption) | assumption)
                                  have q228 : x5_1 < (l0.length : Int) := of_decide_eq_true (by first | (with_reducible assumption) | assumption)
                                  obtain ⟨ad228, A228_2, c228_2, e228, hx228_0, hx228_1, hx228_2, hl228_2, hi228_2⟩ := at_T25 HR0.out x5_1 p228 q228
                                  obtain rfl : ad227 = ad228 := (by injection e228)
                                  have HR228_2 := Aside0.mk hi228_2
                                  have HC228_2 := Aside0.mk hl228_2
                                  clear hi228_2 hl228_2
                                  replace p228 := eq_true p228
                                  replace q228 := eq_true q228
                                  have ea_ := Option.some.inj (hx227_2.symm.trans hx228_2)
                                  injection ea_ with ea_ en_ ec_
                                  subst ea_
                                  subst ec_
                                  clear en_
                                  have p229 : 0 ≤ (x6_3 : Int) := of_decide_eq_true (by first | (with_reducible assumption) | assumption)
                                  have q229 : x6_3 < (((rd_T25 l0 x5_1).f2).length : Int) := of_decide_eq_true (by first | (with_reducible assumption) | assumption)
                                  obtain ⟨ad229, e229, hx229_0, hx229_1⟩ := at_T40 HR228_2.out x6_3 p229 q229
                                  cases e229
                                  replace p229 := eq_true p229
                                  replace q229 := eq_true q229
                                  have p230 : 0 ≤ (x5_1 : Int) := of_decide_eq_true (by first | (with_reducible assumption) | assumption)
                                  have q230 : x5_1 < (l1.length : Int) := of_decide_eq_true (by first | (with_reducible assumption) | assumption)
                                  obtain ⟨ad230, A230_2, c230_2, e230, hx230_0, hx230_1, hx230_2, hl230_2, hi230_2⟩ := at_T25 HR1.out x5_1 p230 q230
                                  cases e230
                                  have HR230_2 := Aside0.mk hi230_2
                                  have HC230_2 := Aside0.mk hl230_2
                                  clear hi230_2 hl230_2
                                  replace p230 := eq_true p230
                                  replace q230 := eq_true q230
                                  have p231 : 0 ≤ (x6_3 : Int) := of_decide_eq_true (by first | (with_reducible assumption) | assumption)
                                  have q231 : x6_3 < (((rd_T25 l1 x5_1).f2).length : Int) := of_decide_eq_true (by first | (with_reducible assumption) | assumption)
                                  obtain ⟨ad231, e231, hx231_0, hx231_1⟩ := at_T40 HR230_2.out x6_3 p231 q231
                                  cases e231
                                  replace p231 := eq_true p231
                                  replace q231 := eq_true q231
                                  go_wp2
                                  repeat (go_quiet (fail); try go_wp2)
                                  go_roundg k3
                                  case measure => have := HK1.out; have := HJ4.out; have := HK3.out; omega
                                  case rel => exact ⟨(wrap64 (x6_3 + 1)), (by first | rfl | (simp; done) | (simp [*]; done)), H', ⟨by have := HK1.out; have := HJ4.out; have := HK3.out; omega⟩, by repeat (first | exact Drawn0.refl _ | apply Drawn0.step)⟩
                              · rw [if_neg c16] at H
                                exact absurd H (by simp)
                            · rw [if_neg c15] at H
                              exact absurd H (by simp)
                          · rw [if_neg c14] at H
                            exact absurd H (by simp)
                        · rw [if_neg c13] at H
                          have c13b0 : decide (x6_3 < (((rd_T25 l0 x5_1).f2).length : Int)) = false := decide_eq_false c13
                          clear c13
                          have H' := Aside0.mk H
                          clear H
                          have p227 : 0 ≤ (x5_1 : Int) := of_decide_eq_true (by first | (with_reducible assumption) | assumption)
                          have q227 : x5_1 < (l0.length : Int) := of_decide_eq_true (by first | (with_reducible assumption) | assumption)
                          obtain ⟨ad227, A227_2, c227_2, e227, hx227_0, hx227_1, hx227_2, hl227_2, hi227_2⟩ := at_T25 HR0.out x5_1 p227 q227
                          cases e227
                          have HR227_2 := Aside0.mk hi227_2
                          have HC227_2 := Aside0.mk hl227_2
                          clear hi227_2 hl227_2
                          replace p227 := eq_true p227
                          replace q227 := eq_true q227
                          go_wp2
                          repeat (go_quiet (fail); try go_wp2)
                          go_roundg k3
                          case measure => have := HK1.out; have := HJ4.out; have := HK3.out; omega
                          case rel => exact ⟨(wrap64 (x5_1 + 1)), (by first | rfl | (simp; done) | (simp [*]; done)), H', ⟨by have := HK1.out; have := HJ4.out; have := HK3.out; omega⟩, by repeat (first | exact Drawn0.refl _ | apply Drawn0.step)⟩
                      · rw [if_neg c12] at H
                        exact absurd H (by simp)
                    · rw [if_neg c11] at H
                      exact absurd H (by simp)
        · rw [if_neg c4] at H
          have c4b0 : decide (x5_1 < (l0.length : Int)) = false := decide_eq_false c4
          clear c4
          obtain rfl := Option.some.inj H
          go_wp2
          repeat (go_quiet (fail); try go_wp2)
          go_ret
          exact ⟨by first | rfl | (simp; done) | (simp [*]; done), by repeat (first | exact Drawn0.refl _ | apply Drawn0.step)⟩
  · rw [if_neg c3] at H
    have c3b0 : ((l0.length : Int) == (l1.length : Int)) = false := beq_eq_false_iff_ne.mpr c3
    have c3b1 : ((l0.length : Int) != (l1.length : Int)) = true := bne_iff_ne.mpr c3
    have c3b2 : (l0.length == l1.length) = false := by first | simpa using c3 | (simp at c3 ⊢; omega)
    obtain rfl := Option.some.inj H
    go_enter Tryd.func21, Tryd.ntmps21
    go_wp2
    repeat (go_quiet (fail); try go_wp2)
    go_ret
    exact ⟨by first | rfl | (simp; done) | (simp [*]; done), by repeat (first | exact Drawn0.refl _ | apply Drawn0.step)⟩

-- NOT PRINTED: function 7 (cellarerlaw08_PartsGone)

end Go.Proofs.YtgpmkbmobdbdoaaDoor.Q

-- T1
namespace Go.Proofs.YtgpmkbmobdbdoaaDoor.Q
open Go.RowKit Go.Proofs.YtgpmkbmobdbdoaaDoorW.PrintWords Go.Proofs.YtgpmkbmobdbdoaaDoorW.PrintLast Go.Proofs.YtgpmkbmobdbdoaaDoorW.PrintMore
set_option linter.unusedVariables false
set_option linter.unusedSimpArgs false

def okb (c : UInt8) : Bool := decide (32 ≤ (c.toNat : Int)) && decide ((c.toNat : Int) ≤ 126)
def keyB (s : ByteArray) : Bool := decide (1 ≤ s.size) && (decide (s.size ≤ 60) && s.data.toList.all okb)
theorem plain_of (c : UInt8) : name_plain.f (c.toNat : Int) = some (okb c) := by
  unfold name_plain.f okb
  by_cases h : (c.toNat : Int) ≥ 32
  · rw [if_pos h]; simp [h]
  · rw [if_neg h]; simp [h]

theorem below_drewN (B : Nat) (w : World) (n : Nat) : Below B w (w.drewN n) := pw_below_drewN (Below.refl _ _) _
theorem quiet0 {P : Program} {f : FuncId} {args : Array Value} {w : World} {n : Nat} {v : Value} (h : Calls P f args (w.drewN n) fun e w' => e = .returned v ∧ Drawn0 (w.drewN n) w') :
    Calls P f args (w.drewN n) fun e w'' => e = .returned v ∧ ∃ m, w'' = w.drewN m :=
  Calls.quiet_of (h.mono fun _ _ h => ⟨h.1, h.2.out⟩)
set_option maxHeartbeats 1000000 in
set_option maxRecDepth 100000 in
theorem kind_is.calls (s : ByteArray) (w : World) :
    Calls Tryd.prog 58 #[.agg #[.int .i64 1, .int .i64 60, .func (.func 57) #[] #[]], .string s] w fun e w' => e = .returned (.bool (keyB s)) ∧ Below w.heap.size w w' := by
  have HB0 : Below w.heap.size w w := Below.refl _ _
  by_cases h1 : s.size < 1
  · have e1 : keyB s = false := by unfold keyB; simp; omega
    rw [e1]; clear e1
    go_enter Tryd.func58, Tryd.ntmps58
    go_wp2
    go_ret
    exact ⟨rfl, HB0.alloc (Nat.le_refl _) _⟩
  by_cases h2 : 60 < s.size
  · have e1 : keyB s = false := by unfold keyB; simp; omega
    rw [e1]; clear e1
    go_enter Tryd.func58, Tryd.ntmps58
    go_wp2
    go_ret
    exact ⟨rfl, HB0.alloc (Nat.le_refl _) _⟩
  have h1' : decide ((s.size : Int) < 1) = false := by simp; omega
  have h2' : decide (60 < (s.size : Int)) = false := by simp; omega
  go_enter Tryd.func58, Tryd.ntmps58
  go_wp2
  go_loopw [20] (fun i wr => ∃ k : Nat, i = .int .i64 k ∧ k ≤ s.size ∧ Hid ((s.data.toList.take k).all okb = true) ∧ Hid (wr.cell? ⟨w.heap.size, 2, none⟩ = some (.func (.func 57) #[] #[])) ∧ Hid (Below w.heap.size w wr)) (fun i _ => s.size - (intOf i).toNat)
  case atStart => exact ⟨0, rfl, Nat.zero_le _, by simp [Hid], by simp [Hid, go_sem], HB0.alloc (Nat.le_refl _) _⟩
  case round =>
    obtain ⟨k, rfl, hk, hall, hc, hb⟩ := hrel
    by_cases hlt : k < s.size
    · have hc' := hc.out
      by_cases hp : okb (s[k]) = true
      · have hq := plain_of (s[k])
        rw [hp] at hq
        have Hq := Lib.hid hq; clear hq
        have hall' : Hid ((s.data.toList.take (k+1)).all okb = true) := by
          unfold Hid
          have := hall.out
          rw [List.take_succ_eq_append_getElem (by simpa using hlt), List.all_append, this]
          simp only [List.all_cons, List.all_nil, Bool.and_true, Bool.true_and]; exact hp
        clear hp
        go_wp2
        go_quiet ((go_at_call 57; exact quiet0 (name_plain.calls _ true _ Hq.out)))
        go_wp2
        go_roundw
        case rel => exact ⟨k + 1, by go_num, by omega, hall', hc, hb.out.trans (below_drewN _ _ _)⟩
        case measure => simp [intOf]; omega
      · replace hp := Bool.eq_false_iff.2 hp
        have hq := plain_of (s[k])
        rw [hp] at hq
        have Hq := Lib.hid hq; clear hq
        have e1 : keyB s = false := by
          unfold keyB
          have : s.data.toList.all okb = false := by
            rw [List.all_eq_false]
            exact ⟨s[k], by simp [ByteArray.getElem_eq_getElem_data], by simpa using hp⟩
          rw [this]; simp
        have He := Lib.hid e1; clear e1 hp
        go_wp2
        go_quiet ((go_at_call 57; exact quiet0 (name_plain.calls _ false _ Hq.out)))
        go_wp2
        go_ret
        exact ⟨by rw [He.out]; rfl, hb.out.trans (below_drewN _ _ _)⟩
    · have e1 : keyB s = true := by
        have := hall.out
        rw [List.take_of_length_le (by simp; omega)] at this
        unfold keyB; rw [this]; simp; omega
      have He := Lib.hid e1; clear e1
      go_wp2
      go_ret
      exact ⟨by rw [He.out]; rfl, hb.out⟩
def name_Key.f (a0 : ByteArray) : Option Bool := some (keyB a0)
theorem name_Key.calls (a0 : ByteArray) (r : Bool) (w : World) (h : name_Key.f a0 = some r) :
    Calls Tryd.prog 33 #[.string a0] w fun e w' => e = .returned (.bool r) ∧ Below w.heap.size w w' := by
  obtain rfl := Option.some.inj h
  clear h
  go_enter Tryd.func33, Tryd.ntmps33
  go_wp2_with (go_at_call 58; refine (kind_is.calls a0 _).mono ?_; rintro e w' ⟨rfl, hb⟩; have HB := Lib.hid hb; clear hb)
  go_ret
  exact ⟨rfl, HB.out⟩
end Go.Proofs.YtgpmkbmobdbdoaaDoor.Q

-- T2
namespace Go.Proofs.YtgpmkbmobdbdoaaDoor.Q
open Go.RowKit Go.Proofs.YtgpmkbmobdbdoaaDoorW.PrintWords Go.Proofs.YtgpmkbmobdbdoaaDoorW.PrintLast Go.Proofs.YtgpmkbmobdbdoaaDoorW.PrintMore
set_option linter.unusedVariables false
set_option linter.unusedSimpArgs false

theorem once_disable (w : World) : (callFunc 94 #[]).run Tryd.prog w = .ok (.value (.tuple #[])) w := run_call_mark0 Tryd.func94 (by kernel_rfl) (by kernel_rfl) (by kernel_rfl) .disable (by kernel_rfl) w
theorem once_enable (w : World) : (callFunc 96 #[]).run Tryd.prog w = .ok (.value (.tuple #[])) w := run_call_mark0 Tryd.func96 (by kernel_rfl) (by kernel_rfl) (by kernel_rfl) .enable (by kernel_rfl) w
theorem once_acquire (a : Addr) (w : World) : (callFunc 97 #[.pointer (some a)]).run Tryd.prog w = .ok (.value (.tuple #[])) w := run_call_marked Tryd.func97 (by kernel_rfl) (by kernel_rfl) (by kernel_rfl) .acquire (by kernel_rfl) a w
theorem once_release (a : Addr) (w : World) : (callFunc 99 #[.pointer (some a)]).run Tryd.prog w = .ok (.value (.tuple #[])) w := run_call_marked Tryd.func99 (by kernel_rfl) (by kernel_rfl) (by kernel_rfl) .releaseMerge (by kernel_rfl) a w

theorem once_store (a : Addr) (x : Value) (u : FrameMode) (w : World) (hc : w.cell? a = some x) (hz : w.frozen? a = false) :
    CallsD Tryd.prog 82 #[.pointer (some a), .bool true] u w fun e u' w' => u' = u ∧ (e = .returned (.tuple #[]) ∧ w' = w.drew.setCell a (.int .u32 1)) := by
  have hc' : w.drew.cell? a = some x := by go_simp
  have hz' : w.drew.frozen? a = false := by go_simp
  have hst := run_call_store (P := Tryd.prog) Tryd.func90 (by kernel_rfl) (by kernel_rfl) (by kernel_rfl) (by kernel_rfl) (k := .u32) (y := 1) hc' hz'
  go_enter_d Tryd.func82, Tryd.ntmps82
  go_wp2
  go_region_calls
  all_goals (go_end0; exact ⟨rfl, rfl⟩)

set_option maxRecDepth 100000 in
set_option maxHeartbeats 1000000 in
theorem once_unlock (a : Addr) (u : FrameMode) (w : World) (hc : w.cell? a = some (.int .i32 1)) (hz : w.frozen? a = false) :
    CallsD Tryd.prog 81 #[.pointer (some a)] u w fun e u' w' => u' = u ∧ (e = .returned (.tuple #[]) ∧ w' = w.setCell a (.int .i32 0)) := by
  have hd := once_disable
  have he := once_enable
  have hr := once_release
  have hadd := run_call_add (P := Tryd.prog) Tryd.func100 (by kernel_rfl) (by kernel_rfl) (by kernel_rfl) .i32 (by kernel_rfl) (y := -1) (s := 0) hc hz (by simp [go_sem]; rfl)
  have hcv := run_convert_to_unsafe (P := Tryd.prog) (src := 147) (dst := 104) Tryd.underlying147 Tryd.underlying104 (by kernel_rfl) hc
  go_enter_d Tryd.func81, Tryd.ntmps81
  go_wp2
  go_end0
  go_wp2
  go_end0
  exact ⟨rfl, rfl⟩

set_option maxRecDepth 100000 in
set_option maxHeartbeats 1000000 in
theorem once_lock (a : Addr) (w : World) (hc : w.cell? a = some (.int .i32 0)) (hz : w.frozen? a = false) :
    Calls Tryd.prog 80 #[.pointer (some a)] w fun e w' => e = .returned (.tuple #[]) ∧ w' = w.setCell a (.int .i32 1) := by
  have hd := once_disable
  have he := once_enable
  have ha := once_acquire
  have hcas := run_call_cas_hit (P := Tryd.prog) Tryd.func95 (by kernel_rfl) (by kernel_rfl) (by kernel_rfl) .i32 (by kernel_rfl) (y := 1) hc hz
  have hc' : (w.setCell a (.int .i32 1)).cell? a = some (.int .i32 1) := World.cell?_setCell_same w a _ hc
  have hcv := run_convert_to_unsafe (P := Tryd.prog) (src := 147) (dst := 104) Tryd.underlying147 Tryd.underlying104 (by kernel_rfl) hc'
  go_enter Tryd.func80, Tryd.ntmps80
  go_wp2
  first | go_end0 | (simp only [Exit.inBlock, Exit.then]; refine bodyPost_ret (results_none rfl _ _ _) rfl ?_) | refine bodyPost_ret (results_none rfl _ _ _) rfl ?_
  go_wp2
  go_end0
  exact ⟨rfl, rfl⟩

structure Only (g : Nat) (w w' : World) : Prop where
  os : w'.os = w.os
  tape : w'.tape = w.tape
  output : w'.output = w.output
  size : w.heap.size ≤ w'.heap.size
  block : ∀ k, k < w.heap.size → k ≠ g → w'.heap[k]? = w.heap[k]?
theorem Only.refl (g : Nat) (w : World) : Only g w w := ⟨rfl, rfl, rfl, Nat.le_refl _, fun _ _ _ => rfl⟩
theorem Only.set {g : Nat} {w w' : World} (h : Only g w w') (j : Nat) (v : Value) : Only g w (w'.setCell ⟨g, j, none⟩ v) :=
  ⟨h.os, h.tape, h.output, by simpa [World.setCell] using h.size, fun k hk hg => (Below.heap_setCell _ _ _ _ hg).trans (h.block k hk hg)⟩
theorem Only.drewN {g : Nat} {w w' : World} (h : Only g w w') (n : Nat) : Only g w (w'.drewN n) := ⟨h.os, h.tape, h.output, h.size, h.block⟩
theorem Only.cell {g : Nat} {w w' : World} (h : Only g w w') {p : Addr} {v : Value} (hp : p.block ≠ g) (hc : w.cell? p = some v) : w'.cell? p = some v :=
  (World.cell?_of_block (w := w) (h.block p.block (World.block_lt_of_cell? w _ hc) hp)).trans hc
theorem Only.below {g B : Nat} {w0 w w' : World} (h : Only g w w') (hb : Below B w0 w) (hB : B ≤ w.heap.size) (hg : B ≤ g) : Below B w0 w' :=
  hb.trans ⟨h.os, h.tape, h.output, h.size, fun k hk => h.block k (by omega) (by omega)⟩

end Go.Proofs.YtgpmkbmobdbdoaaDoor.Q

-- T3
namespace Go.Proofs.YtgpmkbmobdbdoaaDoor.Q
open Go.RowKit Go.Proofs.YtgpmkbmobdbdoaaDoorW.PrintWords Go.Proofs.YtgpmkbmobdbdoaaDoorW.PrintLast Go.Proofs.YtgpmkbmobdbdoaaDoorW.PrintMore
set_option linter.unusedVariables false
set_option linter.unusedSimpArgs false

theorem bits32_range (op : BinOp) (x y : Int) : 0 ≤ bits op .u32 x y ∧ bits op .u32 x y < 4294967296 := by
  have : ∀ n : Int, IntKind.u32.wrap n = n % 4294967296 := fun n => by simp [IntKind.wrap, IntKind.bits, IntKind.signed]
  unfold bits
  rw [this]
  omega
theorem bits8_range (op : BinOp) (x y : Int) : 0 ≤ bits op .u8 x y ∧ bits op .u8 x y < 256 := by
  have : ∀ n : Int, IntKind.u8.wrap n = n % 256 := fun n => by simp [IntKind.wrap, IntKind.bits, IntKind.signed]
  unfold bits
  rw [this]
  omega
def tone (x : Int) : Int := bits .xor .u32 (x / 2) (2197175160 * bits .and .u32 x 1 % 4294967296)
def ttimes : Nat → Int → Int
  | 0, x => x
  | m + 1, x => tone (ttimes m x)
def tab (i : Nat) : Int := ttimes 8 i
theorem tone_range (x : Int) : 0 ≤ tone x ∧ tone x < 4294967296 := bits32_range _ _ _
def TabTo (k : Nat) (cs cs' : Array Value) : Prop := cs'.size = 259 ∧ cs'[0]? = cs[0]? ∧ cs'[1]? = cs[1]? ∧ ∀ i, i < k → cs'[3 + i]? = some (.int .u32 (tab i))
theorem TabTo.start {cs : Array Value} (h : cs.size = 259) : TabTo 0 cs cs := ⟨h, rfl, rfl, fun i hi => absurd hi (Nat.not_lt_zero _)⟩
theorem TabTo.step {k : Nat} {cs cs' : Array Value} (h : TabTo k cs cs') (hk : k < 256) {x : Int} (hx : ttimes 8 k = x) : TabTo (k + 1) cs (cs'.setIfInBounds (3 + k) (.int .u32 x)) := by
  obtain ⟨h1, h2, h3, h4⟩ := h
  refine ⟨by simpa using h1, ?_, ?_, fun i hi => ?_⟩
  · rw [Array.getElem?_setIfInBounds, if_neg (by omega)]; exact h2
  · rw [Array.getElem?_setIfInBounds, if_neg (by omega)]; exact h3
  · rw [Array.getElem?_setIfInBounds]
    by_cases e : i = k
    · subst e; rw [if_pos rfl, if_pos (by omega), ← hx]; rfl
    · rw [if_neg (by omega)]; exact h4 i (by omega)

set_option maxRecDepth 100000 in
set_option maxHeartbeats 1000000 in
theorem made_fill (b : Nat) (pl : Addr) (hpb : pl.block ≠ b) (cs : Array Value) (w : World) (hp : w.cell? pl = some (.pointer (some ⟨b, 0, none⟩)))
    (hb : w.heap[b]? = some (.cells cs 119 (0, 0))) (hsz : cs.size = 259) :
    Calls Tryd.prog 70 #[.pointer (some pl)] w fun e w' => e = .returned (.tuple #[]) ∧ Only b w w' ∧ ∃ cs', w'.heap[b]? = some (.cells cs' 119 (0, 0)) ∧ TabTo 256 cs cs' := by
  have HO := Only.refl b w
  have HP := Lib.hid hp; clear hp
  have HBK := Lib.hid hb; clear hb
  have HSZ := Lib.hid hsz; clear hsz
  go_enter Tryd.func70, Tryd.ntmps70
  go_wp2
  go_loopw [1, 2, 3] (fun _ _ i wr => ∃ (k : Nat) (cs' : Array Value), i = .int .i64 k ∧ k ≤ 256 ∧ Hid (Only b w wr) ∧ Hid (wr.heap[b]? = some (.cells cs' 119 (0, 0))) ∧ Hid (TabTo k cs cs')) (fun _ _ i _ => 256 - (intOf i).toNat)
  case atStart => exact ⟨0, cs, rfl, by omega, HO, HBK, TabTo.start HSZ.out⟩
  case round =>
    obtain ⟨k, cs', rfl, hk, ho, hbk, ht⟩ := hrel
    by_cases hlt : k < 256
    · go_wp2
      go_loop [2, 8] (fun c j => ∃ (m : Nat) (x : Int), j = .int .i64 m ∧ m ≤ 8 ∧ c = .int .u32 x ∧ 0 ≤ x ∧ x < 4294967296 ∧ Hid (ttimes m k = x)) (fun _ j => 8 - (intOf j).toNat)
      case atStart => exact ⟨0, k, rfl, by omega, rfl, by omega, by omega, rfl⟩
      case round =>
        obtain ⟨m, x, rfl, hm, rfl, hx0, hx1, hx⟩ := hrel
        by_cases hlt2 : m < 8
        · go_wp2
          go_round
          case rel => exact ⟨m + 1, _, by go_num, by omega, rfl, (tone_range x).1, (tone_range x).2, by unfold Hid; rw [← hx.out]; rfl⟩
          case measure => simp [intOf]; omega
        · obtain rfl : m = 8 := by omega
          have hP := ho.out.cell hpb HP.out
          obtain ⟨y, hy⟩ : ∃ y, wr.cell? ⟨b, 3 + k, none⟩ = some y := by
            rw [blk_cell hbk.out]; exact ⟨_, Array.getElem?_eq_getElem (by have := ht.out.1; omega)⟩
          have hf := blk_frozen hbk.out (3 + k)
          have hbk2 := Lib.hid (blk_set hbk.out (3 + k) (.int .u32 x))
          have ht2 := Lib.hid (ht.out.step hlt hx.out)
          go_wp2
          go_roundw
          case rel => exact ⟨k + 1, _, by go_num, by omega, ho.out.set _ _, hbk2, ht2⟩
          case measure => simp [intOf]; omega
    · obtain rfl : k = 256 := by omega
      go_wp2
      go_end0
      exact ⟨rfl, ho.out, cs', hbk.out, ht.out⟩
end Go.Proofs.YtgpmkbmobdbdoaaDoor.Q
