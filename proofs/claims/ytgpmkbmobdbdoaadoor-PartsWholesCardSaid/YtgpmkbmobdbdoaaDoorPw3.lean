/- The law PartsWholes returns true for every input that its row lets in (the tied card), under the row's own conditions and no others. Part 24 of 26. -/
import Derived.Test.YtgpmkbmobdbdoaaDoorPw1
import Derived.Test.YtgpmkbmobdbdoaaDoorPw2
import Derived.Lib.Hide
import Derived.Outline
import Derived.Tactics2
import Derived.Defers
import Derived.Laws.Pointers
import Derived.Laws.LoneSync
import Derived.RegionTactic
import Derived.RegionCalls
import Derived.ChangeAlike
import Derived.Lib.Builder
import Derived.Lib.AppendStr
import Derived.Shelf.Strings.Builder1
import Derived.Shelf.Strings.BuilderF
import Derived.Shelf.Strconv.Itoa0
import Derived.Shelf.Strconv.Itoa1
import Derived.Shelf.LaysM
import Derived.Shelf.Strconv.Itoa2
import Derived.Shelf.Strconv.Itoa3
import Derived.Test.YtgpmkbmobdbdoaaDoorProg
-- Qx7
namespace Go.Proofs.YtgpmkbmobdbdoaaDoor.Q
open Go.RowKit Go.Proofs.YtgpmkbmobdbdoaaDoorW.PrintWords Go.Proofs.YtgpmkbmobdbdoaaDoorW.PrintLast Go.Proofs.YtgpmkbmobdbdoaaDoorW.PrintMore
attribute [local go_sem] max2_int min2_int max_two min_two max_three min_three max_four min_four   -- for this text's walks alone
set_option linter.unusedVariables false
set_option linter.unusedSimpArgs false

/-! ### cellarerref08_Whole: function 10 -/
mutual
def cellarerref08_Whole.j0 : Nat → List (S48) → Bool → Int → ByteArray → List (S40) → Option (ByteArray × ByteArray × Int)
  | 0, _, _, _, _, _ => none
  | k + 1, x1, x23, x177000, x177001, x177002 => if x23 = true then (some ((⟨#[]⟩ : ByteArray), (⟨#[]⟩ : ByteArray), 1)) else (cellarerref08_Whole.l0 k x1 1 x177000 x177001 x177002)
def cellarerref08_Whole.l0 : Nat → List (S48) → Int → Int → ByteArray → List (S40) → Option (ByteArray × ByteArray × Int)
  | 0, _, _, _, _, _ => none
  | k + 1, x1, x7, x177000, x177001, x177002 => if x7 < (x1.length : Int) then (if 0 ≤ x7 then (if 0 ≤ (wrap64 (x7 - 1)) then (if (wrap64 (x7 - 1)) < (x1.length : Int) then (if ((rd_T48 x1 x7).f0) ≤ ((rd_T48 x1 (wrap64 (x7 - 1))).f0) then (some ((⟨#[]⟩ : ByteArray), (⟨#[]⟩ : ByteArray), 9)) else (cellarerref08_Whole.l0 k x1 (wrap64 (x7 + 1)) x177000 x177001 x177002)) else (none)) else (none)) else (none)) else (cellarerref08_Whole.l1 k x1 (⟨#[]⟩ : ByteArray) false false ([] : List Int) 0 x177000 x177001 x177002)
def cellarerref08_Whole.l1 : Nat → List (S48) → ByteArray → Bool → Bool → List Int → Int → Int → ByteArray → List (S40) → Option (ByteArray × ByteArray × Int)
  | 0, _, _, _, _, _, _, _, _, _ => none
  | k + 1, x1, x8, x9, x10, x11, x12, x177000, x177001, x177002 => if x12 < (x1.length : Int) then (cellarerref08_Whole.l2 k x1 x8 x9 x10 x11 x12 false 0 x177000 x177001 x177002) else (if x10 = true then (some ((⟨#[]⟩ : ByteArray), (⟨#[]⟩ : ByteArray), 4)) else (if x9 = true then (some ((⟨#[]⟩ : ByteArray), (⟨#[]⟩ : ByteArray), 3)) else (if (x8.size : Int) > 2000 then (some ((⟨#[]⟩ : ByteArray), (⟨#[]⟩ : ByteArray), 6)) else ((cellarerref04_Many.f k x11).bind fun t193 => (some (x8, t193, 0))))))
def cellarerref08_Whole.l2 : Nat → List (S48) → ByteArray → Bool → Bool → List Int → Int → Bool → Int → Int → ByteArray → List (S40) → Option (ByteArray × ByteArray × Int)
  | 0, _, _, _, _, _, _, _, _, _, _, _ => none
  | k + 1, x1, x8, x9, x10, x11, x12, x13, x14, x177000, x177001, x177002 => if x14 < (x177002.length : Int) then (if 0 ≤ x14 then (if 0 ≤ x12 then (if x12 < (x1.length : Int) then (if ((rd_T40 x177002 x14).f0) = ((rd_T48 x1 x12).f0) then ((cellarerref04_Of.f k ((rd_T40 x177002 x14).f1)).bind fun t183 => (if t183 = ((rd_T48 x1 x12).f1) then (if x8.size + ((rd_T40 x177002 x14).f1).size ≤ 9223372036854775807 then (if x9 = true then (cellarerref08_Whole.l2 k x1 (x8 ++ ((rd_T40 x177002 x14).f1)) true x10 x11 x12 true (wrap64 (x14 + 1)) x177000 x177001 x177002) else (if x12 < (wrap64 ((x1.length : Int) - 1)) then (cellarerref08_Whole.l2 k x1 (x8 ++ ((rd_T40 x177002 x14).f1)) (decide ((((rd_T40 x177002 x14).f1).size : Int) < 5)) x10 x11 x12 true (wrap64 (x14 + 1)) x177000 x177001 x177002) else (cellarerref08_Whole.l2 k x1 (x8 ++ ((rd_T40 x177002 x14).f1)) false x10 x11 x12 true (wrap64 (x14 + 1)) x177000 x177001 x177002))) else (none)) else (cellarerref08_Whole.l2 k x1 x8 x9 x10 x11 x12 x13 (wrap64 (x14 + 1)) x177000 x177001 x177002))) else (cellarerref08_Whole.l2 k x1 x8 x9 x10 x11 x12 x13 (wrap64 (x14 + 1)) x177000 x177001 x177002)) else (none)) else (none)) else (none)) else (if x10 = true then (if 0 ≤ x12 then (if x12 < (x1.length : Int) then (if x11.length < 35184372088832 then (cellarerref08_Whole.l1 k x1 x8 x9 true (x11 ++ [(rd_T48 x1 x12).f1]) (wrap64 (x12 + 1)) x177000 x177001 x177002) else (none)) else (none)) else (none)) else (if 0 ≤ x12 then (if x12 < (x1.length : Int) then (if x11.length < 35184372088832 then (cellarerref08_Whole.l1 k x1 x8 x9 (!x13) (x11 ++ [(rd_T48 x1 x12).f1]) (wrap64 (x12 + 1)) x177000 x177001 x177002) else (none)) else (none)) else (none)))
end
def cellarerref08_Whole.f (k : Nat) (a0_0 : Int) (a0_1 : ByteArray) (l0_2 : List (S40)) (l1 : List (S48)) : Option (ByteArray × ByteArray × Int) := (cellarerref08_One.f k a0_0 a0_1 l0_2).bind fun t177 => (if t177 = true then (cellarerref08_Whole.j0 k l1 ((l1.length : Int) == 0) a0_0 a0_1 l0_2) else (cellarerref08_Whole.j0 k l1 true a0_0 a0_1 l0_2))
theorem cellarerref08_Whole.mono_l : ∀ k, (∀ y0 y1 y2 y3 y4, LeO (cellarerref08_Whole.j0 k y0 y1 y2 y3 y4) (cellarerref08_Whole.j0 (k + 1) y0 y1 y2 y3 y4)) ∧ (∀ y0 y1 y2 y3 y4, LeO (cellarerref08_Whole.l0 k y0 y1 y2 y3 y4) (cellarerref08_Whole.l0 (k + 1) y0 y1 y2 y3 y4)) ∧ (∀ y0 y1 y2 y3 y4 y5 y6 y7 y8, LeO (cellarerref08_Whole.l1 k y0 y1 y2 y3 y4 y5 y6 y7 y8) (cellarerref08_Whole.l1 (k + 1) y0 y1 y2 y3 y4 y5 y6 y7 y8)) ∧ (∀ y0 y1 y2 y3 y4 y5 y6 y7 y8 y9 y10, LeO (cellarerref08_Whole.l2 k y0 y1 y2 y3 y4 y5 y6 y7 y8 y9 y10) (cellarerref08_Whole.l2 (k + 1) y0 y1 y2 y3 y4 y5 y6 y7 y8 y9 y10))
  | 0 => ⟨fun _ _ _ _ _ r h => by simp [cellarerref08_Whole.j0] at h, fun _ _ _ _ _ r h => by simp [cellarerref08_Whole.l0] at h, fun _ _ _ _ _ _ _ _ _ r h => by simp [cellarerref08_Whole.l1] at h, fun _ _ _ _ _ _ _ _ _ _ _ r h => by simp [cellarerref08_Whole.l2] at h⟩
  | k + 1 => by
    obtain ⟨ih0, ih1, ih2, ih3⟩ := cellarerref08_Whole.mono_l k
    refine ⟨?_, ?_, ?_, ?_⟩
    · intro y0 y1 y2 y3 y4
      unfold cellarerref08_Whole.j0
      repeat' first
      | (with_reducible exact ih0 _ _ _ _ _)
      | (with_reducible exact ih1 _ _ _ _ _)
      | (with_reducible exact ih2 _ _ _ _ _ _ _ _ _)
      | (with_reducible exact ih3 _ _ _ _ _ _ _ _ _ _ _)
      | (with_reducible exact cellarerref04_Many.mono _ _)
      | (with_reducible exact cellarerref04_Of.mono _ _)
      | (with_reducible exact cellarerref08_One.mono _ _ _ _)
      | (with_reducible exact LeO.refl _)
      | (with_reducible exact LeO.none _)
      | (with_reducible refine LeO.ite ?_ ?_)
      | (with_reducible refine LeO.bind ?_ (fun _ => ?_))
      | exact ih0 _ _ _ _ _
      | exact ih1 _ _ _ _ _
      | exact ih2 _ _ _ _ _ _ _ _ _
      | exact ih3 _ _ _ _ _ _ _ _ _ _ _
      | exact cellarerref04_Many.mono _ _
      | exact cellarerref04_Of.mono _ _
      | exact cellarerref08_One.mono _ _ _ _
      | exact LeO.none _
      | refine LeO.ite ?_ ?_
      | refine LeO.bind ?_ (fun _ => ?_)
    · intro y0 y1 y2 y3 y4
      unfold cellarerref08_Whole.l0
      repeat' first
      | (with_reducible exact ih0 _ _ _ _ _)
      | (with_reducible exact ih1 _ _ _ _ _)
      | (with_reducible exact ih2 _ _ _ _ _ _ _ _ _)
      | (with_reducible exact ih3 _ _ _ _ _ _ _ _ _ _ _)
      | (with_reducible exact cellarerref04_Many.mono _ _)
      | (with_reducible exact cellarerref04_Of.mono _ _)
      | (with_reducible exact cellarerref08_One.mono _ _ _ _)
      | (with_reducible exact LeO.refl _)
      | (with_reducible exact LeO.none _)
      | (with_reducible refine LeO.ite ?_ ?_)
      | (with_reducible refine LeO.bind ?_ (fun _ => ?_))
      | exact ih0 _ _ _ _ _
      | exact ih1 _ _ _ _ _
      | exact ih2 _ _ _ _ _ _ _ _ _
      | exact ih3 _ _ _ _ _ _ _ _ _ _ _
      | exact cellarerref04_Many.mono _ _
      | exact cellarerref04_Of.mono _ _
      | exact cellarerref08_One.mono _ _ _ _
      | exact LeO.none _
      | refine LeO.ite ?_ ?_
      | refine LeO.bind ?_ (fun _ => ?_)
    · intro y0 y1 y2 y3 y4 y5 y6 y7 y8
      unfold cellarerref08_Whole.l1
      repeat' first
      | (with_reducible exact ih0 _ _ _ _ _)
      | (with_reducible exact ih1 _ _ _ _ _)
      | (with_reducible exact ih2 _ _ _ _ _ _ _ _ _)
      | (with_reducible exact ih3 _ _ _ _ _ _ _ _ _ _ _)
      | (with_reducible exact cellarerref04_Many.mono _ _)
      | (with_reducible exact cellarerref04_Of.mono _ _)
      | (with_reducible exact cellarerref08_One.mono _ _ _ _)
      | (with_reducible exact LeO.refl _)
      | (with_reducible exact LeO.none _)
      | (with_reducible refine LeO.ite ?_ ?_)
      | (with_reducible refine LeO.bind ?_ (fun _ => ?_))
      | exact ih0 _ _ _ _ _
      | exact ih1 _ _ _ _ _
      | exact ih2 _ _ _ _ _ _ _ _ _
      | exact ih3 _ _ _ _ _ _ _ _ _ _ _
      | exact cellarerref04_Many.mono _ _
      | exact cellarerref04_Of.mono _ _
      | exact cellarerref08_One.mono _ _ _ _
      | exact LeO.none _
      | refine LeO.ite ?_ ?_
      | refine LeO.bind ?_ (fun _ => ?_)
    · intro y0 y1 y2 y3 y4 y5 y6 y7 y8 y9 y10
      unfold cellarerref08_Whole.l2
      repeat' first
      | (with_reducible exact ih0 _ _ _ _ _)
      | (with_reducible exact ih1 _ _ _ _ _)
      | (with_reducible exact ih2 _ _ _ _ _ _ _ _ _)
      | (with_reducible exact ih3 _ _ _ _ _ _ _ _ _ _ _)
      | (with_reducible exact cellarerref04_Many.mono _ _)
      | (with_reducible exact cellarerref04_Of.mono _ _)
      | (with_reducible exact cellarerref08_One.mono _ _ _ _)
      | (with_reducible exact LeO.refl _)
      | (with_reducible exact LeO.none _)
      | (with_reducible refine LeO.ite ?_ ?_)
      | (with_reducible refine LeO.bind ?_ (fun _ => ?_))
      | exact ih0 _ _ _ _ _
      | exact ih1 _ _ _ _ _
      | exact ih2 _ _ _ _ _ _ _ _ _
      | exact ih3 _ _ _ _ _ _ _ _ _ _ _
      | exact cellarerref04_Many.mono _ _
      | exact cellarerref04_Of.mono _ _
      | exact cellarerref08_One.mono _ _ _ _
      | exact LeO.none _
      | refine LeO.ite ?_ ?_
      | refine LeO.bind ?_ (fun _ => ?_)
theorem cellarerref08_Whole.mono : ∀ a0 a1 a2 a3 k, LeO (cellarerref08_Whole.f k a0 a1 a2 a3) (cellarerref08_Whole.f (k + 1) a0 a1 a2 a3) := by
  intro a0 a1 a2 a3 k
  obtain ⟨ih0, ih1, ih2, ih3⟩ := cellarerref08_Whole.mono_l k
  unfold cellarerref08_Whole.f
  repeat' first
      | (with_reducible exact ih0 _ _ _ _ _)
      | (with_reducible exact ih1 _ _ _ _ _)
      | (with_reducible exact ih2 _ _ _ _ _ _ _ _ _)
      | (with_reducible exact ih3 _ _ _ _ _ _ _ _ _ _ _)
      | (with_reducible exact cellarerref04_Many.mono _ _)
      | (with_reducible exact cellarerref04_Of.mono _ _)
      | (with_reducible exact cellarerref08_One.mono _ _ _ _)
      | (with_reducible exact LeO.refl _)
      | (with_reducible exact LeO.none _)
      | (with_reducible refine LeO.ite ?_ ?_)
      | (with_reducible refine LeO.bind ?_ (fun _ => ?_))
      | exact ih0 _ _ _ _ _
      | exact ih1 _ _ _ _ _
      | exact ih2 _ _ _ _ _ _ _ _ _
      | exact ih3 _ _ _ _ _ _ _ _ _ _ _
      | exact cellarerref04_Many.mono _ _
      | exact cellarerref04_Of.mono _ _
      | exact cellarerref08_One.mono _ _ _ _
      | exact LeO.none _
      | refine LeO.ite ?_ ?_
      | refine LeO.bind ?_ (fun _ => ?_)
set_option maxHeartbeats 8000000 in
set_option maxRecDepth 100000 in
theorem cellarerref08_Whole.calls (k : Nat) (a0_0 : Int) (a0_1 : ByteArray) (A0_2 : Option Addr) (c0_2 : Nat) (l0_2 : List (S40)) (A1 : Option Addr) (c1 : Nat) (l1 : List (S48)) (r1 : ByteArray) (r2 : ByteArray) (r3 : Int) (w : World) (hr0_2 : Kd.C k40 w A0_2 l0_2.length l0_2) (hc0_2 : l0_2.length ≤ c0_2) (hr1 : Kd.C k48 w A1 l1.length l1) (hc1 : l1.length ≤ c1) (h : cellarerref08_Whole.f k a0_0 a0_1 l0_2 l1 = some (r1, r2, r3)) :
    Calls Tryd.prog 10 #[.agg #[.int .u64 a0_0, .string a0_1, .slice A0_2 l0_2.length c0_2], .slice A1 l1.length c1] w fun e w' => e = .returned (.tuple #[.string r1, .string r2, .int .i64 r3]) ∧ Below w.heap.size w w' := by
  have hu25 := Tryd.underlying25
  have hu40 := Tryd.underlying40
  have HR0_2 := Aside0.mk hr0_2
  have HC0_2 := Aside0.mk hc0_2
  clear hr0_2 hc0_2
  have HR1 := Aside0.mk hr1
  have HC1 := Aside0.mk hc1
  clear hr1 hc1
  have HB := Aside0.mk (Below.refl w.heap.size w)
  have H : ((cellarerref08_One.f k a0_0 a0_1 l0_2).bind fun t177 => (if t177 = true then (cellarerref08_Whole.j0 k l1 ((l1.length : Int) == 0) a0_0 a0_1 l0_2) else (cellarerref08_Whole.j0 k l1 true a0_0 a0_1 l0_2))) = some (r1, r2, r3) := h
  clear h
  have HC3 := Aside0.mk H
  clear H
  go_enter Tryd.func10, Tryd.ntmps10
  go_upto_region 1 with (first | ((with_reducible refine gate_dst (N := 2) rfl ?_); (try (refine gate_guard (by rfl) ?_; dsimp only)); refine box_event ?hg (N := 2) ?hd (cs := #[.int .u64 a0_0, .string a0_1, .slice A0_2 l0_2.length c0_2]) (t := 25) ?hr ?_; (case hd => rfl); (case hg => rfl); (case hr => first | (go_simp; done) | (go_simp; rfl)); intro gb176 hg w4 hbox hb; have n0_ := Aside0.mk (below_step (by repeat (first | (with_reducible first | exact HB.out | apply below_alloc | apply pw_below_drewN | apply below_drew1) | exact HB.out)) hb); have n1_ := Aside0.mk (hbox); have n2_ := Aside0.mk ((by rw [hg]; exact (below_size (by repeat (first | (with_reducible first | exact HB.out | apply below_alloc | apply pw_below_drewN | apply below_drew1) | exact HB.out))) : w.heap.size ≤ gb176)); have n3_ := Aside0.mk ((by rw [hg]; exact (below_size (by repeat (first | (with_reducible first | exact HB.out | apply below_alloc | apply pw_below_drewN | apply below_drew1) | exact HB.out))) : w.heap.size ≤ gb176)); clear HB; have HB := n0_; have BK176 := n1_; have GW176 := n2_; have GE176 := n3_; clear n0_ n1_ n2_ n3_; clear hb hbox hg))
  repeat (go_quiet (first | ((with_reducible refine gate_dst (N := 2) rfl ?_); (try (refine gate_guard (by rfl) ?_; dsimp only)); refine box_event ?hg (N := 2) ?hd (cs := #[.int .u64 a0_0, .string a0_1, .slice A0_2 l0_2.length c0_2]) (t := 25) ?hr ?_; (case hd => rfl); (case hg => rfl); (case hr => first | (go_simp; done) | (go_simp; rfl)); intro gb176 hg w4 hbox hb; have n0_ := Aside0.mk (below_step (by repeat (first | (with_reducible first | exact HB.out | apply below_alloc | apply pw_below_drewN | apply below_drew1) | exact HB.out)) hb); have n1_ := Aside0.mk (hbox); have n2_ := Aside0.mk ((by rw [hg]; exact (below_size (by repeat (first | (with_reducible first | exact HB.out | apply below_alloc | apply pw_below_drewN | apply below_drew1) | exact HB.out))) : w.heap.size ≤ gb176)); have n3_ := Aside0.mk ((by rw [hg]; exact (below_size (by repeat (first | (with_reducible first | exact HB.out | apply below_alloc | apply pw_below_drewN | apply below_drew1) | exact HB.out))) : w.heap.size ≤ gb176)); clear HB; have HB := n0_; have BK176 := n1_; have GW176 := n2_; have GE176 := n3_; clear n0_ n1_ n2_ n3_; clear hb hbox hg)); go_upto_region 1 with (first | ((with_reducible refine gate_dst (N := 2) rfl ?_); (try (refine gate_guard (by rfl) ?_; dsimp only)); refine box_event ?hg (N := 2) ?hd (cs := #[.int .u64 a0_0, .string a0_1, .slice A0_2 l0_2.length c0_2]) (t := 25) ?hr ?_; (case hd => rfl); (case hg => rfl); (case hr => first | (go_simp; done) | (go_simp; rfl)); intro gb176 hg w4 hbox hb; have n0_ := Aside0.mk (below_step (by repeat (first | (with_reducible first | exact HB.out | apply below_alloc | apply pw_below_drewN | apply below_drew1) | exact HB.out)) hb); have n1_ := Aside0.mk (hbox); have n2_ := Aside0.mk ((by rw [hg]; exact (below_size (by repeat (first | (with_reducible first | exact HB.out | apply below_alloc | apply pw_below_drewN | apply below_drew1) | exact HB.out))) : w.heap.size ≤ gb176)); have n3_ := Aside0.mk ((by rw [hg]; exact (below_size (by repeat (first | (with_reducible first | exact HB.out | apply below_alloc | apply pw_below_drewN | apply below_drew1) | exact HB.out))) : w.heap.size ≤ gb176)); clear HB; have HB := n0_; have BK176 := n1_; have GW176 := n2_; have GE176 := n3_; clear n0_ n1_ n2_ n3_; clear hb hbox hg)))
  (try simp only [Act.put, List.setIfInBounds_toArray, List.set_cons_zero, List.set_cons_succ])
  go_cut [23] (fun v23 wc => ∃ (kq : Nat) (x23_2 : Bool), v23 = .bool x23_2 ∧ Aside0 (cellarerref08_Whole.j0 kq l1 x23_2 a0_0 a0_1 l0_2 = some (r1, r2, r3)) ∧ Aside0 (kq ≤ k) ∧ Aside0 (wc.heap[gb176]? = some (.cells #[.int .u64 a0_0, .string a0_1, (.slice A0_2 l0_2.length c0_2)] 25 (0, 0))) ∧ Aside0 (Below w.heap.size w wc))
  case first =>
    have H := HC3.out
    clear HC3
    replace H := Option.bind_eq_some_iff.mp H
    obtain ⟨t177, A50, H⟩ := H
    replace H : (if t177 = true then (cellarerref08_Whole.j0 k l1 ((l1.length : Int) == 0) a0_0 a0_1 l0_2) else (cellarerref08_Whole.j0 k l1 true a0_0 a0_1 l0_2)) = some (r1, r2, r3) := H
    have A5 := Aside0.mk A50
    clear A50
    by_cases c6 : t177 = true
    · subst c6
      have H1 : (cellarerref08_Whole.j0 k l1 ((l1.length : Int) == 0) a0_0 a0_1 l0_2) = some (r1, r2, r3) := by rw [if_pos rfl] at H; exact H
      clear H
      have H := H1
      clear H1
      have H' := Aside0.mk H
      clear H
      have hcz7_0 : w4.cell? ⟨gb176, 0, none⟩ = some (.int .u64 a0_0) := (blk_cell BK176.out 0).trans rfl
      have hcz7_1 : w4.cell? ⟨gb176, 1, none⟩ = some (.string a0_1) := (blk_cell BK176.out 1).trans rfl
      have hcz7_2 : w4.cell? ⟨gb176, 2, none⟩ = some (.slice A0_2 l0_2.length c0_2) := (blk_cell BK176.out 2).trans rfl
      have hfz7_0 := blk_frozen BK176.out 0
      have hfz7_1 := blk_frozen BK176.out 1
      have hfz7_2 := blk_frozen BK176.out 2
      go_wp2_with (first | (go_at_call 30; (with_reducible refine (cellarerref08_One.calls k a0_0 a0_1 _ _ l0_2 true _ ?side1 ?side2 A5.out).mono ?_); (case side1 => repeat (first | exact (Kd.C_below HR0_2.out HB.out) | (with_reducible refine Kd.C_alloc ?_ _) | (with_reducible refine Kd.C_drewN ?_ _) | (with_reducible refine Kd.C_drew ?_))); (case side2 => exact HC0_2.out); rintro e w8 ⟨rfl, hb⟩; have n0_ := Aside0.mk (blk_below (g := gb176) (o := .cells #[.int .u64 a0_0, .string a0_1, .slice A0_2 l0_2.length c0_2] 25 (0, 0)) (by (with_reducible repeat (first | refine blk_drewN ?_ _ | refine blk_drew ?_ | refine blk_alloc ?_ _)); exact BK176.out) hb); have n1_ := Aside0.mk (below_step (by repeat (first | (with_reducible first | exact HB.out | apply below_alloc | apply pw_below_drewN | apply below_drew1 | refine below_set ?_ GE176.out) | exact HB.out)) hb); clear BK176; clear HB; have BK176 := n0_; have HB := n1_; clear n0_ n1_; (try clear hb); (try clear hb2); (try clear hk); (try clear hi)))
      repeat (go_quiet (first | (go_at_call 30; (with_reducible refine (cellarerref08_One.calls k a0_0 a0_1 _ _ l0_2 true _ ?side1 ?side2 A5.out).mono ?_); (case side1 => repeat (first | exact (Kd.C_below HR0_2.out HB.out) | (with_reducible refine Kd.C_alloc ?_ _) | (with_reducible refine Kd.C_drewN ?_ _) | (with_reducible refine Kd.C_drew ?_))); (case side2 => exact HC0_2.out); rintro e w8 ⟨rfl, hb⟩; have n0_ := Aside0.mk (blk_below (g := gb176) (o := .cells #[.int .u64 a0_0, .string a0_1, .slice A0_2 l0_2.length c0_2] 25 (0, 0)) (by (with_reducible repeat (first | refine blk_drewN ?_ _ | refine blk_drew ?_ | refine blk_alloc ?_ _)); exact BK176.out) hb); have n1_ := Aside0.mk (below_step (by repeat (first | (with_reducible first | exact HB.out | apply below_alloc | apply pw_below_drewN | apply below_drew1 | refine below_set ?_ GE176.out) | exact HB.out)) hb); clear BK176; clear HB; have BK176 := n0_; have HB := n1_; clear n0_ n1_; (try clear hb); (try clear hb2); (try clear hk); (try clear hi))); try go_wp2_with (first | (go_at_call 30; (with_reducible refine (cellarerref08_One.calls k a0_0 a0_1 _ _ l0_2 true _ ?side1 ?side2 A5.out).mono ?_); (case side1 => repeat (first | exact (Kd.C_below HR0_2.out HB.out) | (with_reducible refine Kd.C_alloc ?_ _) | (with_reducible refine Kd.C_drewN ?_ _) | (with_reducible refine Kd.C_drew ?_))); (case side2 => exact HC0_2.out); rintro e w8 ⟨rfl, hb⟩; have n0_ := Aside0.mk (blk_below (g := gb176) (o := .cells #[.int .u64 a0_0, .string a0_1, .slice A0_2 l0_2.length c0_2] 25 (0, 0)) (by (with_reducible repeat (first | refine blk_drewN ?_ _ | refine blk_drew ?_ | refine blk_alloc ?_ _)); exact BK176.out) hb); have n1_ := Aside0.mk (below_step (by repeat (first | (with_reducible first | exact HB.out | apply below_alloc | apply pw_below_drewN | apply below_drew1 | refine below_set ?_ GE176.out) | exact HB.out)) hb); clear BK176; clear HB; have BK176 := n0_; have HB := n1_; clear n0_ n1_; (try clear hb); (try clear hb2); (try clear hk); (try clear hi))))
      go_meet
      case rel => exact ⟨_, (((l1.length : Int) == 0)), (by first | rfl | (simp; done) | (simp [*]; done)), H', ⟨by first | omega | exact Nat.le_refl _⟩, ⟨by (with_reducible repeat (first | refine blk_drewN ?_ _ | refine blk_drew ?_ | refine blk_alloc ?_ _)); exact BK176.out⟩, ⟨by repeat (first | (with_reducible first | exact HB.out | apply below_alloc | apply pw_below_drewN | apply below_drew1 | refine below_set ?_ GE176.out) | exact HB.out)⟩⟩
    · replace c6 := Bool.eq_false_iff.mpr c6
      subst c6
      have H1 : (cellarerref08_Whole.j0 k l1 true a0_0 a0_1 l0_2) = some (r1, r2, r3) := by rw [if_neg (show ¬ (false = true) by decide)] at H; exact H
      clear H
      have H := H1
      clear H1
      have H' := Aside0.mk H
      clear H
      have hcz9_0 : w4.cell? ⟨gb176, 0, none⟩ = some (.int .u64 a0_0) := (blk_cell BK176.out 0).trans rfl
      have hcz9_1 : w4.cell? ⟨gb176, 1, none⟩ = some (.string a0_1) := (blk_cell BK176.out 1).trans rfl
      have hcz9_2 : w4.cell? ⟨gb176, 2, none⟩ = some (.slice A0_2 l0_2.length c0_2) := (blk_cell BK176.out 2).trans rfl
      have hfz9_0 := blk_frozen BK176.out 0
      have hfz9_1 := blk_frozen BK176.out 1
      have hfz9_2 := blk_frozen BK176.out 2
      go_wp2_with (first | (go_at_call 30; (with_reducible refine (cellarerref08_One.calls k a0_0 a0_1 _ _ l0_2 false _ ?side1 ?side2 A5.out).mono ?_); (case side1 => repeat (first | exact (Kd.C_below HR0_2.out HB.out) | (with_reducible refine Kd.C_alloc ?_ _) | (with_reducible refine Kd.C_drewN ?_ _) | (with_reducible refine Kd.C_drew ?_))); (case side2 => exact HC0_2.out); rintro e w10 ⟨rfl, hb⟩; have n0_ := Aside0.mk (blk_below (g := gb176) (o := .cells #[.int .u64 a0_0, .string a0_1, .slice A0_2 l0_2.length c0_2] 25 (0, 0)) (by (with_reducible repeat (first | refine blk_drewN ?_ _ | refine blk_drew ?_ | refine blk_alloc ?_ _)); exact BK176.out) hb); have n1_ := Aside0.mk (below_step (by repeat (first | (with_reducible first | exact HB.out | apply below_alloc | apply pw_below_drewN | apply below_drew1 | refine below_set ?_ GE176.out) | exact HB.out)) hb); clear BK176; clear HB; have BK176 := n0_; have HB := n1_; clear n0_ n1_; (try clear hb); (try clear hb2); (try clear hk); (try clear hi)))
      repeat (go_quiet (first | (go_at_call 30; (with_reducible refine (cellarerref08_One.calls k a0_0 a0_1 _ _ l0_2 false _ ?side1 ?side2 A5.out).mono ?_); (case side1 => repeat (first | exact (Kd.C_below HR0_2.out HB.out) | (with_reducible refine Kd.C_alloc ?_ _) | (with_reducible refine Kd.C_drewN ?_ _) | (with_reducible refine Kd.C_drew ?_))); (case side2 => exact HC0_2.out); rintro e w10 ⟨rfl, hb⟩; have n0_ := Aside0.mk (blk_below (g := gb176) (o := .cells #[.int .u64 a0_0, .string a0_1, .slice A0_2 l0_2.length c0_2] 25 (0, 0)) (by (with_reducible repeat (first | refine blk_drewN ?_ _ | refine blk_drew ?_ | refine blk_alloc ?_ _)); exact BK176.out) hb); have n1_ := Aside0.mk (below_step (by repeat (first | (with_reducible first | exact HB.out | apply below_alloc | apply pw_below_drewN | apply below_drew1 | refine below_set ?_ GE176.out) | exact HB.out)) hb); clear BK176; clear HB; have BK176 := n0_; have HB := n1_; clear n0_ n1_; (try clear hb); (try clear hb2); (try clear hk); (try clear hi))); try go_wp2_with (first | (go_at_call 30; (with_reducible refine (cellarerref08_One.calls k a0_0 a0_1 _ _ l0_2 false _ ?side1 ?side2 A5.out).mono ?_); (case side1 => repeat (first | exact (Kd.C_below HR0_2.out HB.out) | (with_reducible refine Kd.C_alloc ?_ _) | (with_reducible refine Kd.C_drewN ?_ _) | (with_reducible refine Kd.C_drew ?_))); (case side2 => exact HC0_2.out); rintro e w10 ⟨rfl, hb⟩; have n0_ := Aside0.mk (blk_below (g := gb176) (o := .cells #[.int .u64 a0_0, .string a0_1, .slice A0_2 l0_2.length c0_2] 25 (0, 0)) (by (with_reducible repeat (first | refine blk_drewN ?_ _ | refine blk_drew ?_ | refine blk_alloc ?_ _)); exact BK176.out) hb); have n1_ := Aside0.mk (below_step (by repeat (first | (with_reducible first | exact HB.out | apply below_alloc | apply pw_below_drewN | apply below_drew1 | refine below_set ?_ GE176.out) | exact HB.out)) hb); clear BK176; clear HB; have BK176 := n0_; have HB := n1_; clear n0_ n1_; (try clear hb); (try clear hb2); (try clear hk); (try clear hi))))
      go_meet
      case rel => exact ⟨_, (true), (by first | rfl | (simp; done) | (simp [*]; done)), H', ⟨by first | omega | exact Nat.le_refl _⟩, ⟨by (with_reducible repeat (first | refine blk_drewN ?_ _ | refine blk_drew ?_ | refine blk_alloc ?_ _)); exact BK176.out⟩, ⟨by repeat (first | (with_reducible first | exact HB.out | apply below_alloc | apply pw_below_drewN | apply below_drew1 | refine below_set ?_ GE176.out) | exact HB.out)⟩⟩
  case rest =>
    clear HC3
    try clear c1
    try clear p2
    try clear c6
    try clear c10
    try clear hcz7_0
    try clear hcz7_1
    try clear hcz7_2
    try clear hcz9_0
    try clear hcz9_1
    try clear hcz9_2
    try clear hfz7_0
    try clear hfz7_1
    try clear hfz7_2
    try clear hfz9_0
    try clear hfz9_1
    try clear hfz9_2
    obtain ⟨kq, x23_2, rfl, HA, HJ2, BK176, HB⟩ := hcut
    cases kq with
    | zero => exact absurd HA.out (by simp [cellarerref08_Whole.j0])
    | succ kj2 =>
      have H := HA.out
      clear HA
      simp only [cellarerref08_Whole.j0] at H
      by_cases c11 : x23_2 = true
      · subst c11
        have H1 : (some ((⟨#[]⟩ : ByteArray), (⟨#[]⟩ : ByteArray), 1)) = some (r1, r2, r3) := by rw [if_pos rfl] at H; exact H
        clear H
        have H := H1
        clear H1
        simp only [Option.some.injEq, Prod.mk.injEq] at H
        obtain ⟨rfl, rfl, rfl⟩ := H
        go_wp2
        repeat (go_quiet (fail); try go_wp2)
        go_ret3
        exact ⟨by first | rfl | (simp [errW_none, errW_some] <;> rfl) | (simp [*, errW_none, errW_some] <;> rfl), by repeat (first | (with_reducible first | exact HB.out | apply below_alloc | apply pw_below_drewN | apply below_drew1 | refine below_set ?_ GE176.out) | exact HB.out)⟩
      · replace c11 := Bool.eq_false_iff.mpr c11
        subst c11
        have H1 : (cellarerref08_Whole.l0 kj2 l1 1 a0_0 a0_1 l0_2) = some (r1, r2, r3) := by rw [if_neg (show ¬ (false = true) by decide)] at H; exact H
        clear H
        have H := H1
        clear H1
        have H' := Aside0.mk H
        clear H
        go_wp2
        repeat (go_quiet (fail); try go_wp2)
        go_loopg [7] kj2 (fun kq v7 w' => ∃ (x7_2 : Int), v7 = .int .i64 x7_2 ∧ Aside0 (cellarerref08_Whole.l0 kq l1 x7_2 a0_0 a0_1 l0_2 = some (r1, r2, r3)) ∧ Aside0 (kq ≤ kj2) ∧ Aside0 (w'.heap[gb176]? = some (.cells #[.int .u64 a0_0, .string a0_1, (.slice A0_2 l0_2.length c0_2)] 25 (0, 0))) ∧ Aside0 (Below w.heap.size w w'))
        case atStart => exact ⟨(1), (by first | rfl | (simp; done) | (simp [*]; done)), H', ⟨Nat.le_refl _⟩, ⟨by (with_reducible repeat (first | refine blk_drewN ?_ _ | refine blk_drew ?_ | refine blk_alloc ?_ _)); exact BK176.out⟩, ⟨by repeat (first | (with_reducible first | exact HB.out | apply below_alloc | apply pw_below_drewN | apply below_drew1 | refine below_set ?_ GE176.out) | exact HB.out)⟩⟩
        case round =>
          clear H'
          try clear c1
          try clear p2
          try clear c6
          try clear c10
          try clear c11
          try clear hcz7_0
          try clear hcz7_1
          try clear hcz7_2
          try clear hcz9_0
          try clear hcz9_1
          try clear hcz9_2
          try clear hfz7_0
          try clear hfz7_1
          try clear hfz7_2
          try clear hfz9_0
          try clear hfz9_1
          try clear hfz9_2
          try clear p2
          obtain ⟨x7_2, rfl, HA, HK2, BK176, HB⟩ := hrel
          cases gk with
          | zero => exact absurd HA.out (by simp [cellarerref08_Whole.l0])
          | succ k2 =>
            have H := HA.out
            clear HA
            simp only [cellarerref08_Whole.l0] at H
            by_cases c12 : x7_2 < (l1.length : Int)
            · rw [if_pos c12] at H
              have c12b0 : decide (x7_2 < (l1.length : Int)) = true := decide_eq_true c12
              clear c12
              by_cases c13 : 0 ≤ x7_2
              · rw [if_pos c13] at H
                have c13b0 : decide (0 ≤ x7_2) = true := decide_eq_true c13
                clear c13
                obtain ⟨ji14, hji14⟩ : ∃ j_ : Int, (wrap64 (x7_2 - 1)) = j_ := ⟨_, rfl⟩
                replace H : (if 0 ≤ (ji14) then (if (ji14) < (l1.length : Int) then (if ((rd_T48 l1 x7_2).f0) ≤ ((rd_T48 l1 (ji14)).f0) then (some ((⟨#[]⟩ : ByteArray), (⟨#[]⟩ : ByteArray), 9)) else (cellarerref08_Whole.l0 k2 l1 (wrap64 (x7_2 + 1)) a0_0 a0_1 l0_2)) else (none)) else (none)) = some (r1, r2, r3) := by first | (rw [hji14] at H; exact H) | (simp only [hji14] at H ⊢; exact H)
                have hji14w : (IntKind.i64.wrap (x7_2 - 1)) = ji14 := (i64_w _).trans hji14
                by_cases c15 : 0 ≤ (ji14)
                · rw [if_pos c15] at H
                  have c15b0 : decide (0 ≤ (ji14)) = true := decide_eq_true c15
                  clear c15
                  by_cases c16 : (ji14) < (l1.length : Int)
                  · rw [if_pos c16] at H
                    have c16b0 : decide ((ji14) < (l1.length : Int)) = true := decide_eq_true c16
                    clear c16
                    by_cases c17 : ((rd_T48 l1 x7_2).f0) ≤ ((rd_T48 l1 (ji14)).f0)
                    · rw [if_pos c17] at H
                      have c17b0 : decide (((rd_T48 l1 x7_2).f0) ≤ ((rd_T48 l1 (ji14)).f0)) = true := decide_eq_true c17
                      clear c17
                      simp only [Option.some.injEq, Prod.mk.injEq] at H
                      obtain ⟨rfl, rfl, rfl⟩ := H
                      have p178 : 0 ≤ (x7_2 : Int) := of_decide_eq_true (by first | (with_reducible assumption) | assumption)
                      have q178 : x7_2 < (l1.length : Int) := of_decide_eq_true (by first | (with_reducible assumption) | assumption)
                      obtain ⟨ad178, e178, hx178_0, hx178_1⟩ := at_T48 HR1.out x7_2 p178 q178
                      cases e178
                      replace hx178_0 := (HB.out.cell (World.block_lt_of_cell? w _ hx178_0)).trans hx178_0
                      replace hx178_1 := (HB.out.cell (World.block_lt_of_cell? w _ hx178_1)).trans hx178_1
                      replace p178 := eq_true p178
                      replace q178 := eq_true q178
                      have p179 : 0 ≤ ((ji14) : Int) := of_decide_eq_true (by first | (with_reducible assumption) | assumption)
                      have q179 : (ji14) < (l1.length : Int) := of_decide_eq_true (by first | (with_reducible assumption) | assumption)
                      obtain ⟨ad179, e179, hx179_0, hx179_1⟩ := at_T48 HR1.out (ji14) p179 q179
                      obtain rfl : ad178 = ad179 := (by injection e179)
                      replace hx179_0 := (HB.out.cell (World.block_lt_of_cell? w _ hx179_0)).trans hx179_0
                      replace hx179_1 := (HB.out.cell (World.block_lt_of_cell? w _ hx179_1)).trans hx179_1
                      replace p179 := eq_true p179
                      replace q179 := eq_true q179
                      go_wp2
                      repeat (go_quiet (fail); try go_wp2)
                      go_ret3
                      exact ⟨by first | rfl | (simp [errW_none, errW_some] <;> rfl) | (simp only [← hji14]; first | rfl | (simp [errW_none, errW_some] <;> rfl)) | (simp [*, errW_none, errW_some] <;> rfl), by repeat (first | (with_reducible first | exact HB.out | apply below_alloc | apply pw_below_drewN | apply below_drew1 | refine below_set ?_ GE176.out) | exact HB.out)⟩
                    · rw [if_neg c17] at H
                      have c17b0 : decide (((rd_T48 l1 x7_2).f0) ≤ ((rd_T48 l1 (ji14)).f0)) = false := decide_eq_false c17
                      clear c17
                      have H' := Aside0.mk H
                      clear H
                      have p178 : 0 ≤ (x7_2 : Int) := of_decide_eq_true (by first | (with_reducible assumption) | assumption)
                      have q178 : x7_2 < (l1.length : Int) := of_decide_eq_true (by first | (with_reducible assumption) | assumption)
                      obtain ⟨ad178, e178, hx178_0, hx178_1⟩ := at_T48 HR1.out x7_2 p178 q178
                      cases e178
                      replace hx178_0 := (HB.out.cell (World.block_lt_of_cell? w _ hx178_0)).trans hx178_0
                      replace hx178_1 := (HB.out.cell (World.block_lt_of_cell? w _ hx178_1)).trans hx178_1
                      replace p178 := eq_true p178
                      replace q178 := eq_true q178
                      have p179 : 0 ≤ ((ji14) : Int) := of_decide_eq_true (by first | (with_reducible assumption) | assumption)
                      have q179 : (ji14) < (l1.length : Int) := of_decide_eq_true (by first | (with_reducible assumption) | assumption)
                      obtain ⟨ad179, e179, hx179_0, hx179_1⟩ := at_T48 HR1.out (ji14) p179 q179
                      obtain rfl : ad178 = ad179 := (by injection e179)
                      replace hx179_0 := (HB.out.cell (World.block_lt_of_cell? w _ hx179_0)).trans hx179_0
                      replace hx179_1 := (HB.out.cell (World.block_lt_of_cell? w _ hx179_1)).trans hx179_1
                      replace p179 := eq_true p179
                      replace q179 := eq_true q179
                      go_wp2
                      repeat (go_quiet (fail); try go_wp2)
                      go_roundg k2
                      case measure => have := HJ2.out; have := HK2.out; omega
                      case rel => exact ⟨(wrap64 (x7_2 + 1)), (by first | rfl | (simp; done) | (simp [*]; done)), H', ⟨by have := HJ2.out; have := HK2.out; omega⟩, ⟨by (with_reducible repeat (first | refine blk_drewN ?_ _ | refine blk_drew ?_ | refine blk_alloc ?_ _)); exact BK176.out⟩, ⟨by repeat (first | (with_reducible first | exact HB.out | apply below_alloc | apply pw_below_drewN | apply below_drew1 | refine below_set ?_ GE176.out) | exact HB.out)⟩⟩
                  · rw [if_neg c16] at H
                    exact absurd H (by simp)
                · rw [if_neg c15] at H
                  exact absurd H (by simp)
              · rw [if_neg c13] at H
                exact absurd H (by simp)
            · rw [if_neg c12] at H
              have c12b0 : decide (x7_2 < (l1.length : Int)) = false := decide_eq_false c12
              clear c12
              have H' := Aside0.mk H
              clear H
              go_wp2
              repeat (go_quiet (fail); try go_wp2)
              go_loopg [8, 9, 10, 11, 12] k2 (fun kq v8 v9 v10 v11 v12 w' => ∃ (x8_3 : ByteArray) (x9_3 : Bool) (x10_3 : Bool) (x11_3 : List Int) (x12_3 : Int), v8 = .string x8_3 ∧ v9 = .bool x9_3 ∧ v10 = .bool x10_3 ∧ v12 = .int .i64 x12_3 ∧ Aside0 (cellarerref08_Whole.l1 kq l1 x8_3 x9_3 x10_3 x11_3 x12_3 a0_0 a0_1 l0_2 = some (r1, r2, r3)) ∧ Aside0 (kq ≤ k2) ∧ Aside0 (Kd.R (Kd.int .u32) 42 w' w.heap.size (fun _ => True) v11 x11_3) ∧ Aside0 (w'.heap[gb176]? = some (.cells #[.int .u64 a0_0, .string a0_1, (.slice A0_2 l0_2.length c0_2)] 25 (0, 0))) ∧ Aside0 (Below w.heap.size w w'))
              case atStart => exact ⟨((⟨#[]⟩ : ByteArray)), (false), (false), (([] : List Int)), (0), (by first | rfl | (simp; done) | (simp [*]; done)), (by first | rfl | (simp; done) | (simp [*]; done)), (by first | rfl | (simp; done) | (simp [*]; done)), (by first | rfl | (simp; done) | (simp [*]; done)), H', ⟨Nat.le_refl _⟩, ⟨by first | exact Kd.R_nil _ _ _ _ _ | exact Kd.N_nil _ _ _ _ _ | exact Kd.V_nil _ _ _ _ _ | exact Kd.Q_nil _ _ _ _ _ | exact Kd.S_nil _ _ _ _ _⟩, ⟨by (with_reducible repeat (first | refine blk_drewN ?_ _ | refine blk_drew ?_ | refine blk_alloc ?_ _)); exact BK176.out⟩, ⟨by repeat (first | (with_reducible first | exact HB.out | apply below_alloc | apply pw_below_drewN | apply below_drew1 | refine below_set ?_ GE176.out) | exact HB.out)⟩⟩
              case round =>
                clear H'
                try clear c1
                try clear p1
                try clear q1
                try clear hx1
                try clear p2
                try clear c6
                try clear p6
                try clear c10
                try clear c11
                try clear c12
                try clear c12b0
                try clear c13
                try clear c13b0
                try clear c15
                try clear c15b0
                try clear c16
                try clear c16b0
                try clear c17
                try clear c17b0
                try clear p17
                try clear q17
                try clear hx17
                try clear hcz7_0
                try clear hcz7_1
                try clear hcz7_2
                try clear hcz9_0
                try clear hcz9_1
                try clear hcz9_2
                try clear hfz7_0
                try clear hfz7_1
                try clear hfz7_2
                try clear hfz9_0
                try clear hfz9_1
                try clear hfz9_2
                try clear hx178_0
                try clear hx178_1
                try clear hx179_0
                try clear hx179_1
                try clear p178
                try clear p179
                try clear p2
                try clear q178
                try clear q179
                obtain ⟨x8_3, x9_3, x10_3, x11_3, x12_3, rfl, rfl, rfl, rfl, HA, HK3, HO_11, BK176, HB⟩ := hrel
                cases gk with
                | zero => exact absurd HA.out (by simp [cellarerref08_Whole.l1])
                | succ k3 =>
                  have H := HA.out
                  clear HA
                  simp only [cellarerref08_Whole.l1] at H
                  by_cases c18 : x12_3 < (l1.length : Int)
                  · rw [if_pos c18] at H
                    have c18b0 : decide (x12_3 < (l1.length : Int)) = true := decide_eq_true c18
                    clear c18
                    have H' := Aside0.mk H
                    clear H
                    go_wp2
                    repeat (go_quiet (fail); try go_wp2)
                    go_loopg [8, 9, 13, 14] k3 (fun kq v8 v9 v13 v14 w' => ∃ (x8_4 : ByteArray) (x9_4 : Bool) (x13_4 : Bool) (x14_4 : Int), v8 = .string x8_4 ∧ v9 = .bool x9_4 ∧ v13 = .bool x13_4 ∧ v14 = .int .i64 x14_4 ∧ Aside0 (cellarerref08_Whole.l2 kq l1 x8_4 x9_4 x10_3 x11_3 x12_3 x13_4 x14_4 a0_0 a0_1 l0_2 = some (r1, r2, r3)) ∧ Aside0 (kq ≤ k3) ∧ Aside0 (Kd.R (Kd.int .u32) 42 w' w.heap.size (fun _ => True) u11 x11_3) ∧ Aside0 (w'.heap[gb176]? = some (.cells #[.int .u64 a0_0, .string a0_1, (.slice A0_2 l0_2.length c0_2)] 25 (0, 0))) ∧ Aside0 (Below w.heap.size w w'))
                    case atStart => exact ⟨(x8_3), (x9_3), (false), (0), (by first | rfl | (simp; done) | (simp [*]; done)), (by first | rfl | (simp; done) | (simp [*]; done)), (by first | rfl | (simp; done) | (simp [*]; done)), (by first | rfl | (simp; done) | (simp [*]; done)), H', ⟨Nat.le_refl _⟩, ⟨by (with_reducible repeat (first | apply Kd.R_alloc | apply Kd.R_drewN | apply Kd.R_drew)); exact HO_11.out⟩, ⟨by (with_reducible repeat (first | refine blk_drewN ?_ _ | refine blk_drew ?_ | refine blk_alloc ?_ _)); exact BK176.out⟩, ⟨by repeat (first | (with_reducible first | exact HB.out | apply below_alloc | apply pw_below_drewN | apply below_drew1 | refine below_set ?_ GE176.out) | exact HB.out)⟩⟩
                    case round =>
                      clear H'
                      try clear c1
                      try clear p1
                      try clear q1
                      try clear hx1
                      try clear p2
                      try clear c6
                      try clear p6
                      try clear c10
                      try clear c11
                      try clear c12
                      try clear c12b0
                      try clear c13
                      try clear c13b0
                      try clear c15
                      try clear c15b0
                      try clear c16
                      try clear c16b0
                      try clear c17
                      try clear c17b0
                      try clear p17
                      try clear q17
                      try clear hx17
                      try clear c18
                      try clear c18b0
                      try clear hcz7_0
                      try clear hcz7_1
                      try clear hcz7_2
                      try clear hcz9_0
                      try clear hcz9_1
                      try clear hcz9_2
                      try clear hfz7_0
                      try clear hfz7_1
                      try clear hfz7_2
                      try clear hfz9_0
                      try clear hfz9_1
                      try clear hfz9_2
                      try clear hx178_0
                      try clear hx178_1
                      try clear hx179_0
                      try clear hx179_1
                      try clear p1
                      try clear p17
                      try clear p178
                      try clear p179
                      try clear p2
                      try clear p6
                      try clear q1
                      try clear q17
                      try clear q178
                      try clear q179
                      obtain ⟨x8_4, x9_4, x13_4, x14_4, rfl, rfl, rfl, rfl, HA, HK4, HO_11, BK176, HB⟩ := hrel
                      cases gk with
                      | zero => exact absurd HA.out (by simp [cellarerref08_Whole.l2])
                      | succ k4 =>
                        have H := HA.out
                        clear HA
                        simp only [cellarerref08_Whole.l2] at H
                        by_cases c19 : x14_4 < (l0_2.length : Int)
                        · rw [if_pos c19] at H
                          have c19b0 : decide (x14_4 < (l0_2.length : Int)) = true := decide_eq_true c19
                          clear c19
                          by_cases c20 : 0 ≤ x14_4
                          · rw [if_pos c20] at H
                            have c20b0 : decide (0 ≤ x14_4) = true := decide_eq_true c20
                            clear c20
                            by_cases c21 : 0 ≤ x12_3
                            · rw [if_pos c21] at H
                              have c21b0 : decide (0 ≤ x12_3) = true := decide_eq_true c21
                              clear c21
                              by_cases c22 : x12_3 < (l1.length : Int)
                              · rw [if_pos c22] at H
                                have c22b0 : decide (x12_3 < (l1.length : Int)) = true := decide_eq_true c22
                                clear c22
                                by_cases c23 : ((rd_T40 l0_2 x14_4).f0) = ((rd_T48 l1 x12_3).f0)
                                · rw [if_pos c23] at H
                                  have c23b0 : (((rd_T40 l0_2 x14_4).f0) == ((rd_T48 l1 x12_3).f0)) = true := beq_iff_eq.mpr c23
                                  have c23b1 : (((rd_T40 l0_2 x14_4).f0) != ((rd_T48 l1 x12_3).f0)) = false := bne_eq_false_iff_eq.mpr c23
                                  clear c23
                                  replace H := Option.bind_eq_some_iff.mp H
                                  obtain ⟨t183, A240, H⟩ := H
                                  replace H : (if t183 = ((rd_T48 l1 x12_3).f1) then (if x8_4.size + ((rd_T40 l0_2 x14_4).f1).size ≤ 9223372036854775807 then (if x9_4 = true then (cellarerref08_Whole.l2 k4 l1 (x8_4 ++ ((rd_T40 l0_2 x14_4).f1)) true x10_3 x11_3 x12_3 true (wrap64 (x14_4 + 1)) a0_0 a0_1 l0_2) else (if x12_3 < (wrap64 ((l1.length : Int) - 1)) then (cellarerref08_Whole.l2 k4 l1 (x8_4 ++ ((rd_T40 l0_2 x14_4).f1)) (decide ((((rd_T40 l0_2 x14_4).f1).size : Int) < 5)) x10_3 x11_3 x12_3 true (wrap64 (x14_4 + 1)) a0_0 a0_1 l0_2) else (cellarerref08_Whole.l2 k4 l1 (x8_4 ++ ((rd_T40 l0_2 x14_4).f1)) false x10_3 x11_3 x12_3 true (wrap64 (x14_4 + 1)) a0_0 a0_1 l0_2))) else (none)) else (cellarerref08_Whole.l2 k4 l1 x8_4 x9_4 x10_3 x11_3 x12_3 x13_4 (wrap64 (x14_4 + 1)) a0_0 a0_1 l0_2)) = some (r1, r2, r3) := H
                                  have A24 := Aside0.mk A240
                                  clear A240
                                  by_cases c25 : t183 = ((rd_T48 l1 x12_3).f1)
                                  · rw [if_pos c25] at H
                                    have c25b0 : (t183 == ((rd_T48 l1 x12_3).f1)) = true := beq_iff_eq.mpr c25
                                    have c25b1 : (t183 != ((rd_T48 l1 x12_3).f1)) = false := bne_eq_false_iff_eq.mpr c25
                                    clear c25
                                    by_cases c26 : x8_4.size + ((rd_T40 l0_2 x14_4).f1).size ≤ 9223372036854775807
                                    · rw [if_pos c26] at H
                                      have c26b0 := eq_true c26
                                      have c26b1 : decide (x8_4.size + ((rd_T40 l0_2 x14_4).f1).size ≤ 9223372036854775807) = true := decide_eq_true c26
                                      try have c26b2 : (9223372036854775807 < x8_4.size + ((rd_T40 l0_2 x14_4).f1).size) = False := eq_false (Nat.not_lt.2 c26)
                                      by_cases c27 : x9_4 = true
                                      · subst c27
                                        have H1 : (cellarerref08_Whole.l2 k4 l1 (x8_4 ++ ((rd_T40 l0_2 x14_4).f1)) true x10_3 x11_3 x12_3 true (wrap64 (x14_4 + 1)) a0_0 a0_1 l0_2) = some (r1, r2, r3) := by rw [if_pos rfl] at H; exact H
                                        clear H
                                        have H := H1
                                        clear H1
                                        have H' := Aside0.mk H
                                        clear H
                                        have hcz28_0 : wr.cell? ⟨gb176, 0, none⟩ = some (.int .u64 a0_0) := (blk_cell BK176.out 0).trans rfl
                                        have hcz28_1 : wr.cell? ⟨gb176, 1, none⟩ = some (.string a0_1) := (blk_cell BK176.out 1).trans rfl
                                        have hcz28_2 : wr.cell? ⟨gb176, 2, none⟩ = some (.slice A0_2 l0_2.length c0_2) := (blk_cell BK176.out 2).trans rfl
                                        have hfz28_0 := blk_frozen BK176.out 0
                                        have hfz28_1 := blk_frozen BK176.out 1
                                        have hfz28_2 := blk_frozen BK176.out 2
                                        have p180 : 0 ≤ (x14_4 : Int) := of_decide_eq_true (by first | (with_reducible assumption) | assumption)
                                        have q180 : x14_4 < (l0_2.length : Int) := of_decide_eq_true (by first | (with_reducible assumption) | assumption)
                                        obtain ⟨ad180, e180, hx180_0, hx180_1⟩ := at_T40 HR0_2.out x14_4 p180 q180
                                        cases e180
                                        replace hx180_0 := (HB.out.cell (World.block_lt_of_cell? w _ hx180_0)).trans hx180_0
                                        replace hx180_1 := (HB.out.cell (World.block_lt_of_cell? w _ hx180_1)).trans hx180_1
                                        replace p180 := eq_true p180
                                        replace q180 := eq_true q180
                                        go_wp2_with (first | ((with_reducible refine gate_dst (N := 15) rfl ?_); (try (refine gate_guard (by rfl) ?_; dsimp only)); refine box_event ?hg (N := 15) ?hd (cs := #[.int .i64 0, .string (⟨#[]⟩ : ByteArray)]) (t := 40) ?hr ?_; (case hd => rfl); (case hg => rfl); (case hr => first | (go_simp; done) | (go_simp; rfl)); intro gb181 hg w29 hbox hb; have n0_ := Aside0.mk (Kd.R_below (by (with_reducible repeat (first | apply Kd.R_alloc | apply Kd.R_drewN | apply Kd.R_drew)); exact HO_11.out) hb); have n1_ := Aside0.mk (blk_below (g := gb176) (o := .cells #[.int .u64 a0_0, .string a0_1, .slice (some ad180) l0_2.length c0_2] 25 (0, 0)) (by (with_reducible repeat (first | refine blk_drewN ?_ _ | refine blk_drew ?_ | refine blk_alloc ?_ _)); exact BK176.out) hb); have n2_ := Aside0.mk (below_step (by repeat (first | (with_reducible first | exact HB.out | apply below_alloc | apply pw_below_drewN | apply below_drew1 | refine below_set ?_ GE176.out) | exact HB.out)) hb); have n3_ := Aside0.mk (hbox); have n4_ := Aside0.mk ((by rw [hg]; exact (below_size (by repeat (first | (with_reducible first | exact HB.out | apply below_alloc | apply pw_below_drewN | apply below_drew1 | refine below_set ?_ GE176.out) | exact HB.out))) : w.heap.size ≤ gb181)); have n5_ := Aside0.mk ((by rw [hg]; exact (below_size (by repeat (first | (with_reducible first | exact HB.out | apply below_alloc | apply pw_below_drewN | apply below_drew1 | refine below_set ?_ GE176.out) | exact HB.out))) : w.heap.size ≤ gb181)); have n6_ := Aside0.mk ((by rw [hg]; exact Nat.ne_of_lt (blk_lt (g := gb176) (o := .cells #[.int .u64 a0_0, .string a0_1, .slice (some ad180) l0_2.length c0_2] 25 (0, 0)) (by (with_reducible repeat (first | refine blk_drewN ?_ _ | refine blk_drew ?_ | refine blk_alloc ?_ _)); exact BK176.out)) : gb176 ≠ gb181)); have n7_ := Aside0.mk ((by rw [hg]; exact Nat.ne_of_gt (blk_lt (g := gb176) (o := .cells #[.int .u64 a0_0, .string a0_1, .slice (some ad180) l0_2.length c0_2] 25 (0, 0)) (by (with_reducible repeat (first | refine blk_drewN ?_ _ | refine blk_drew ?_ | refine blk_alloc ?_ _)); exact BK176.out)) : gb181 ≠ gb176)); clear HO_11; clear BK176; clear HB; have HO_11 := n0_; have BK176 := n1_; have HB := n2_; have BK181 := n3_; have GW181 := n4_; have GE181 := n5_; have NB176_181 := n6_; have NB181_176 := n7_; clear n0_ n1_ n2_ n3_ n4_ n5_ n6_ n7_; clear hb hbox hg; have hnb30 := NB181_176.out; have hnc30 := NB176_181.out; have hcz31_0 : w29.cell? ⟨gb181, 0, none⟩ = some (.int .i64 0) := (blk_cell BK181.out 0).trans rfl; have hcz31_1 : w29.cell? ⟨gb181, 1, none⟩ = some (.string (⟨#[]⟩ : ByteArray)) := (blk_cell BK181.out 1).trans rfl; have hfz31_0 := blk_frozen BK181.out 0; have hfz31_1 := blk_frozen BK181.out 1; have p182 : 0 ≤ (x12_3 : Int) := of_decide_eq_true (by first | (with_reducible assumption) | assumption); have q182 : x12_3 < (l1.length : Int) := of_decide_eq_true (by first | (with_reducible assumption) | assumption); obtain ⟨ad182, e182, hx182_0, hx182_1⟩ := at_T48 HR1.out x12_3 p182 q182; cases e182; have hn182_0 : ad182.block ≠ gb181 := Nat.ne_of_lt (Nat.lt_of_lt_of_le (by have := World.block_lt_of_cell? _ _ hx182_0; first | rwa [add_block] at this | exact this) GW181.out); have hn182_1 : ad182.block ≠ gb181 := Nat.ne_of_lt (Nat.lt_of_lt_of_le (by have := World.block_lt_of_cell? _ _ hx182_0; first | rwa [add_block] at this | exact this) GW181.out); replace hx182_0 := (HB.out.cell (World.block_lt_of_cell? w _ hx182_0)).trans hx182_0; replace hx182_1 := (HB.out.cell (World.block_lt_of_cell? w _ hx182_1)).trans hx182_1; replace hx182_0 := (cell_far (p := ⟨gb181, 0, none⟩) (by first | (rw [add_block]; exact hn182_0) | (show (Addr.add _ _).block ≠ _; rw [add_block]; exact hn182_0) | exact hn182_0) (.int .i64 ((rd_T40 l0_2 x14_4).f0))).trans hx182_0; replace hx182_1 := (cell_far (p := ⟨gb181, 0, none⟩) (by first | (rw [add_block]; exact hn182_0) | (show (Addr.add _ _).block ≠ _; rw [add_block]; exact hn182_0) | exact hn182_0) (.int .i64 ((rd_T40 l0_2 x14_4).f0))).trans hx182_1; replace hx182_0 := (cell_far (p := ⟨gb181, 1, none⟩) (by first | (rw [add_block]; exact hn182_1) | (show (Addr.add _ _).block ≠ _; rw [add_block]; exact hn182_1) | exact hn182_1) (.string ((rd_T40 l0_2 x14_4).f1))).trans hx182_0; replace hx182_1 := (cell_far (p := ⟨gb181, 1, none⟩) (by first | (rw [add_block]; exact hn182_1) | (show (Addr.add _ _).block ≠ _; rw [add_block]; exact hn182_1) | exact hn182_1) (.string ((rd_T40 l0_2 x14_4).f1))).trans hx182_1; (try have hy182_0 := fun (n_ : Nat) => (show ((((w29.drewN n_).setCell ⟨gb181, 0, none⟩ (.int .i64 ((rd_T40 l0_2 x14_4).f0))).setCell ⟨gb181, 1, none⟩ (.string ((rd_T40 l0_2 x14_4).f1)))).cell? _ = some _ from hx182_0)); (try have hy182_1 := fun (n_ : Nat) => (show ((((w29.drewN n_).setCell ⟨gb181, 0, none⟩ (.int .i64 ((rd_T40 l0_2 x14_4).f0))).setCell ⟨gb181, 1, none⟩ (.string ((rd_T40 l0_2 x14_4).f1)))).cell? _ = some _ from hx182_1)); clear hn182_0; clear hn182_1; replace p182 := eq_true p182; replace q182 := eq_true q182) | (go_at_call 15; (with_reducible refine (cellarerref04_Of.calls k4 ((rd_T40 l0_2 x14_4).f1) t183 _ A24.out).mono ?_); rintro e w' ⟨rfl, ⟨nd, rfl⟩⟩; (try first | exact ⟨rfl, _, World.drewN_drewN _ _ _⟩ | exact ⟨rfl, _, Eq.trans (World.drewN_drewN _ _ _) (congrArg (World.drewN _) (Nat.add_assoc _ _ _))⟩); have p184 : 0 ≤ (x12_3 : Int) := of_decide_eq_true (by first | (with_reducible assumption) | assumption); have q184 : x12_3 < (l1.length : Int) := of_decide_eq_true (by first | (with_reducible assumption) | assumption); obtain ⟨ad184, e184, hx184_0, hx184_1⟩ := at_T48 HR1.out x12_3 p184 q184; obtain rfl : ad182 = ad184 := (by injection e184); have hn184_0 : ad182.block ≠ gb181 := Nat.ne_of_lt (Nat.lt_of_lt_of_le (by have := World.block_lt_of_cell? _ _ hx184_0; first | rwa [add_block] at this | exact this) GW181.out); have hn184_1 : ad182.block ≠ gb181 := Nat.ne_of_lt (Nat.lt_of_lt_of_le (by have := World.block_lt_of_cell? _ _ hx184_0; first | rwa [add_block] at this | exact this) GW181.out); replace hx184_0 := (HB.out.cell (World.block_lt_of_cell? w _ hx184_0)).trans hx184_0; replace hx184_1 := (HB.out.cell (World.block_lt_of_cell? w _ hx184_1)).trans hx184_1; replace hx184_0 := (cell_far (p := ⟨gb181, 0, none⟩) (by first | (rw [add_block]; exact hn184_0) | (show (Addr.add _ _).block ≠ _; rw [add_block]; exact hn184_0) | exact hn184_0) (.int .i64 ((rd_T40 l0_2 x14_4).f0))).trans hx184_0; replace hx184_1 := (cell_far (p := ⟨gb181, 0, none⟩) (by first | (rw [add_block]; exact hn184_0) | (show (Addr.add _ _).block ≠ _; rw [add_block]; exact hn184_0) | exact hn184_0) (.int .i64 ((rd_T40 l0_2 x14_4).f0))).trans hx184_1; replace hx184_0 := (cell_far (p := ⟨gb181, 1, none⟩) (by first | (rw [add_block]; exact hn184_1) | (show (Addr.add _ _).block ≠ _; rw [add_block]; exact hn184_1) | exact hn184_1) (.string ((rd_T40 l0_2 x14_4).f1))).trans hx184_0; replace hx184_1 := (cell_far (p := ⟨gb181, 1, none⟩) (by first | (rw [add_block]; exact hn184_1) | (show (Addr.add _ _).block ≠ _; rw [add_block]; exact hn184_1) | exact hn184_1) (.string ((rd_T40 l0_2 x14_4).f1))).trans hx184_1; (try have hy184_0 := fun (n_ : Nat) => (show ((((w29.drewN n_).setCell ⟨gb181, 0, none⟩ (.int .i64 ((rd_T40 l0_2 x14_4).f0))).setCell ⟨gb181, 1, none⟩ (.string ((rd_T40 l0_2 x14_4).f1)))).cell? _ = some _ from hx184_0)); (try have hy184_1 := fun (n_ : Nat) => (show ((((w29.drewN n_).setCell ⟨gb181, 0, none⟩ (.int .i64 ((rd_T40 l0_2 x14_4).f0))).setCell ⟨gb181, 1, none⟩ (.string ((rd_T40 l0_2 x14_4).f1)))).cell? _ = some _ from hx184_1)); clear hn184_0; clear hn184_1; replace p184 := eq_true p184; replace q184 := eq_true q184))
                                        repeat (go_quiet (first | ((with_reducible refine gate_dst (N := 15) rfl ?_); (try (refine gate_guard (by rfl) ?_; dsimp only)); refine box_event ?hg (N := 15) ?hd (cs := #[.int .i64 0, .string (⟨#[]⟩ : ByteArray)]) (t := 40) ?hr ?_; (case hd => rfl); (case hg => rfl); (case hr => first | (go_simp; done) | (go_simp; rfl)); intro gb181 hg w29 hbox hb; have n0_ := Aside0.mk (Kd.R_below (by (with_reducible repeat (first | apply Kd.R_alloc | apply Kd.R_drewN | apply Kd.R_drew)); exact HO_11.out) hb); have n1_ := Aside0.mk (blk_below (g := gb176) (o := .cells #[.int .u64 a0_0, .string a0_1, .slice (some ad180) l0_2.length c0_2] 25 (0, 0)) (by (with_reducible repeat (first | refine blk_drewN ?_ _ | refine blk_drew ?_ | refine blk_alloc ?_ _)); exact BK176.out) hb); have n2_ := Aside0.mk (below_step (by repeat (first | (with_reducible first | exact HB.out | apply below_alloc | apply pw_below_drewN | apply below_drew1 | refine below_set ?_ GE176.out) | exact HB.out)) hb); have n3_ := Aside0.mk (hbox); have n4_ := Aside0.mk ((by rw [hg]; exact (below_size (by repeat (first | (with_reducible first | exact HB.out | apply below_alloc | apply pw_below_drewN | apply below_drew1 | refine below_set ?_ GE176.out) | exact HB.out))) : w.heap.size ≤ gb181)); have n5_ := Aside0.mk ((by rw [hg]; exact (below_size (by repeat (first | (with_reducible first | exact HB.out | apply below_alloc | apply pw_below_drewN | apply below_drew1 | refine below_set ?_ GE176.out) | exact HB.out))) : w.heap.size ≤ gb181)); have n6_ := Aside0.mk ((by rw [hg]; exact Nat.ne_of_lt (blk_lt (g := gb176) (o := .cells #[.int .u64 a0_0, .string a0_1, .slice (some ad180) l0_2.length c0_2] 25 (0, 0)) (by (with_reducible repeat (first | refine blk_drewN ?_ _ | refine blk_drew ?_ | refine blk_alloc ?_ _)); exact BK176.out)) : gb176 ≠ gb181)); have n7_ := Aside0.mk ((by rw [hg]; exact Nat.ne_of_gt (blk_lt (g := gb176) (o := .cells #[.int .u64 a0_0, .string a0_1, .slice (some ad180) l0_2.length c0_2] 25 (0, 0)) (by (with_reducible repeat (first | refine blk_drewN ?_ _ | refine blk_drew ?_ | refine blk_alloc ?_ _)); exact BK176.out)) : gb181 ≠ gb176)); clear HO_11; clear BK176; clear HB; have HO_11 := n0_; have BK176 := n1_; have HB := n2_; have BK181 := n3_; have GW181 := n4_; have GE181 := n5_; have NB176_181 := n6_; have NB181_176 := n7_; clear n0_ n1_ n2_ n3_ n4_ n5_ n6_ n7_; clear hb hbox hg; have hnb30 := NB181_176.out; have hnc30 := NB176_181.out; have hcz31_0 : w29.cell? ⟨gb181, 0, none⟩ = some (.int .i64 0) := (blk_cell BK181.out 0).trans rfl; have hcz31_1 : w29.cell? ⟨gb181, 1, none⟩ = some (.string (⟨#[]⟩ : ByteArray)) := (blk_cell BK181.out 1).trans rfl; have hfz31_0 := blk_frozen BK181.out 0; have hfz31_1 := blk_frozen BK181.out 1; have p182 : 0 ≤ (x12_3 : Int) := of_decide_eq_true (by first | (with_reducible assumption) | assumption); have q182 : x12_3 < (l1.length : Int) := of_decide_eq_true (by first | (with_reducible assumption) | assumption); obtain ⟨ad182, e182, hx182_0, hx182_1⟩ := at_T48 HR1.out x12_3 p182 q182; cases e182; have hn182_0 : ad182.block ≠ gb181 := Nat.ne_of_lt (Nat.lt_of_lt_of_le (by have := World.block_lt_of_cell? _ _ hx182_0; first | rwa [add_block] at this | exact this) GW181.out); have hn182_1 : ad182.block ≠ gb181 := Nat.ne_of_lt (Nat.lt_of_lt_of_le (by have := World.block_lt_of_cell? _ _ hx182_0; first | rwa [add_block] at this | exact this) GW181.out); replace hx182_0 := (HB.out.cell (World.block_lt_of_cell? w _ hx182_0)).trans hx182_0; replace hx182_1 := (HB.out.cell (World.block_lt_of_cell? w _ hx182_1)).trans hx182_1; replace hx182_0 := (cell_far (p := ⟨gb181, 0, none⟩) (by first | (rw [add_block]; exact hn182_0) | (show (Addr.add _ _).block ≠ _; rw [add_block]; exact hn182_0) | exact hn182_0) (.int .i64 ((rd_T40 l0_2 x14_4).f0))).trans hx182_0; replace hx182_1 := (cell_far (p := ⟨gb181, 0, none⟩) (by first | (rw [add_block]; exact hn182_0) | (show (Addr.add _ _).block ≠ _; rw [add_block]; exact hn182_0) | exact hn182_0) (.int .i64 ((rd_T40 l0_2 x14_4).f0))).trans hx182_1; replace hx182_0 := (cell_far (p := ⟨gb181, 1, none⟩) (by first | (rw [add_block]; exact hn182_1) | (show (Addr.add _ _).block ≠ _; rw [add_block]; exact hn182_1) | exact hn182_1) (.string ((rd_T40 l0_2 x14_4).f1))).trans hx182_0; replace hx182_1 := (cell_far (p := ⟨gb181, 1, none⟩) (by first | (rw [add_block]; exact hn182_1) | (show (Addr.add _ _).block ≠ _; rw [add_block]; exact hn182_1) | exact hn182_1) (.string ((rd_T40 l0_2 x14_4).f1))).trans hx182_1; (try have hy182_0 := fun (n_ : Nat) => (show ((((w29.drewN n_).setCell ⟨gb181, 0, none⟩ (.int .i64 ((rd_T40 l0_2 x14_4).f0))).setCell ⟨gb181, 1, none⟩ (.string ((rd_T40 l0_2 x14_4).f1)))).cell? _ = some _ from hx182_0)); (try have hy182_1 := fun (n_ : Nat) => (show ((((w29.drewN n_).setCell ⟨gb181, 0, none⟩ (.int .i64 ((rd_T40 l0_2 x14_4).f0))).setCell ⟨gb181, 1, none⟩ (.string ((rd_T40 l0_2 x14_4).f1)))).cell? _ = some _ from hx182_1)); clear hn182_0; clear hn182_1; replace p182 := eq_true p182; replace q182 := eq_true q182) | (go_at_call 15; (with_reducible refine (cellarerref04_Of.calls k4 ((rd_T40 l0_2 x14_4).f1) t183 _ A24.out).mono ?_); rintro e w' ⟨rfl, ⟨nd, rfl⟩⟩; (try first | exact ⟨rfl, _, World.drewN_drewN _ _ _⟩ | exact ⟨rfl, _, Eq.trans (World.drewN_drewN _ _ _) (congrArg (World.drewN _) (Nat.add_assoc _ _ _))⟩); have p184 : 0 ≤ (x12_3 : Int) := of_decide_eq_true (by first | (with_reducible assumption) | assumption); have q184 : x12_3 < (l1.length : Int) := of_decide_eq_true (by first | (with_reducible assumption) | assumption); obtain ⟨ad184, e184, hx184_0, hx184_1⟩ := at_T48 HR1.out x12_3 p184 q184; obtain rfl : ad182 = ad184 := (by injection e184); have hn184_0 : ad182.block ≠ gb181 := Nat.ne_of_lt (Nat.lt_of_lt_of_le (by have := World.block_lt_of_cell? _ _ hx184_0; first | rwa [add_block] at this | exact this) GW181.out); have hn184_1 : ad182.block ≠ gb181 := Nat.ne_of_lt (Nat.lt_of_lt_of_le (by have := World.block_lt_of_cell? _ _ hx184_0; first | rwa [add_block] at this | exact this) GW181.out); replace hx184_0 := (HB.out.cell (World.block_lt_of_cell? w _ hx184_0)).trans hx184_0; replace hx184_1 := (HB.out.cell (World.block_lt_of_cell? w _ hx184_1)).trans hx184_1; replace hx184_0 := (cell_far (p := ⟨gb181, 0, none⟩) (by first | (rw [add_block]; exact hn184_0) | (show (Addr.add _ _).block ≠ _; rw [add_block]; exact hn184_0) | exact hn184_0) (.int .i64 ((rd_T40 l0_2 x14_4).f0))).trans hx184_0; replace hx184_1 := (cell_far (p := ⟨gb181, 0, none⟩) (by first | (rw [add_block]; exact hn184_0) | (show (Addr.add _ _).block ≠ _; rw [add_block]; exact hn184_0) | exact hn184_0) (.int .i64 ((rd_T40 l0_2 x14_4).f0))).trans hx184_1; replace hx184_0 := (cell_far (p := ⟨gb181, 1, none⟩) (by first | (rw [add_block]; exact hn184_1) | (show (Addr.add _ _).block ≠ _; rw [add_block]; exact hn184_1) | exact hn184_1) (.string ((rd_T40 l0_2 x14_4).f1))).trans hx184_0; replace hx184_1 := (cell_far (p := ⟨gb181, 1, none⟩) (by first | (rw [add_block]; exact hn184_1) | (show (Addr.add _ _).block ≠ _; rw [add_block]; exact hn184_1) | exact hn184_1) (.string ((rd_T40 l0_2 x14_4).f1))).trans hx184_1; (try have hy184_0 := fun (n_ : Nat) => (show ((((w29.drewN n_).setCell ⟨gb181, 0, none⟩ (.int .i64 ((rd_T40 l0_2 x14_4).f0))).setCell ⟨gb181, 1, none⟩ (.string ((rd_T40 l0_2 x14_4).f1)))).cell? _ = some _ from hx184_0)); (try have hy184_1 := fun (n_ : Nat) => (show ((((w29.drewN n_).setCell ⟨gb181, 0, none⟩ (.int .i64 ((rd_T40 l0_2 x14_4).f0))).setCell ⟨gb181, 1, none⟩ (.string ((rd_T40 l0_2 x14_4).f1)))).cell? _ = some _ from hx184_1)); clear hn184_0; clear hn184_1; replace p184 := eq_true p184; replace q184 := eq_true q184)); try go_wp2_with (first | ((with_reducible refine gate_dst (N := 15) rfl ?_); (try (refine gate_guard (by rfl) ?_; dsimp only)); refine box_event ?hg (N := 15) ?hd (cs := #[.int .i64 0, .string (⟨#[]⟩ : ByteArray)]) (t := 40) ?hr ?_; (case hd => rfl); (case hg => rfl); (case hr => first | (go_simp; done) | (go_simp; rfl)); intro gb181 hg w29 hbox hb; have n0_ := Aside0.mk (Kd.R_below (by (with_reducible repeat (first | apply Kd.R_alloc | apply Kd.R_drewN | apply Kd.R_drew)); exact HO_11.out) hb); have n1_ := Aside0.mk (blk_below (g := gb176) (o := .cells #[.int .u64 a0_0, .string a0_1, .slice (some ad180) l0_2.length c0_2] 25 (0, 0)) (by (with_reducible repeat (first | refine blk_drewN ?_ _ | refine blk_drew ?_ | refine blk_alloc ?_ _)); exact BK176.out) hb); have n2_ := Aside0.mk (below_step (by repeat (first | (with_reducible first | exact HB.out | apply below_alloc | apply pw_below_drewN | apply below_drew1 | refine below_set ?_ GE176.out) | exact HB.out)) hb); have n3_ := Aside0.mk (hbox); have n4_ := Aside0.mk ((by rw [hg]; exact (below_size (by repeat (first | (with_reducible first | exact HB.out | apply below_alloc | apply pw_below_drewN | apply below_drew1 | refine below_set ?_ GE176.out) | exact HB.out))) : w.heap.size ≤ gb181)); have n5_ := Aside0.mk ((by rw [hg]; exact (below_size (by repeat (first | (with_reducible first | exact HB.out | apply below_alloc | apply pw_below_drewN | apply below_drew1 | refine below_set ?_ GE176.out) | exact HB.out))) : w.heap.size ≤ gb181)); have n6_ := Aside0.mk ((by rw [hg]; exact Nat.ne_of_lt (blk_lt (g := gb176) (o := .cells #[.int .u64 a0_0, .string a0_1, .slice (some ad180) l0_2.length c0_2] 25 (0, 0)) (by (with_reducible repeat (first | refine blk_drewN ?_ _ | refine blk_drew ?_ | refine blk_alloc ?_ _)); exact BK176.out)) : gb176 ≠ gb181)); have n7_ := Aside0.mk ((by rw [hg]; exact Nat.ne_of_gt (blk_lt (g := gb176) (o := .cells #[.int .u64 a0_0, .string a0_1, .slice (some ad180) l0_2.length c0_2] 25 (0, 0)) (by (with_reducible repeat (first | refine blk_drewN ?_ _ | refine blk_drew ?_ | refine blk_alloc ?_ _)); exact BK176.out)) : gb181 ≠ gb176)); clear HO_11; clear BK176; clear HB; have HO_11 := n0_; have BK176 := n1_; have HB := n2_; have BK181 := n3_; have GW181 := n4_; have GE181 := n5_; have NB176_181 := n6_; have NB181_176 := n7_; clear n0_ n1_ n2_ n3_ n4_ n5_ n6_ n7_; clear hb hbox hg; have hnb30 := NB181_176.out; have hnc30 := NB176_181.out; have hcz31_0 : w29.cell? ⟨gb181, 0, none⟩ = some (.int .i64 0) := (blk_cell BK181.out 0).trans rfl; have hcz31_1 : w29.cell? ⟨gb181, 1, none⟩ = some (.string (⟨#[]⟩ : ByteArray)) := (blk_cell BK181.out 1).trans rfl; have hfz31_0 := blk_frozen BK181.out 0; have hfz31_1 := blk_frozen BK181.out 1; have p182 : 0 ≤ (x12_3 : Int) := of_decide_eq_true (by first | (with_reducible assumption) | assumption); have q182 : x12_3 < (l1.length : Int) := of_decide_eq_true (by first | (with_reducible assumption) | assumption); obtain ⟨ad182, e182, hx182_0, hx182_1⟩ := at_T48 HR1.out x12_3 p182 q182; cases e182; have hn182_0 : ad182.block ≠ gb181 := Nat.ne_of_lt (Nat.lt_of_lt_of_le (by have := World.block_lt_of_cell? _ _ hx182_0; first | rwa [add_block] at this | exact this) GW181.out); have hn182_1 : ad182.block ≠ gb181 := Nat.ne_of_lt (Nat.lt_of_lt_of_le (by have := World.block_lt_of_cell? _ _ hx182_0; first | rwa [add_block] at this | exact this) GW181.out); replace hx182_0 := (HB.out.cell (World.block_lt_of_cell? w _ hx182_0)).trans hx182_0; replace hx182_1 := (HB.out.cell (World.block_lt_of_cell? w _ hx182_1)).trans hx182_1; replace hx182_0 := (cell_far (p := ⟨gb181, 0, none⟩) (by first | (rw [add_block]; exact hn182_0) | (show (Addr.add _ _).block ≠ _; rw [add_block]; exact hn182_0) | exact hn182_0) (.int .i64 ((rd_T40 l0_2 x14_4).f0))).trans hx182_0; replace hx182_1 := (cell_far (p := ⟨gb181, 0, none⟩) (by first | (rw [add_block]; exact hn182_0) | (show (Addr.add _ _).block ≠ _; rw [add_block]; exact hn182_0) | exact hn182_0) (.int .i64 ((rd_T40 l0_2 x14_4).f0))).trans hx182_1; replace hx182_0 := (cell_far (p := ⟨gb181, 1, none⟩) (by first | (rw [add_block]; exact hn182_1) | (show (Addr.add _ _).block ≠ _; rw [add_block]; exact hn182_1) | exact hn182_1) (.string ((rd_T40 l0_2 x14_4).f1))).trans hx182_0; replace hx182_1 := (cell_far (p := ⟨gb181, 1, none⟩) (by first | (rw [add_block]; exact hn182_1) | (show (Addr.add _ _).block ≠ _; rw [add_block]; exact hn182_1) | exact hn182_1) (.string ((rd_T40 l0_2 x14_4).f1))).trans hx182_1; (try have hy182_0 := fun (n_ : Nat) => (show ((((w29.drewN n_).setCell ⟨gb181, 0, none⟩ (.int .i64 ((rd_T40 l0_2 x14_4).f0))).setCell ⟨gb181, 1, none⟩ (.string ((rd_T40 l0_2 x14_4).f1)))).cell? _ = some _ from hx182_0)); (try have hy182_1 := fun (n_ : Nat) => (show ((((w29.drewN n_).setCell ⟨gb181, 0, none⟩ (.int .i64 ((rd_T40 l0_2 x14_4).f0))).setCell ⟨gb181, 1, none⟩ (.string ((rd_T40 l0_2 x14_4).f1)))).cell? _ = some _ from hx182_1)); clear hn182_0; clear hn182_1; replace p182 := eq_true p182; replace q182 := eq_true q182) | (go_at_call 15; (with_reducible refine (cellarerref04_Of.calls k4 ((rd_T40 l0_2 x14_4).f1) t183 _ A24.out).mono ?_); rintro e w' ⟨rfl, ⟨nd, rfl⟩⟩; (try first | exact ⟨rfl, _, World.drewN_drewN _ _ _⟩ | exact ⟨rfl, _, Eq.trans (World.drewN_drewN _ _ _) (congrArg (World.drewN _) (Nat.add_assoc _ _ _))⟩); have p184 : 0 ≤ (x12_3 : Int) := of_decide_eq_true (by first | (with_reducible assumption) | assumption); have q184 : x12_3 < (l1.length : Int) := of_decide_eq_true (by first | (with_reducible assumption) | assumption); obtain ⟨ad184, e184, hx184_0, hx184_1⟩ := at_T48 HR1.out x12_3 p184 q184; obtain rfl : ad182 = ad184 := (by injection e184); have hn184_0 : ad182.block ≠ gb181 := Nat.ne_of_lt (Nat.lt_of_lt_of_le (by have := World.block_lt_of_cell? _ _ hx184_0; first | rwa [add_block] at this | exact this) GW181.out); have hn184_1 : ad182.block ≠ gb181 := Nat.ne_of_lt (Nat.lt_of_lt_of_le (by have := World.block_lt_of_cell? _ _ hx184_0; first | rwa [add_block] at this | exact this) GW181.out); replace hx184_0 := (HB.out.cell (World.block_lt_of_cell? w _ hx184_0)).trans hx184_0; replace hx184_1 := (HB.out.cell (World.block_lt_of_cell? w _ hx184_1)).trans hx184_1; replace hx184_0 := (cell_far (p := ⟨gb181, 0, none⟩) (by first | (rw [add_block]; exact hn184_0) | (show (Addr.add _ _).block ≠ _; rw [add_block]; exact hn184_0) | exact hn184_0) (.int .i64 ((rd_T40 l0_2 x14_4).f0))).trans hx184_0; replace hx184_1 := (cell_far (p := ⟨gb181, 0, none⟩) (by first | (rw [add_block]; exact hn184_0) | (show (Addr.add _ _).block ≠ _; rw [add_block]; exact hn184_0) | exact hn184_0) (.int .i64 ((rd_T40 l0_2 x14_4).f0))).trans hx184_1; replace hx184_0 := (cell_far (p := ⟨gb181, 1, none⟩) (by first | (rw [add_block]; exact hn184_1) | (show (Addr.add _ _).block ≠ _; rw [add_block]; exact hn184_1) | exact hn184_1) (.string ((rd_T40 l0_2 x14_4).f1))).trans hx184_0; replace hx184_1 := (cell_far (p := ⟨gb181, 1, none⟩) (by first | (rw [add_block]; exact hn184_1) | (show (Addr.add _ _).block ≠ _; rw [add_block]; exact hn184_1) | exact hn184_1) (.string ((rd_T40 l0_2 x14_4).f1))).trans hx184_1; (try have hy184_0 := fun (n_ : Nat) => (show ((((w29.drewN n_).setCell ⟨gb181, 0, none⟩ (.int .i64 ((rd_T40 l0_2 x14_4).f0))).setCell ⟨gb181, 1, none⟩ (.string ((rd_T40 l0_2 x14_4).f1)))).cell? _ = some _ from hx184_0)); (try have hy184_1 := fun (n_ : Nat) => (show ((((w29.drewN n_).setCell ⟨gb181, 0, none⟩ (.int .i64 ((rd_T40 l0_2 x14_4).f0))).setCell ⟨gb181, 1, none⟩ (.string ((rd_T40 l0_2 x14_4).f1)))).cell? _ = some _ from hx184_1)); clear hn184_0; clear hn184_1; replace p184 := eq_true p184; replace q184 := eq_true q184)))
                                        go_roundg k4
                                        case measure => have := HJ2.out; have := HK2.out; have := HK3.out; have := HK4.out; omega
                                        case rel => exact ⟨(x8_4 ++ ((rd_T40 l0_2 x14_4).f1)), (true), (true), (wrap64 (x14_4 + 1)), (by first | rfl | (simp; done) | (simp [*]; done)), (by first | rfl | (simp; done) | (simp [*]; done)), (by first | rfl | (simp; done) | (simp [*]; done)), (by first | rfl | (simp; done) | (simp [*]; done)), H', ⟨by have := HJ2.out; have := HK2.out; have := HK3.out; have := HK4.out; omega⟩, ⟨by (with_reducible repeat (first | apply Kd.R_alloc | apply Kd.R_drewN | apply Kd.R_drew)); exact Kd.R_mono (Kd.R_far (p := ⟨gb181, 1, none⟩) (Kd.R_far (p := ⟨gb181, 0, none⟩) (Kd.R_types HO_11.out BK181.out (by decide)) (fun _ hk => hk.2) (.int .i64 ((rd_T40 l0_2 x14_4).f0))) (fun _ hk => hk.2) (.string ((rd_T40 l0_2 x14_4).f1))) (fun _ hk => trivial)⟩, ⟨by (with_reducible repeat (first | refine blk_drewN ?_ _ | refine blk_drew ?_ | refine blk_alloc ?_ _)); refine blk_far ?_ NB176_181.out _; (with_reducible repeat (first | refine blk_drewN ?_ _ | refine blk_drew ?_ | refine blk_alloc ?_ _)); refine blk_far ?_ NB176_181.out _; (with_reducible repeat (first | refine blk_drewN ?_ _ | refine blk_drew ?_ | refine blk_alloc ?_ _)); exact BK176.out⟩, ⟨by repeat (first | (with_reducible first | exact HB.out | apply below_alloc | apply pw_below_drewN | apply below_drew1 | refine below_set ?_ GE176.out | refine below_set ?_ GE181.out) | exact HB.out)⟩⟩
                                      · replace c27 := Bool.eq_false_iff.mpr c27
                                        subst c27
                                        have H1 : (if x12_3 < (wrap64 ((l1.length : Int) - 1)) then (cellarerref08_Whole.l2 k4 l1 (x8_4 ++ ((rd_T40 l0_2 x14_4).f1)) (decide ((((rd_T40 l0_2 x14_4).f1).size : Int) < 5)) x10_3 x11_3 x12_3 true (wrap64 (x14_4 + 1)) a0_0 a0_1 l0_2) else (cellarerref08_Whole.l2 k4 l1 (x8_4 ++ ((rd_T40 l0_2 x14_4).f1)) false x10_3 x11_3 x12_3 true (wrap64 (x14_4 + 1)) a0_0 a0_1 l0_2)) = some (r1, r2, r3) := by rw [if_neg (show ¬ (false = true) by decide)] at H; exact H
                                        clear H
                                        have H := H1
                                        clear H1
                                        by_cases c32 : x12_3 < (wrap64 ((l1.length : Int) - 1))
                                        · rw [if_pos c32] at H
                                          have c32b0 : decide (x12_3 < (wrap64 ((l1.length : Int) - 1))) = true := decide_eq_true c32
                                          clear c32
                                          have H' := Aside0.mk H
                                          clear H
                                          have hcz33_0 : wr.cell? ⟨gb176, 0, none⟩ = some (.int .u64 a0_0) := (blk_cell BK176.out 0).trans rfl
                                          have hcz33_1 : wr.cell? ⟨gb176, 1, none⟩ = some (.string a0_1) := (blk_cell BK176.out 1).trans rfl
                                          have hcz33_2 : wr.cell? ⟨gb176, 2, none⟩ = some (.slice A0_2 l0_2.length c0_2) := (blk_cell BK176.out 2).trans rfl
                                          have hfz33_0 := blk_frozen BK176.out 0
                                          have hfz33_1 := blk_frozen BK176.out 1
                                          have hfz33_2 := blk_frozen BK176.out 2
                                          have p180 : 0 ≤ (x14_4 : Int) := of_decide_eq_true (by first | (with_reducible assumption) | assumption)
                                          have q180 : x14_4 < (l0_2.length : Int) := of_decide_eq_true (by first | (with_reducible assumption) | assumption)
                                          obtain ⟨ad180, e180, hx180_0, hx180_1⟩ := at_T40 HR0_2.out x14_4 p180 q180
                                          cases e180
                                          replace hx180_0 := (HB.out.cell (World.block_lt_of_cell? w _ hx180_0)).trans hx180_0
                                          replace hx180_1 := (HB.out.cell (World.block_lt_of_cell? w _ hx180_1)).trans hx180_1
                                          replace p180 := eq_true p180
                                          replace q180 := eq_true q180
                                          go_wp2_with (first | ((with_reducible refine gate_dst (N := 15) rfl ?_); (try (refine gate_guard (by rfl) ?_; dsimp only)); refine box_event ?hg (N := 15) ?hd (cs := #[.int .i64 0, .string (⟨#[]⟩ : ByteArray)]) (t := 40) ?hr ?_; (case hd => rfl); (case hg => rfl); (case hr => first | (go_simp; done) | (go_simp; rfl)); intro gb181 hg w34 hbox hb; have n0_ := Aside0.mk (Kd.R_below (by (with_reducible repeat (first | apply Kd.R_alloc | apply Kd.R_drewN | apply Kd.R_drew)); exact HO_11.out) hb); have n1_ := Aside0.mk (blk_below (g := gb176) (o := .cells #[.int .u64 a0_0, .string a0_1, .slice (some ad180) l0_2.length c0_2] 25 (0, 0)) (by (with_reducible repeat (first | refine blk_drewN ?_ _ | refine blk_drew ?_ | refine blk_alloc ?_ _)); exact BK176.out) hb); have n2_ := Aside0.mk (below_step (by repeat (first | (with_reducible first | exact HB.out | apply below_alloc | apply pw_below_drewN | apply below_drew1 | refine below_set ?_ GE176.out) | exact HB.out)) hb); have n3_ := Aside0.mk (hbox); have n4_ := Aside0.mk ((by rw [hg]; exact (below_size (by repeat (first | (with_reducible first | exact HB.out | apply below_alloc | apply pw_below_drewN | apply below_drew1 | refine below_set ?_ GE176.out) | exact HB.out))) : w.heap.size ≤ gb181)); have n5_ := Aside0.mk ((by rw [hg]; exact (below_size (by repeat (first | (with_reducible first | exact HB.out | apply below_alloc | apply pw_below_drewN | apply below_drew1 | refine below_set ?_ GE176.out) | exact HB.out))) : w.heap.size ≤ gb181)); have n6_ := Aside0.mk ((by rw [hg]; exact Nat.ne_of_lt (blk_lt (g := gb176) (o := .cells #[.int .u64 a0_0, .string a0_1, .slice (some ad180) l0_2.length c0_2] 25 (0, 0)) (by (with_reducible repeat (first | refine blk_drewN ?_ _ | refine blk_drew ?_ | refine blk_alloc ?_ _)); exact BK176.out)) : gb176 ≠ gb181)); have n7_ := Aside0.mk ((by rw [hg]; exact Nat.ne_of_gt (blk_lt (g := gb176) (o := .cells #[.int .u64 a0_0, .string a0_1, .slice (some ad180) l0_2.length c0_2] 25 (0, 0)) (by (with_reducible repeat (first | refine blk_drewN ?_ _ | refine blk_drew ?_ | refine blk_alloc ?_ _)); exact BK176.out)) : gb181 ≠ gb176)); clear HO_11; clear BK176; clear HB; have HO_11 := n0_; have BK176 := n1_; have HB := n2_; have BK181 := n3_; have GW181 := n4_; have GE181 := n5_; have NB176_181 := n6_; have NB181_176 := n7_; clear n0_ n1_ n2_ n3_ n4_ n5_ n6_ n7_; clear hb hbox hg; have hnb35 := NB181_176.out; have hnc35 := NB176_181.out; have hcz36_0 : w34.cell? ⟨gb181, 0, none⟩ = some (.int .i64 0) := (blk_cell BK181.out 0).trans rfl; have hcz36_1 : w34.cell? ⟨gb181, 1, none⟩ = some (.string (⟨#[]⟩ : ByteArray)) := (blk_cell BK181.out 1).trans rfl; have hfz36_0 := blk_frozen BK181.out 0; have hfz36_1 := blk_frozen BK181.out 1; have p182 : 0 ≤ (x12_3 : Int) := of_decide_eq_true (by first | (with_reducible assumption) | assumption); have q182 : x12_3 < (l1.length : Int) := of_decide_eq_true (by first | (with_reducible assumption) | assumption); obtain ⟨ad182, e182, hx182_0, hx182_1⟩ := at_T48 HR1.out x12_3 p182 q182; cases e182; have hn182_0 : ad182.block ≠ gb181 := Nat.ne_of_lt (Nat.lt_of_lt_of_le (by have := World.block_lt_of_cell? _ _ hx182_0; first | rwa [add_block] at this | exact this) GW181.out); have hn182_1 : ad182.block ≠ gb181 := Nat.ne_of_lt (Nat.lt_of_lt_of_le (by have := World.block_lt_of_cell? _ _ hx182_0; first | rwa [add_block] at this | exact this) GW181.out); replace hx182_0 := (HB.out.cell (World.block_lt_of_cell? w _ hx182_0)).trans hx182_0; replace hx182_1 := (HB.out.cell (World.block_lt_of_cell? w _ hx182_1)).trans hx182_1; replace hx182_0 := (cell_far (p := ⟨gb181, 0, none⟩) (by first | (rw [add_block]; exact hn182_0) | (show (Addr.add _ _).block ≠ _; rw [add_block]; exact hn182_0) | exact hn182_0) (.int .i64 ((rd_T40 l0_2 x14_4).f0))).trans hx182_0; replace hx182_1 := (cell_far (p := ⟨gb181, 0, none⟩) (by first | (rw [add_block]; exact hn182_0) | (show (Addr.add _ _).block ≠ _; rw [add_block]; exact hn182_0) | exact hn182_0) (.int .i64 ((rd_T40 l0_2 x14_4).f0))).trans hx182_1; replace hx182_0 := (cell_far (p := ⟨gb181, 1, none⟩) (by first | (rw [add_block]; exact hn182_1) | (show (Addr.add _ _).block ≠ _; rw [add_block]; exact hn182_1) | exact hn182_1) (.string ((rd_T40 l0_2 x14_4).f1))).trans hx182_0; replace hx182_1 := (cell_far (p := ⟨gb181, 1, none⟩) (by first | (rw [add_block]; exact hn182_1) | (show (Addr.add _ _).block ≠ _; rw [add_block]; exact hn182_1) | exact hn182_1) (.string ((rd_T40 l0_2 x14_4).f1))).trans hx182_1; (try have hy182_0 := fun (n_ : Nat) => (show ((((w34.drewN n_).setCell ⟨gb181, 0, none⟩ (.int .i64 ((rd_T40 l0_2 x14_4).f0))).setCell ⟨gb181, 1, none⟩ (.string ((rd_T40 l0_2 x14_4).f1)))).cell? _ = some _ from hx182_0)); (try have hy182_1 := fun (n_ : Nat) => (show ((((w34.drewN n_).setCell ⟨gb181, 0, none⟩ (.int .i64 ((rd_T40 l0_2 x14_4).f0))).setCell ⟨gb181, 1, none⟩ (.string ((rd_T40 l0_2 x14_4).f1)))).cell? _ = some _ from hx182_1)); clear hn182_0; clear hn182_1; replace p182 := eq_true p182; replace q182 := eq_true q182) | (go_at_call 15; (with_reducible refine (cellarerref04_Of.calls k4 ((rd_T40 l0_2 x14_4).f1) t183 _ A24.out).mono ?_); rintro e w' ⟨rfl, ⟨nd, rfl⟩⟩; (try first | exact ⟨rfl, _, World.drewN_drewN _ _ _⟩ | exact ⟨rfl, _, Eq.trans (World.drewN_drewN _ _ _) (congrArg (World.drewN _) (Nat.add_assoc _ _ _))⟩); have p184 : 0 ≤ (x12_3 : Int) := of_decide_eq_true (by first | (with_reducible assumption) | assumption); have q184 : x12_3 < (l1.length : Int) := of_decide_eq_true (by first | (with_reducible assumption) | assumption); obtain ⟨ad184, e184, hx184_0, hx184_1⟩ := at_T48 HR1.out x12_3 p184 q184; obtain rfl : ad182 = ad184 := (by injection e184); have hn184_0 : ad182.block ≠ gb181 := Nat.ne_of_lt (Nat.lt_of_lt_of_le (by have := World.block_lt_of_cell? _ _ hx184_0; first | rwa [add_block] at this | exact this) GW181.out); have hn184_1 : ad182.block ≠ gb181 := Nat.ne_of_lt (Nat.lt_of_lt_of_le (by have := World.block_lt_of_cell? _ _ hx184_0; first | rwa [add_block] at this | exact this) GW181.out); replace hx184_0 := (HB.out.cell (World.block_lt_of_cell? w _ hx184_0)).trans hx184_0; replace hx184_1 := (HB.out.cell (World.block_lt_of_cell? w _ hx184_1)).trans hx184_1; replace hx184_0 := (cell_far (p := ⟨gb181, 0, none⟩) (by first | (rw [add_block]; exact hn184_0) | (show (Addr.add _ _).block ≠ _; rw [add_block]; exact hn184_0) | exact hn184_0) (.int .i64 ((rd_T40 l0_2 x14_4).f0))).trans hx184_0; replace hx184_1 := (cell_far (p := ⟨gb181, 0, none⟩) (by first | (rw [add_block]; exact hn184_0) | (show (Addr.add _ _).block ≠ _; rw [add_block]; exact hn184_0) | exact hn184_0) (.int .i64 ((rd_T40 l0_2 x14_4).f0))).trans hx184_1; replace hx184_0 := (cell_far (p := ⟨gb181, 1, none⟩) (by first | (rw [add_block]; exact hn184_1) | (show (Addr.add _ _).block ≠ _; rw [add_block]; exact hn184_1) | exact hn184_1) (.string ((rd_T40 l0_2 x14_4).f1))).trans hx184_0; replace hx184_1 := (cell_far (p := ⟨gb181, 1, none⟩) (by first | (rw [add_block]; exact hn184_1) | (show (Addr.add _ _).block ≠ _; rw [add_block]; exact hn184_1) | exact hn184_1) (.string ((rd_T40 l0_2 x14_4).f1))).trans hx184_1; (try have hy184_0 := fun (n_ : Nat) => (show ((((w34.drewN n_).setCell ⟨gb181, 0, none⟩ (.int .i64 ((rd_T40 l0_2 x14_4).f0))).setCell ⟨gb181, 1, none⟩ (.string ((rd_T40 l0_2 x14_4).f1)))).cell? _ = some _ from hx184_0)); (try have hy184_1 := fun (n_ : Nat) => (show ((((w34.drewN n_).setCell ⟨gb181, 0, none⟩ (.int .i64 ((rd_T40 l0_2 x14_4).f0))).setCell ⟨gb181, 1, none⟩ (.string ((rd_T40 l0_2 x14_4).f1)))).cell? _ = some _ from hx184_1)); clear hn184_0; clear hn184_1; replace p184 := eq_true p184; replace q184 := eq_true q184))
                                          repeat (go_quiet (first | ((with_reducible refine gate_dst (N := 15) rfl ?_); (try (refine gate_guard (by rfl) ?_; dsimp only)); refine box_event ?hg (N := 15) ?hd (cs := #[.int .i64 0, .string (⟨#[]⟩ : ByteArray)]) (t := 40) ?hr ?_; (case hd => rfl); (case hg => rfl); (case hr => first | (go_simp; done) | (go_simp; rfl)); intro gb181 hg w34 hbox hb; have n0_ := Aside0.mk (Kd.R_below (by (with_reducible repeat (first | apply Kd.R_alloc | apply Kd.R_drewN | apply Kd.R_drew)); exact HO_11.out) hb); have n1_ := Aside0.mk (blk_below (g := gb176) (o := .cells #[.int .u64 a0_0, .string a0_1, .slice (some ad180) l0_2.length c0_2] 25 (0, 0)) (by (with_reducible repeat (first | refine blk_drewN ?_ _ | refine blk_drew ?_ | refine blk_alloc ?_ _)); exact BK176.out) hb); have n2_ := Aside0.mk (below_step (by repeat (first | (with_reducible first | exact HB.out | apply below_alloc | apply pw_below_drewN | apply below_drew1 | refine below_set ?_ GE176.out) | exact HB.out)) hb); have n3_ := Aside0.mk (hbox); have n4_ := Aside0.mk ((by rw [hg]; exact (below_size (by repeat (first | (with_reducible first | exact HB.out | apply below_alloc | apply pw_below_drewN | apply below_drew1 | refine below_set ?_ GE176.out) | exact HB.out))) : w.heap.size ≤ gb181)); have n5_ := Aside0.mk ((by rw [hg]; exact (below_size (by repeat (first | (with_reducible first | exact HB.out | apply below_alloc | apply pw_below_drewN | apply below_drew1 | refine below_set ?_ GE176.out) | exact HB.out))) : w.heap.size ≤ gb181)); have n6_ := Aside0.mk ((by rw [hg]; exact Nat.ne_of_lt (blk_lt (g := gb176) (o := .cells #[.int .u64 a0_0, .string a0_1, .slice (some ad180) l0_2.length c0_2] 25 (0, 0)) (by (with_reducible repeat (first | refine blk_drewN ?_ _ | refine blk_drew ?_ | refine blk_alloc ?_ _)); exact BK176.out)) : gb176 ≠ gb181)); have n7_ := Aside0.mk ((by rw [hg]; exact Nat.ne_of_gt (blk_lt (g := gb176) (o := .cells #[.int .u64 a0_0, .string a0_1, .slice (some ad180) l0_2.length c0_2] 25 (0, 0)) (by (with_reducible repeat (first | refine blk_drewN ?_ _ | refine blk_drew ?_ | refine blk_alloc ?_ _)); exact BK176.out)) : gb181 ≠ gb176)); clear HO_11; clear BK176; clear HB; have HO_11 := n0_; have BK176 := n1_; have HB := n2_; have BK181 := n3_; have GW181 := n4_; have GE181 := n5_; have NB176_181 := n6_; have NB181_176 := n7_; clear n0_ n1_ n2_ n3_ n4_ n5_ n6_ n7_; clear hb hbox hg; have hnb35 := NB181_176.out; have hnc35 := NB176_181.out; have hcz36_0 : w34.cell? ⟨gb181, 0, none⟩ = some (.int .i64 0) := (blk_cell BK181.out 0).trans rfl; have hcz36_1 : w34.cell? ⟨gb181, 1, none⟩ = some (.string (⟨#[]⟩ : ByteArray)) := (blk_cell BK181.out 1).trans rfl; have hfz36_0 := blk_frozen BK181.out 0; have hfz36_1 := blk_frozen BK181.out 1; have p182 : 0 ≤ (x12_3 : Int) := of_decide_eq_true (by first | (with_reducible assumption) | assumption); have q182 : x12_3 < (l1.length : Int) := of_decide_eq_true (by first | (with_reducible assumption) | assumption); obtain ⟨ad182, e182, hx182_0, hx182_1⟩ := at_T48 HR1.out x12_3 p182 q182; cases e182; have hn182_0 : ad182.block ≠ gb181 := Nat.ne_of_lt (Nat.lt_of_lt_of_le (by have := World.block_lt_of_cell? _ _ hx182_0; first | rwa [add_block] at this | exact this) GW181.out); have hn182_1 : ad182.block ≠ gb181 := Nat.ne_of_lt (Nat.lt_of_lt_of_le (by have := World.block_lt_of_cell? _ _ hx182_0; first | rwa [add_block] at this | exact this) GW181.out); replace hx182_0 := (HB.out.cell (World.block_lt_of_cell? w _ hx182_0)).trans hx182_0; replace hx182_1 := (HB.out.cell (World.block_lt_of_cell? w _ hx182_1)).trans hx182_1; replace hx182_0 := (cell_far (p := ⟨gb181, 0, none⟩) (by first | (rw [add_block]; exact hn182_0) | (show (Addr.add _ _).block ≠ _; rw [add_block]; exact hn182_0) | exact hn182_0) (.int .i64 ((rd_T40 l0_2 x14_4).f0))).trans hx182_0; replace hx182_1 := (cell_far (p := ⟨gb181, 0, none⟩) (by first | (rw [add_block]; exact hn182_0) | (show (Addr.add _ _).block ≠ _; rw [add_block]; exact hn182_0) | exact hn182_0) (.int .i64 ((rd_T40 l0_2 x14_4).f0))).trans hx182_1; replace hx182_0 := (cell_far (p := ⟨gb181, 1, none⟩) (by first | (rw [add_block]; exact hn182_1) | (show (Addr.add _ _).block ≠ _; rw [add_block]; exact hn182_1) | exact hn182_1) (.string ((rd_T40 l0_2 x14_4).f1))).trans hx182_0; replace hx182_1 := (cell_far (p := ⟨gb181, 1, none⟩) (by first | (rw [add_block]; exact hn182_1) | (show (Addr.add _ _).block ≠ _; rw [add_block]; exact hn182_1) | exact hn182_1) (.string ((rd_T40 l0_2 x14_4).f1))).trans hx182_1; (try have hy182_0 := fun (n_ : Nat) => (show ((((w34.drewN n_).setCell ⟨gb181, 0, none⟩ (.int .i64 ((rd_T40 l0_2 x14_4).f0))).setCell ⟨gb181, 1, none⟩ (.string ((rd_T40 l0_2 x14_4).f1)))).cell? _ = some _ from hx182_0)); (try have hy182_1 := fun (n_ : Nat) => (show ((((w34.drewN n_).setCell ⟨gb181, 0, none⟩ (.int .i64 ((rd_T40 l0_2 x14_4).f0))).setCell ⟨gb181, 1, none⟩ (.string ((rd_T40 l0_2 x14_4).f1)))).cell? _ = some _ from hx182_1)); clear hn182_0; clear hn182_1; replace p182 := eq_true p182; replace q182 := eq_true q182) | (go_at_call 15; (with_reducible refine (cellarerref04_Of.calls k4 ((rd_T40 l0_2 x14_4).f1) t183 _ A24.out).mono ?_); rintro e w' ⟨rfl, ⟨nd, rfl⟩⟩; (try first | exact ⟨rfl, _, World.drewN_drewN _ _ _⟩ | exact ⟨rfl, _, Eq.trans (World.drewN_drewN _ _ _) (congrArg (World.drewN _) (Nat.add_assoc _ _ _))⟩); have p184 : 0 ≤ (x12_3 : Int) := of_decide_eq_true (by first | (with_reducible assumption) | assumption); have q184 : x12_3 < (l1.length : Int) := of_decide_eq_true (by first | (with_reducible assumption) | assumption); obtain ⟨ad184, e184, hx184_0, hx184_1⟩ := at_T48 HR1.out x12_3 p184 q184; obtain rfl : ad182 = ad184 := (by injection e184); have hn184_0 : ad182.block ≠ gb181 := Nat.ne_of_lt (Nat.lt_of_lt_of_le (by have := World.block_lt_of_cell? _ _ hx184_0; first | rwa [add_block] at this | exact this) GW181.out); have hn184_1 : ad182.block ≠ gb181 := Nat.ne_of_lt (Nat.lt_of_lt_of_le (by have := World.block_lt_of_cell? _ _ hx184_0; first | rwa [add_block] at this | exact this) GW181.out); replace hx184_0 := (HB.out.cell (World.block_lt_of_cell? w _ hx184_0)).trans hx184_0; replace hx184_1 := (HB.out.cell (World.block_lt_of_cell? w _ hx184_1)).trans hx184_1; replace hx184_0 := (cell_far (p := ⟨gb181, 0, none⟩) (by first | (rw [add_block]; exact hn184_0) | (show (Addr.add _ _).block ≠ _; rw [add_block]; exact hn184_0) | exact hn184_0) (.int .i64 ((rd_T40 l0_2 x14_4).f0))).trans hx184_0; replace hx184_1 := (cell_far (p := ⟨gb181, 0, none⟩) (by first | (rw [add_block]; exact hn184_0) | (show (Addr.add _ _).block ≠ _; rw [add_block]; exact hn184_0) | exact hn184_0) (.int .i64 ((rd_T40 l0_2 x14_4).f0))).trans hx184_1; replace hx184_0 := (cell_far (p := ⟨gb181, 1, none⟩) (by first | (rw [add_block]; exact hn184_1) | (show (Addr.add _ _).block ≠ _; rw [add_block]; exact hn184_1) | exact hn184_1) (.string ((rd_T40 l0_2 x14_4).f1))).trans hx184_0; replace hx184_1 := (cell_far (p := ⟨gb181, 1, none⟩) (by first | (rw [add_block]; exact hn184_1) | (show (Addr.add _ _).block ≠ _; rw [add_block]; exact hn184_1) | exact hn184_1) (.string ((rd_T40 l0_2 x14_4).f1))).trans hx184_1; (try have hy184_0 := fun (n_ : Nat) => (show ((((w34.drewN n_).setCell ⟨gb181, 0, none⟩ (.int .i64 ((rd_T40 l0_2 x14_4).f0))).setCell ⟨gb181, 1, none⟩ (.string ((rd_T40 l0_2 x14_4).f1)))).cell? _ = some _ from hx184_0)); (try have hy184_1 := fun (n_ : Nat) => (show ((((w34.drewN n_).setCell ⟨gb181, 0, none⟩ (.int .i64 ((rd_T40 l0_2 x14_4).f0))).setCell ⟨gb181, 1, none⟩ (.string ((rd_T40 l0_2 x14_4).f1)))).cell? _ = some _ from hx184_1)); clear hn184_0; clear hn184_1; replace p184 := eq_true p184; replace q184 := eq_true q184)); try go_wp2_with (first | ((with_reducible refine gate_dst (N := 15) rfl ?_); (try (refine gate_guard (by rfl) ?_; dsimp only)); refine box_event ?hg (N := 15) ?hd (cs := #[.int .i64 0, .string (⟨#[]⟩ : ByteArray)]) (t := 40) ?hr ?_; (case hd => rfl); (case hg => rfl); (case hr => first | (go_simp; done) | (go_simp; rfl)); intro gb181 hg w34 hbox hb; have n0_ := Aside0.mk (Kd.R_below (by (with_reducible repeat (first | apply Kd.R_alloc | apply Kd.R_drewN | apply Kd.R_drew)); exact HO_11.out) hb); have n1_ := Aside0.mk (blk_below (g := gb176) (o := .cells #[.int .u64 a0_0, .string a0_1, .slice (some ad180) l0_2.length c0_2] 25 (0, 0)) (by (with_reducible repeat (first | refine blk_drewN ?_ _ | refine blk_drew ?_ | refine blk_alloc ?_ _)); exact BK176.out) hb); have n2_ := Aside0.mk (below_step (by repeat (first | (with_reducible first | exact HB.out | apply below_alloc | apply pw_below_drewN | apply below_drew1 | refine below_set ?_ GE176.out) | exact HB.out)) hb); have n3_ := Aside0.mk (hbox); have n4_ := Aside0.mk ((by rw [hg]; exact (below_size (by repeat (first | (with_reducible first | exact HB.out | apply below_alloc | apply pw_below_drewN | apply below_drew1 | refine below_set ?_ GE176.out) | exact HB.out))) : w.heap.size ≤ gb181)); have n5_ := Aside0.mk ((by rw [hg]; exact (below_size (by repeat (first | (with_reducible first | exact HB.out | apply below_alloc | apply pw_below_drewN | apply below_drew1 | refine below_set ?_ GE176.out) | exact HB.out))) : w.heap.size ≤ gb181)); have n6_ := Aside0.mk ((by rw [hg]; exact Nat.ne_of_lt (blk_lt (g := gb176) (o := .cells #[.int .u64 a0_0, .string a0_1, .slice (some ad180) l0_2.length c0_2] 25 (0, 0)) (by (with_reducible repeat (first | refine blk_drewN ?_ _ | refine blk_drew ?_ | refine blk_alloc ?_ _)); exact BK176.out)) : gb176 ≠ gb181)); have n7_ := Aside0.mk ((by rw [hg]; exact Nat.ne_of_gt (blk_lt (g := gb176) (o := .cells #[.int .u64 a0_0, .string a0_1, .slice (some ad180) l0_2.length c0_2] 25 (0, 0)) (by (with_reducible repeat (first | refine blk_drewN ?_ _ | refine blk_drew ?_ | refine blk_alloc ?_ _)); exact BK176.out)) : gb181 ≠ gb176)); clear HO_11; clear BK176; clear HB; have HO_11 := n0_; have BK176 := n1_; have HB := n2_; have BK181 := n3_; have GW181 := n4_; have GE181 := n5_; have NB176_181 := n6_; have NB181_176 := n7_; clear n0_ n1_ n2_ n3_ n4_ n5_ n6_ n7_; clear hb hbox hg; have hnb35 := NB181_176.out; have hnc35 := NB176_181.out; have hcz36_0 : w34.cell? ⟨gb181, 0, none⟩ = some (.int .i64 0) := (blk_cell BK181.out 0).trans rfl; have hcz36_1 : w34.cell? ⟨gb181, 1, none⟩ = some (.string (⟨#[]⟩ : ByteArray)) := (blk_cell BK181.out 1).trans rfl; have hfz36_0 := blk_frozen BK181.out 0; have hfz36_1 := blk_frozen BK181.out 1; have p182 : 0 ≤ (x12_3 : Int) := of_decide_eq_true (by first | (with_reducible assumption) | assumption); have q182 : x12_3 < (l1.length : Int) := of_decide_eq_true (by first | (with_reducible assumption) | assumption); obtain ⟨ad182, e182, hx182_0, hx182_1⟩ := at_T48 HR1.out x12_3 p182 q182; cases e182; have hn182_0 : ad182.block ≠ gb181 := Nat.ne_of_lt (Nat.lt_of_lt_of_le (by have := World.block_lt_of_cell? _ _ hx182_0; first | rwa [add_block] at this | exact this) GW181.out); have hn182_1 : ad182.block ≠ gb181 := Nat.ne_of_lt (Nat.lt_of_lt_of_le (by have := World.block_lt_of_cell? _ _ hx182_0; first | rwa [add_block] at this | exact this) GW181.out); replace hx182_0 := (HB.out.cell (World.block_lt_of_cell? w _ hx182_0)).trans hx182_0; replace hx182_1 := (HB.out.cell (World.block_lt_of_cell? w _ hx182_1)).trans hx182_1; replace hx182_0 := (cell_far (p := ⟨gb181, 0, none⟩) (by first | (rw [add_block]; exact hn182_0) | (show (Addr.add _ _).block ≠ _; rw [add_block]; exact hn182_0) | exact hn182_0) (.int .i64 ((rd_T40 l0_2 x14_4).f0))).trans hx182_0; replace hx182_1 := (cell_far (p := ⟨gb181, 0, none⟩) (by first | (rw [add_block]; exact hn182_0) | (show (Addr.add _ _).block ≠ _; rw [add_block]; exact hn182_0) | exact hn182_0) (.int .i64 ((rd_T40 l0_2 x14_4).f0))).trans hx182_1; replace hx182_0 := (cell_far (p := ⟨gb181, 1, none⟩) (by first | (rw [add_block]; exact hn182_1) | (show (Addr.add _ _).block ≠ _; rw [add_block]; exact hn182_1) | exact hn182_1) (.string ((rd_T40 l0_2 x14_4).f1))).trans hx182_0; replace hx182_1 := (cell_far (p := ⟨gb181, 1, none⟩) (by first | (rw [add_block]; exact hn182_1) | (show (Addr.add _ _).block ≠ _; rw [add_block]; exact hn182_1) | exact hn182_1) (.string ((rd_T40 l0_2 x14_4).f1))).trans hx182_1; (try have hy182_0 := fun (n_ : Nat) => (show ((((w34.drewN n_).setCell ⟨gb181, 0, none⟩ (.int .i64 ((rd_T40 l0_2 x14_4).f0))).setCell ⟨gb181, 1, none⟩ (.string ((rd_T40 l0_2 x14_4).f1)))).cell? _ = some _ from hx182_0)); (try have hy182_1 := fun (n_ : Nat) => (show ((((w34.drewN n_).setCell ⟨gb181, 0, none⟩ (.int .i64 ((rd_T40 l0_2 x14_4).f0))).setCell ⟨gb181, 1, none⟩ (.string ((rd_T40 l0_2 x14_4).f1)))).cell? _ = some _ from hx182_1)); clear hn182_0; clear hn182_1; replace p182 := eq_true p182; replace q182 := eq_true q182) | (go_at_call 15; (with_reducible refine (cellarerref04_Of.calls k4 ((rd_T40 l0_2 x14_4).f1) t183 _ A24.out).mono ?_); rintro e w' ⟨rfl, ⟨nd, rfl⟩⟩; (try first | exact ⟨rfl, _, World.drewN_drewN _ _ _⟩ | exact ⟨rfl, _, Eq.trans (World.drewN_drewN _ _ _) (congrArg (World.drewN _) (Nat.add_assoc _ _ _))⟩); have p184 : 0 ≤ (x12_3 : Int) := of_decide_eq_true (by first | (with_reducible assumption) | assumption); have q184 : x12_3 < (l1.length : Int) := of_decide_eq_true (by first | (with_reducible assumption) | assumption); obtain ⟨ad184, e184, hx184_0, hx184_1⟩ := at_T48 HR1.out x12_3 p184 q184; obtain rfl : ad182 = ad184 := (by injection e184); have hn184_0 : ad182.block ≠ gb181 := Nat.ne_of_lt (Nat.lt_of_lt_of_le (by have := World.block_lt_of_cell? _ _ hx184_0; first | rwa [add_block] at this | exact this) GW181.out); have hn184_1 : ad182.block ≠ gb181 := Nat.ne_of_lt (Nat.lt_of_lt_of_le (by have := World.block_lt_of_cell? _ _ hx184_0; first | rwa [add_block] at this | exact this) GW181.out); replace hx184_0 := (HB.out.cell (World.block_lt_of_cell? w _ hx184_0)).trans hx184_0; replace hx184_1 := (HB.out.cell (World.block_lt_of_cell? w _ hx184_1)).trans hx184_1; replace hx184_0 := (cell_far (p := ⟨gb181, 0, none⟩) (by first | (rw [add_block]; exact hn184_0) | (show (Addr.add _ _).block ≠ _; rw [add_block]; exact hn184_0) | exact hn184_0) (.int .i64 ((rd_T40 l0_2 x14_4).f0))).trans hx184_0; replace hx184_1 := (cell_far (p := ⟨gb181, 0, none⟩) (by first | (rw [add_block]; exact hn184_0) | (show (Addr.add _ _).block ≠ _; rw [add_block]; exact hn184_0) | exact hn184_0) (.int .i64 ((rd_T40 l0_2 x14_4).f0))).trans hx184_1; replace hx184_0 := (cell_far (p := ⟨gb181, 1, none⟩) (by first | (rw [add_block]; exact hn184_1) | (show (Addr.add _ _).block ≠ _; rw [add_block]; exact hn184_1) | exact hn184_1) (.string ((rd_T40 l0_2 x14_4).f1))).trans hx184_0; replace hx184_1 := (cell_far (p := ⟨gb181, 1, none⟩) (by first | (rw [add_block]; exact hn184_1) | (show (Addr.add _ _).block ≠ _; rw [add_block]; exact hn184_1) | exact hn184_1) (.string ((rd_T40 l0_2 x14_4).f1))).trans hx184_1; (try have hy184_0 := fun (n_ : Nat) => (show ((((w34.drewN n_).setCell ⟨gb181, 0, none⟩ (.int .i64 ((rd_T40 l0_2 x14_4).f0))).setCell ⟨gb181, 1, none⟩ (.string ((rd_T40 l0_2 x14_4).f1)))).cell? _ = some _ from hx184_0)); (try have hy184_1 := fun (n_ : Nat) => (show ((((w34.drewN n_).setCell ⟨gb181, 0, none⟩ (.int .i64 ((rd_T40 l0_2 x14_4).f0))).setCell ⟨gb181, 1, none⟩ (.string ((rd_T40 l0_2 x14_4).f1)))).cell? _ = some _ from hx184_1)); clear hn184_0; clear hn184_1; replace p184 := eq_true p184; replace q184 := eq_true q184)))
                                          go_roundg k4
                                          case measure => have := HJ2.out; have := HK2.out; have := HK3.out; have := HK4.out; omega
                                          case rel => exact ⟨(x8_4 ++ ((rd_T40 l0_2 x14_4).f1)), (decide ((((rd_T40 l0_2 x14_4).f1).size : Int) < 5)), (true), (wrap64 (x14_4 + 1)), (by first | rfl | (simp; done) | (simp [*]; done)), (by first | rfl | (simp; done) | (simp [*]; done)), (by first | rfl | (simp; done) | (simp [*]; done)), (by first | rfl | (simp; done) | (simp [*]; done)), H', ⟨by have := HJ2.out; have := HK2.out; have := HK3.out; have := HK4.out; omega⟩, ⟨by (with_reducible repeat (first | apply Kd.R_alloc | apply Kd.R_drewN | apply Kd.R_drew)); exact Kd.R_mono (Kd.R_far (p := ⟨gb181, 1, none⟩) (Kd.R_far (p := ⟨gb181, 0, none⟩) (Kd.R_types HO_11.out BK181.out (by decide)) (fun _ hk => hk.2) (.int .i64 ((rd_T40 l0_2 x14_4).f0))) (fun _ hk => hk.2) (.string ((rd_T40 l0_2 x14_4).f1))) (fun _ hk => trivial)⟩, ⟨by (with_reducible repeat (first | refine blk_drewN ?_ _ | refine blk_drew ?_ | refine blk_alloc ?_ _)); refine blk_far ?_ NB176_181.out _; (with_reducible repeat (first | refine blk_drewN ?_ _ | refine blk_drew ?_ | refine blk_alloc ?_ _)); refine blk_far ?_ NB176_181.out _; (with_reducible repeat (first | refine blk_drewN ?_ _ | refine blk_drew ?_ | refine blk_alloc ?_ _)); exact BK176.out⟩, ⟨by repeat (first | (with_reducible first | exact HB.out | apply below_alloc | apply pw_below_drewN | apply below_drew1 | refine below_set ?_ GE176.out | refine below_set ?_ GE181.out) | exact HB.out)⟩⟩
                                        · rw [if_neg c32] at H
                                          have c32b0 : decide (x12_3 < (wrap64 ((l1.length : Int) - 1))) = false := decide_eq_false c32
                                          clear c32
                                          have H' := Aside0.mk H
                                          clear H
                                          have hcz37_0 : wr.cell? ⟨gb176, 0, none⟩ = some (.int .u64 a0_0) := (blk_cell BK176.out 0).trans rfl
                                          have hcz37_1 : wr.cell? ⟨gb176, 1, none⟩ = some (.string a0_1) := (blk_cell BK176.out 1).trans rfl
                                          have hcz37_2 : wr.cell? ⟨gb176, 2, none⟩ = some (.slice A0_2 l0_2.length c0_2) := (blk_cell BK176.out 2).trans rfl
                                          have hfz37_0 := blk_frozen BK176.out 0
                                          have hfz37_1 := blk_frozen BK176.out 1
                                          have hfz37_2 := blk_frozen BK176.out 2
                                          have p180 : 0 ≤ (x14_4 : Int) := of_decide_eq_true (by first | (with_reducible assumption) | assumption)
                                          have q180 : x14_4 < (l0_2.length : Int) := of_decide_eq_true (by first | (with_reducible assumption) | assumption)
                                          obtain ⟨ad180, e180, hx180_0, hx180_1⟩ := at_T40 HR0_2.out x14_4 p180 q180
                                          cases e180
                                          replace hx180_0 := (HB.out.cell (World.block_lt_of_cell? w _ hx180_0)).trans hx180_0
                                          replace hx180_1 := (HB.out.cell (World.block_lt_of_cell? w _ hx180_1)).trans hx180_1
                                          replace p180 := eq_true p180
                                          replace q180 := eq_true q180
                                          go_wp2_with (first | ((with_reducible refine gate_dst (N := 15) rfl ?_); (try (refine gate_guard (by rfl) ?_; dsimp only)); refine box_event ?hg (N := 15) ?hd (cs := #[.int .i64 0, .string (⟨#[]⟩ : ByteArray)]) (t := 40) ?hr ?_; (case hd => rfl); (case hg => rfl); (case hr => first | (go_simp; done) | (go_simp; rfl)); intro gb181 hg w38 hbox hb; have n0_ := Aside0.mk (Kd.R_below (by (with_reducible repeat (first | apply Kd.R_alloc | apply Kd.R_drewN | apply Kd.R_drew)); exact HO_11.out) hb); have n1_ := Aside0.mk (blk_below (g := gb176) (o := .cells #[.int .u64 a0_0, .string a0_1, .slice (some ad180) l0_2.length c0_2] 25 (0, 0)) (by (with_reducible repeat (first | refine blk_drewN ?_ _ | refine blk_drew ?_ | refine blk_alloc ?_ _)); exact BK176.out) hb); have n2_ := Aside0.mk (below_step (by repeat (first | (with_reducible first | exact HB.out | apply below_alloc | apply pw_below_drewN | apply below_drew1 | refine below_set ?_ GE176.out) | exact HB.out)) hb); have n3_ := Aside0.mk (hbox); have n4_ := Aside0.mk ((by rw [hg]; exact (below_size (by repeat (first | (with_reducible first | exact HB.out | apply below_alloc | apply pw_below_drewN | apply below_drew1 | refine below_set ?_ GE176.out) | exact HB.out))) : w.heap.size ≤ gb181)); have n5_ := Aside0.mk ((by rw [hg]; exact (below_size (by repeat (first | (with_reducible first | exact HB.out | apply below_alloc | apply pw_below_drewN | apply below_drew1 | refine below_set ?_ GE176.out) | exact HB.out))) : w.heap.size ≤ gb181)); have n6_ := Aside0.mk ((by rw [hg]; exact Nat.ne_of_lt (blk_lt (g := gb176) (o := .cells #[.int .u64 a0_0, .string a0_1, .slice (some ad180) l0_2.length c0_2] 25 (0, 0)) (by (with_reducible repeat (first | refine blk_drewN ?_ _ | refine blk_drew ?_ | refine blk_alloc ?_ _)); exact BK176.out)) : gb176 ≠ gb181)); have n7_ := Aside0.mk ((by rw [hg]; exact Nat.ne_of_gt (blk_lt (g := gb176) (o := .cells #[.int .u64 a0_0, .string a0_1, .slice (some ad180) l0_2.length c0_2] 25 (0, 0)) (by (with_reducible repeat (first | refine blk_drewN ?_ _ | refine blk_drew ?_ | refine blk_alloc ?_ _)); exact BK176.out)) : gb181 ≠ gb176)); clear HO_11; clear BK176; clear HB; have HO_11 := n0_; have BK176 := n1_; have HB := n2_; have BK181 := n3_; have GW181 := n4_; have GE181 := n5_; have NB176_181 := n6_; have NB181_176 := n7_; clear n0_ n1_ n2_ n3_ n4_ n5_ n6_ n7_; clear hb hbox hg; have hnb39 := NB181_176.out; have hnc39 := NB176_181.out; have hcz40_0 : w38.cell? ⟨gb181, 0, none⟩ = some (.int .i64 0) := (blk_cell BK181.out 0).trans rfl; have hcz40_1 : w38.cell? ⟨gb181, 1, none⟩ = some (.string (⟨#[]⟩ : ByteArray)) := (blk_cell BK181.out 1).trans rfl; have hfz40_0 := blk_frozen BK181.out 0; have hfz40_1 := blk_frozen BK181.out 1; have p182 : 0 ≤ (x12_3 : Int) := of_decide_eq_true (by first | (with_reducible assumption) | assumption); have q182 : x12_3 < (l1.length : Int) := of_decide_eq_true (by first | (with_reducible assumption) | assumption); obtain ⟨ad182, e182, hx182_0, hx182_1⟩ := at_T48 HR1.out x12_3 p182 q182; cases e182; have hn182_0 : ad182.block ≠ gb181 := Nat.ne_of_lt (Nat.lt_of_lt_of_le (by have := World.block_lt_of_cell? _ _ hx182_0; first | rwa [add_block] at this | exact this) GW181.out); have hn182_1 : ad182.block ≠ gb181 := Nat.ne_of_lt (Nat.lt_of_lt_of_le (by have := World.block_lt_of_cell? _ _ hx182_0; first | rwa [add_block] at this | exact this) GW181.out); replace hx182_0 := (HB.out.cell (World.block_lt_of_cell? w _ hx182_0)).trans hx182_0; replace hx182_1 := (HB.out.cell (World.block_lt_of_cell? w _ hx182_1)).trans hx182_1; replace hx182_0 := (cell_far (p := ⟨gb181, 0, none⟩) (by first | (rw [add_block]; exact hn182_0) | (show (Addr.add _ _).block ≠ _; rw [add_block]; exact hn182_0) | exact hn182_0) (.int .i64 ((rd_T40 l0_2 x14_4).f0))).trans hx182_0; replace hx182_1 := (cell_far (p := ⟨gb181, 0, none⟩) (by first | (rw [add_block]; exact hn182_0) | (show (Addr.add _ _).block ≠ _; rw [add_block]; exact hn182_0) | exact hn182_0) (.int .i64 ((rd_T40 l0_2 x14_4).f0))).trans hx182_1; replace hx182_0 := (cell_far (p := ⟨gb181, 1, none⟩) (by first | (rw [add_block]; exact hn182_1) | (show (Addr.add _ _).block ≠ _; rw [add_block]; exact hn182_1) | exact hn182_1) (.string ((rd_T40 l0_2 x14_4).f1))).trans hx182_0; replace hx182_1 := (cell_far (p := ⟨gb181, 1, none⟩) (by first | (rw [add_block]; exact hn182_1) | (show (Addr.add _ _).block ≠ _; rw [add_block]; exact hn182_1) | exact hn182_1) (.string ((rd_T40 l0_2 x14_4).f1))).trans hx182_1; (try have hy182_0 := fun (n_ : Nat) => (show ((((w38.drewN n_).setCell ⟨gb181, 0, none⟩ (.int .i64 ((rd_T40 l0_2 x14_4).f0))).setCell ⟨gb181, 1, none⟩ (.string ((rd_T40 l0_2 x14_4).f1)))).cell? _ = some _ from hx182_0)); (try have hy182_1 := fun (n_ : Nat) => (show ((((w38.drewN n_).setCell ⟨gb181, 0, none⟩ (.int .i64 ((rd_T40 l0_2 x14_4).f0))).setCell ⟨gb181, 1, none⟩ (.string ((rd_T40 l0_2 x14_4).f1)))).cell? _ = some _ from hx182_1)); clear hn182_0; clear hn182_1; replace p182 := eq_true p182; replace q182 := eq_true q182) | (go_at_call 15; (with_reducible refine (cellarerref04_Of.calls k4 ((rd_T40 l0_2 x14_4).f1) t183 _ A24.out).mono ?_); rintro e w' ⟨rfl, ⟨nd, rfl⟩⟩; (try first | exact ⟨rfl, _, World.drewN_drewN _ _ _⟩ | exact ⟨rfl, _, Eq.trans (World.drewN_drewN _ _ _) (congrArg (World.drewN _) (Nat.add_assoc _ _ _))⟩); have p184 : 0 ≤ (x12_3 : Int) := of_decide_eq_true (by first | (with_reducible assumption) | assumption); have q184 : x12_3 < (l1.length : Int) := of_decide_eq_true (by first | (with_reducible assumption) | assumption); obtain ⟨ad184, e184, hx184_0, hx184_1⟩ := at_T48 HR1.out x12_3 p184 q184; obtain rfl : ad182 = ad184 := (by injection e184); have hn184_0 : ad182.block ≠ gb181 := Nat.ne_of_lt (Nat.lt_of_lt_of_le (by have := World.block_lt_of_cell? _ _ hx184_0; first | rwa [add_block] at this | exact this) GW181.out); have hn184_1 : ad182.block ≠ gb181 := Nat.ne_of_lt (Nat.lt_of_lt_of_le (by have := World.block_lt_of_cell? _ _ hx184_0; first | rwa [add_block] at this | exact this) GW181.out); replace hx184_0 := (HB.out.cell (World.block_lt_of_cell? w _ hx184_0)).trans hx184_0; replace hx184_1 := (HB.out.cell (World.block_lt_of_cell? w _ hx184_1)).trans hx184_1; replace hx184_0 := (cell_far (p := ⟨gb181, 0, none⟩) (by first | (rw [add_block]; exact hn184_0) | (show (Addr.add _ _).block ≠ _; rw [add_block]; exact hn184_0) | exact hn184_0) (.int .i64 ((rd_T40 l0_2 x14_4).f0))).trans hx184_0; replace hx184_1 := (cell_far (p := ⟨gb181, 0, none⟩) (by first | (rw [add_block]; exact hn184_0) | (show (Addr.add _ _).block ≠ _; rw [add_block]; exact hn184_0) | exact hn184_0) (.int .i64 ((rd_T40 l0_2 x14_4).f0))).trans hx184_1; replace hx184_0 := (cell_far (p := ⟨gb181, 1, none⟩) (by first | (rw [add_block]; exact hn184_1) | (show (Addr.add _ _).block ≠ _; rw [add_block]; exact hn184_1) | exact hn184_1) (.string ((rd_T40 l0_2 x14_4).f1))).trans hx184_0; replace hx184_1 := (cell_far (p := ⟨gb181, 1, none⟩) (by first | (rw [add_block]; exact hn184_1) | (show (Addr.add _ _).block ≠ _; rw [add_block]; exact hn184_1) | exact hn184_1) (.string ((rd_T40 l0_2 x14_4).f1))).trans hx184_1; (try have hy184_0 := fun (n_ : Nat) => (show ((((w38.drewN n_).setCell ⟨gb181, 0, none⟩ (.int .i64 ((rd_T40 l0_2 x14_4).f0))).setCell ⟨gb181, 1, none⟩ (.string ((rd_T40 l0_2 x14_4).f1)))).cell? _ = some _ from hx184_0)); (try have hy184_1 := fun (n_ : Nat) => (show ((((w38.drewN n_).setCell ⟨gb181, 0, none⟩ (.int .i64 ((rd_T40 l0_2 x14_4).f0))).setCell ⟨gb181, 1, none⟩ (.string ((rd_T40 l0_2 x14_4).f1)))).cell? _ = some _ from hx184_1)); clear hn184_0; clear hn184_1; replace p184 := eq_true p184; replace q184 := eq_true q184))
                                          repeat (go_quiet (first | ((with_reducible refine gate_dst (N := 15) rfl ?_); (try (refine gate_guard (by rfl) ?_; dsimp only)); refine box_event ?hg (N := 15) ?hd (cs := #[.int .i64 0, .string (⟨#[]⟩ : ByteArray)]) (t := 40) ?hr ?_; (case hd => rfl); (case hg => rfl); (case hr => first | (go_simp; done) | (go_simp; rfl)); intro gb181 hg w38 hbox hb; have n0_ := Aside0.mk (Kd.R_below (by (with_reducible repeat (first | apply Kd.R_alloc | apply Kd.R_drewN | apply Kd.R_drew)); exact HO_11.out) hb); have n1_ := Aside0.mk (blk_below (g := gb176) (o := .cells #[.int .u64 a0_0, .string a0_1, .slice (some ad180) l0_2.length c0_2] 25 (0, 0)) (by (with_reducible repeat (first | refine blk_drewN ?_ _ | refine blk_drew ?_ | refine blk_alloc ?_ _)); exact BK176.out) hb); have n2_ := Aside0.mk (below_step (by repeat (first | (with_reducible first | exact HB.out | apply below_alloc | apply pw_below_drewN | apply below_drew1 | refine below_set ?_ GE176.out) | exact HB.out)) hb); have n3_ := Aside0.mk (hbox); have n4_ := Aside0.mk ((by rw [hg]; exact (below_size (by repeat (first | (with_reducible first | exact HB.out | apply below_alloc | apply pw_below_drewN | apply below_drew1 | refine below_set ?_ GE176.out) | exact HB.out))) : w.heap.size ≤ gb181)); have n5_ := Aside0.mk ((by rw [hg]; exact (below_size (by repeat (first | (with_reducible first | exact HB.out | apply below_alloc | apply pw_below_drewN | apply below_drew1 | refine below_set ?_ GE176.out) | exact HB.out))) : w.heap.size ≤ gb181)); have n6_ := Aside0.mk ((by rw [hg]; exact Nat.ne_of_lt (blk_lt (g := gb176) (o := .cells #[.int .u64 a0_0, .string a0_1, .slice (some ad180) l0_2.length c0_2] 25 (0, 0)) (by (with_reducible repeat (first | refine blk_drewN ?_ _ | refine blk_drew ?_ | refine blk_alloc ?_ _)); exact BK176.out)) : gb176 ≠ gb181)); have n7_ := Aside0.mk ((by rw [hg]; exact Nat.ne_of_gt (blk_lt (g := gb176) (o := .cells #[.int .u64 a0_0, .string a0_1, .slice (some ad180) l0_2.length c0_2] 25 (0, 0)) (by (with_reducible repeat (first | refine blk_drewN ?_ _ | refine blk_drew ?_ | refine blk_alloc ?_ _)); exact BK176.out)) : gb181 ≠ gb176)); clear HO_11; clear BK176; clear HB; have HO_11 := n0_; have BK176 := n1_; have HB := n2_; have BK181 := n3_; have GW181 := n4_; have GE181 := n5_; have NB176_181 := n6_; have NB181_176 := n7_; clear n0_ n1_ n2_ n3_ n4_ n5_ n6_ n7_; clear hb hbox hg; have hnb39 := NB181_176.out; have hnc39 := NB176_181.out; have hcz40_0 : w38.cell? ⟨gb181, 0, none⟩ = some (.int .i64 0) := (blk_cell BK181.out 0).trans rfl; have hcz40_1 : w38.cell? ⟨gb181, 1, none⟩ = some (.string (⟨#[]⟩ : ByteArray)) := (blk_cell BK181.out 1).trans rfl; have hfz40_0 := blk_frozen BK181.out 0; have hfz40_1 := blk_frozen BK181.out 1; have p182 : 0 ≤ (x12_3 : Int) := of_decide_eq_true (by first | (with_reducible assumption) | assumption); have q182 : x12_3 < (l1.length : Int) := of_decide_eq_true (by first | (with_reducible assumption) | assumption); obtain ⟨ad182, e182, hx182_0, hx182_1⟩ := at_T48 HR1.out x12_3 p182 q182; cases e182; have hn182_0 : ad182.block ≠ gb181 := Nat.ne_of_lt (Nat.lt_of_lt_of_le (by have := World.block_lt_of_cell? _ _ hx182_0; first | rwa [add_block] at this | exact this) GW181.out); have hn182_1 : ad182.block ≠ gb181 := Nat.ne_of_lt (Nat.lt_of_lt_of_le (by have := World.block_lt_of_cell? _ _ hx182_0; first | rwa [add_block] at this | exact this) GW181.out); replace hx182_0 := (HB.out.cell (World.block_lt_of_cell? w _ hx182_0)).trans hx182_0; replace hx182_1 := (HB.out.cell (World.block_lt_of_cell? w _ hx182_1)).trans hx182_1; replace hx182_0 := (cell_far (p := ⟨gb181, 0, none⟩) (by first | (rw [add_block]; exact hn182_0) | (show (Addr.add _ _).block ≠ _; rw [add_block]; exact hn182_0) | exact hn182_0) (.int .i64 ((rd_T40 l0_2 x14_4).f0))).trans hx182_0; replace hx182_1 := (cell_far (p := ⟨gb181, 0, none⟩) (by first | (rw [add_block]; exact hn182_0) | (show (Addr.add _ _).block ≠ _; rw [add_block]; exact hn182_0) | exact hn182_0) (.int .i64 ((rd_T40 l0_2 x14_4).f0))).trans hx182_1; replace hx182_0 := (cell_far (p := ⟨gb181, 1, none⟩) (by first | (rw [add_block]; exact hn182_1) | (show (Addr.add _ _).block ≠ _; rw [add_block]; exact hn182_1) | exact hn182_1) (.string ((rd_T40 l0_2 x14_4).f1))).trans hx182_0; replace hx182_1 := (cell_far (p := ⟨gb181, 1, none⟩) (by first | (rw [add_block]; exact hn182_1) | (show (Addr.add _ _).block ≠ _; rw [add_block]; exact hn182_1) | exact hn182_1) (.string ((rd_T40 l0_2 x14_4).f1))).trans hx182_1; (try have hy182_0 := fun (n_ : Nat) => (show ((((w38.drewN n_).setCell ⟨gb181, 0, none⟩ (.int .i64 ((rd_T40 l0_2 x14_4).f0))).setCell ⟨gb181, 1, none⟩ (.string ((rd_T40 l0_2 x14_4).f1)))).cell? _ = some _ from hx182_0)); (try have hy182_1 := fun (n_ : Nat) => (show ((((w38.drewN n_).setCell ⟨gb181, 0, none⟩ (.int .i64 ((rd_T40 l0_2 x14_4).f0))).setCell ⟨gb181, 1, none⟩ (.string ((rd_T40 l0_2 x14_4).f1)))).cell? _ = some _ from hx182_1)); clear hn182_0; clear hn182_1; replace p182 := eq_true p182; replace q182 := eq_true q182) | (go_at_call 15; (with_reducible refine (cellarerref04_Of.calls k4 ((rd_T40 l0_2 x14_4).f1) t183 _ A24.out).mono ?_); rintro e w' ⟨rfl, ⟨nd, rfl⟩⟩; (try first | exact ⟨rfl, _, World.drewN_drewN _ _ _⟩ | exact ⟨rfl, _, Eq.trans (World.drewN_drewN _ _ _) (congrArg (World.drewN _) (Nat.add_assoc _ _ _))⟩); have p184 : 0 ≤ (x12_3 : Int) := of_decide_eq_true (by first | (with_reducible assumption) | assumption); have q184 : x12_3 < (l1.length : Int) := of_decide_eq_true (by first | (with_reducible assumption) | assumption); obtain ⟨ad184, e184, hx184_0, hx184_1⟩ := at_T48 HR1.out x12_3 p184 q184; obtain rfl : ad182 = ad184 := (by injection e184); have hn184_0 : ad182.block ≠ gb181 := Nat.ne_of_lt (Nat.lt_of_lt_of_le (by have := World.block_lt_of_cell? _ _ hx184_0; first | rwa [add_block] at this | exact this) GW181.out); have hn184_1 : ad182.block ≠ gb181 := Nat.ne_of_lt (Nat.lt_of_lt_of_le (by have := World.block_lt_of_cell? _ _ hx184_0; first | rwa [add_block] at this | exact this) GW181.out); replace hx184_0 := (HB.out.cell (World.block_lt_of_cell? w _ hx184_0)).trans hx184_0; replace hx184_1 := (HB.out.cell (World.block_lt_of_cell? w _ hx184_1)).trans hx184_1; replace hx184_0 := (cell_far (p := ⟨gb181, 0, none⟩) (by first | (rw [add_block]; exact hn184_0) | (show (Addr.add _ _).block ≠ _; rw [add_block]; exact hn184_0) | exact hn184_0) (.int .i64 ((rd_T40 l0_2 x14_4).f0))).trans hx184_0; replace hx184_1 := (cell_far (p := ⟨gb181, 0, none⟩) (by first | (rw [add_block]; exact hn184_0) | (show (Addr.add _ _).block ≠ _; rw [add_block]; exact hn184_0) | exact hn184_0) (.int .i64 ((rd_T40 l0_2 x14_4).f0))).trans hx184_1; replace hx184_0 := (cell_far (p := ⟨gb181, 1, none⟩) (by first | (rw [add_block]; exact hn184_1) | (show (Addr.add _ _).block ≠ _; rw [add_block]; exact hn184_1) | exact hn184_1) (.string ((rd_T40 l0_2 x14_4).f1))).trans hx184_0; replace hx184_1 := (cell_far (p := ⟨gb181, 1, none⟩) (by first | (rw [add_block]; exact hn184_1) | (show (Addr.add _ _).block ≠ _; rw [add_block]; exact hn184_1) | exact hn184_1) (.string ((rd_T40 l0_2 x14_4).f1))).trans hx184_1; (try have hy184_0 := fun (n_ : Nat) => (show ((((w38.drewN n_).setCell ⟨gb181, 0, none⟩ (.int .i64 ((rd_T40 l0_2 x14_4).f0))).setCell ⟨gb181, 1, none⟩ (.string ((rd_T40 l0_2 x14_4).f1)))).cell? _ = some _ from hx184_0)); (try have hy184_1 := fun (n_ : Nat) => (show ((((w38.drewN n_).setCell ⟨gb181, 0, none⟩ (.int .i64 ((rd_T40 l0_2 x14_4).f0))).setCell ⟨gb181, 1, none⟩ (.string ((rd_T40 l0_2 x14_4).f1)))).cell? _ = some _ from hx184_1)); clear hn184_0; clear hn184_1; replace p184 := eq_true p184; replace q184 := eq_true q184)); try go_wp2_with (first | ((with_reducible refine gate_dst (N := 15) rfl ?_); (try (refine gate_guard (by rfl) ?_; dsimp only)); refine box_event ?hg (N := 15) ?hd (cs := #[.int .i64 0, .string (⟨#[]⟩ : ByteArray)]) (t := 40) ?hr ?_; (case hd => rfl); (case hg => rfl); (case hr => first | (go_simp; done) | (go_simp; rfl)); intro gb181 hg w38 hbox hb; have n0_ := Aside0.mk (Kd.R_below (by (with_reducible repeat (first | apply Kd.R_alloc | apply Kd.R_drewN | apply Kd.R_drew)); exact HO_11.out) hb); have n1_ := Aside0.mk (blk_below (g := gb176) (o := .cells #[.int .u64 a0_0, .string a0_1, .slice (some ad180) l0_2.length c0_2] 25 (0, 0)) (by (with_reducible repeat (first | refine blk_drewN ?_ _ | refine blk_drew ?_ | refine blk_alloc ?_ _)); exact BK176.out) hb); have n2_ := Aside0.mk (below_step (by repeat (first | (with_reducible first | exact HB.out | apply below_alloc | apply pw_below_drewN | apply below_drew1 | refine below_set ?_ GE176.out) | exact HB.out)) hb); have n3_ := Aside0.mk (hbox); have n4_ := Aside0.mk ((by rw [hg]; exact (below_size (by repeat (first | (with_reducible first | exact HB.out | apply below_alloc | apply pw_below_drewN | apply below_drew1 | refine below_set ?_ GE176.out) | exact HB.out))) : w.heap.size ≤ gb181)); have n5_ := Aside0.mk ((by rw [hg]; exact (below_size (by repeat (first | (with_reducible first | exact HB.out | apply below_alloc | apply pw_below_drewN | apply below_drew1 | refine below_set ?_ GE176.out) | exact HB.out))) : w.heap.size ≤ gb181)); have n6_ := Aside0.mk ((by rw [hg]; exact Nat.ne_of_lt (blk_lt (g := gb176) (o := .cells #[.int .u64 a0_0, .string a0_1, .slice (some ad180) l0_2.length c0_2] 25 (0, 0)) (by (with_reducible repeat (first | refine blk_drewN ?_ _ | refine blk_drew ?_ | refine blk_alloc ?_ _)); exact BK176.out)) : gb176 ≠ gb181)); have n7_ := Aside0.mk ((by rw [hg]; exact Nat.ne_of_gt (blk_lt (g := gb176) (o := .cells #[.int .u64 a0_0, .string a0_1, .slice (some ad180) l0_2.length c0_2] 25 (0, 0)) (by (with_reducible repeat (first | refine blk_drewN ?_ _ | refine blk_drew ?_ | refine blk_alloc ?_ _)); exact BK176.out)) : gb181 ≠ gb176)); clear HO_11; clear BK176; clear HB; have HO_11 := n0_; have BK176 := n1_; have HB := n2_; have BK181 := n3_; have GW181 := n4_; have GE181 := n5_; have NB176_181 := n6_; have NB181_176 := n7_; clear n0_ n1_ n2_ n3_ n4_ n5_ n6_ n7_; clear hb hbox hg; have hnb39 := NB181_176.out; have hnc39 := NB176_181.out; have hcz40_0 : w38.cell? ⟨gb181, 0, none⟩ = some (.int .i64 0) := (blk_cell BK181.out 0).trans rfl; have hcz40_1 : w38.cell? ⟨gb181, 1, none⟩ = some (.string (⟨#[]⟩ : ByteArray)) := (blk_cell BK181.out 1).trans rfl; have hfz40_0 := blk_frozen BK181.out 0; have hfz40_1 := blk_frozen BK181.out 1; have p182 : 0 ≤ (x12_3 : Int) := of_decide_eq_true (by first | (with_reducible assumption) | assumption); have q182 : x12_3 < (l1.length : Int) := of_decide_eq_true (by first | (with_reducible assumption) | assumption); obtain ⟨ad182, e182, hx182_0, hx182_1⟩ := at_T48 HR1.out x12_3 p182 q182; cases e182; have hn182_0 : ad182.block ≠ gb181 := Nat.ne_of_lt (Nat.lt_of_lt_of_le (by have := World.block_lt_of_cell? _ _ hx182_0; first | rwa [add_block] at this | exact this) GW181.out); have hn182_1 : ad182.block ≠ gb181 := Nat.ne_of_lt (Nat.lt_of_lt_of_le (by have := World.block_lt_of_cell? _ _ hx182_0; first | rwa [add_block] at this | exact this) GW181.out); replace hx182_0 := (HB.out.cell (World.block_lt_of_cell? w _ hx182_0)).trans hx182_0; replace hx182_1 := (HB.out.cell (World.block_lt_of_cell? w _ hx182_1)).trans hx182_1; replace hx182_0 := (cell_far (p := ⟨gb181, 0, none⟩) (by first | (rw [add_block]; exact hn182_0) | (show (Addr.add _ _).block ≠ _; rw [add_block]; exact hn182_0) | exact hn182_0) (.int .i64 ((rd_T40 l0_2 x14_4).f0))).trans hx182_0; replace hx182_1 := (cell_far (p := ⟨gb181, 0, none⟩) (by first | (rw [add_block]; exact hn182_0) | (show (Addr.add _ _).block ≠ _; rw [add_block]; exact hn182_0) | exact hn182_0) (.int .i64 ((rd_T40 l0_2 x14_4).f0))).trans hx182_1; replace hx182_0 := (cell_far (p := ⟨gb181, 1, none⟩) (by first | (rw [add_block]; exact hn182_1) | (show (Addr.add _ _).block ≠ _; rw [add_block]; exact hn182_1) | exact hn182_1) (.string ((rd_T40 l0_2 x14_4).f1))).trans hx182_0; replace hx182_1 := (cell_far (p := ⟨gb181, 1, none⟩) (by first | (rw [add_block]; exact hn182_1) | (show (Addr.add _ _).block ≠ _; rw [add_block]; exact hn182_1) | exact hn182_1) (.string ((rd_T40 l0_2 x14_4).f1))).trans hx182_1; (try have hy182_0 := fun (n_ : Nat) => (show ((((w38.drewN n_).setCell ⟨gb181, 0, none⟩ (.int .i64 ((rd_T40 l0_2 x14_4).f0))).setCell ⟨gb181, 1, none⟩ (.string ((rd_T40 l0_2 x14_4).f1)))).cell? _ = some _ from hx182_0)); (try have hy182_1 := fun (n_ : Nat) => (show ((((w38.drewN n_).setCell ⟨gb181, 0, none⟩ (.int .i64 ((rd_T40 l0_2 x14_4).f0))).setCell ⟨gb181, 1, none⟩ (.string ((rd_T40 l0_2 x14_4).f1)))).cell? _ = some _ from hx182_1)); clear hn182_0; clear hn182_1; replace p182 := eq_true p182; replace q182 := eq_true q182) | (go_at_call 15; (with_reducible refine (cellarerref04_Of.calls k4 ((rd_T40 l0_2 x14_4).f1) t183 _ A24.out).mono ?_); rintro e w' ⟨rfl, ⟨nd, rfl⟩⟩; (try first | exact ⟨rfl, _, World.drewN_drewN _ _ _⟩ | exact ⟨rfl, _, Eq.trans (World.drewN_drewN _ _ _) (congrArg (World.drewN _) (Nat.add_assoc _ _ _))⟩); have p184 : 0 ≤ (x12_3 : Int) := of_decide_eq_true (by first | (with_reducible assumption) | assumption); have q184 : x12_3 < (l1.length : Int) := of_decide_eq_true (by first | (with_reducible assumption) | assumption); obtain ⟨ad184, e184, hx184_0, hx184_1⟩ := at_T48 HR1.out x12_3 p184 q184; obtain rfl : ad182 = ad184 := (by injection e184); have hn184_0 : ad182.block ≠ gb181 := Nat.ne_of_lt (Nat.lt_of_lt_of_le (by have := World.block_lt_of_cell? _ _ hx184_0; first | rwa [add_block] at this | exact this) GW181.out); have hn184_1 : ad182.block ≠ gb181 := Nat.ne_of_lt (Nat.lt_of_lt_of_le (by have := World.block_lt_of_cell? _ _ hx184_0; first | rwa [add_block] at this | exact this) GW181.out); replace hx184_0 := (HB.out.cell (World.block_lt_of_cell? w _ hx184_0)).trans hx184_0; replace hx184_1 := (HB.out.cell (World.block_lt_of_cell? w _ hx184_1)).trans hx184_1; replace hx184_0 := (cell_far (p := ⟨gb181, 0, none⟩) (by first | (rw [add_block]; exact hn184_0) | (show (Addr.add _ _).block ≠ _; rw [add_block]; exact hn184_0) | exact hn184_0) (.int .i64 ((rd_T40 l0_2 x14_4).f0))).trans hx184_0; replace hx184_1 := (cell_far (p := ⟨gb181, 0, none⟩) (by first | (rw [add_block]; exact hn184_0) | (show (Addr.add _ _).block ≠ _; rw [add_block]; exact hn184_0) | exact hn184_0) (.int .i64 ((rd_T40 l0_2 x14_4).f0))).trans hx184_1; replace hx184_0 := (cell_far (p := ⟨gb181, 1, none⟩) (by first | (rw [add_block]; exact hn184_1) | (show (Addr.add _ _).block ≠ _; rw [add_block]; exact hn184_1) | exact hn184_1) (.string ((rd_T40 l0_2 x14_4).f1))).trans hx184_0; replace hx184_1 := (cell_far (p := ⟨gb181, 1, none⟩) (by first | (rw [add_block]; exact hn184_1) | (show (Addr.add _ _).block ≠ _; rw [add_block]; exact hn184_1) | exact hn184_1) (.string ((rd_T40 l0_2 x14_4).f1))).trans hx184_1; (try have hy184_0 := fun (n_ : Nat) => (show ((((w38.drewN n_).setCell ⟨gb181, 0, none⟩ (.int .i64 ((rd_T40 l0_2 x14_4).f0))).setCell ⟨gb181, 1, none⟩ (.string ((rd_T40 l0_2 x14_4).f1)))).cell? _ = some _ from hx184_0)); (try have hy184_1 := fun (n_ : Nat) => (show ((((w38.drewN n_).setCell ⟨gb181, 0, none⟩ (.int .i64 ((rd_T40 l0_2 x14_4).f0))).setCell ⟨gb181, 1, none⟩ (.string ((rd_T40 l0_2 x14_4).f1)))).cell? _ = some _ from hx184_1)); clear hn184_0; clear hn184_1; replace p184 := eq_true p184; replace q184 := eq_true q184)))
                                          go_roundg k4
                                          case measure => have := HJ2.out; have := HK2.out; have := HK3.out; have := HK4.out; omega
                                          case rel => exact ⟨(x8_4 ++ ((rd_T40 l0_2 x14_4).f1)), (false), (true), (wrap64 (x14_4 + 1)), (by first | rfl | (simp; done) | (simp [*]; done)), (by first | rfl | (simp; done) | (simp [*]; done)), (by first | rfl | (simp; done) | (simp [*]; done)), (by first | rfl | (simp; done) | (simp [*]; done)), H', ⟨by have := HJ2.out; have := HK2.out; have := HK3.out; have := HK4.out; omega⟩, ⟨by (with_reducible repeat (first | apply Kd.R_alloc | apply Kd.R_drewN | apply Kd.R_drew)); exact Kd.R_mono (Kd.R_far (p := ⟨gb181, 1, none⟩) (Kd.R_far (p := ⟨gb181, 0, none⟩) (Kd.R_types HO_11.out BK181.out (by decide)) (fun _ hk => hk.2) (.int .i64 ((rd_T40 l0_2 x14_4).f0))) (fun _ hk => hk.2) (.string ((rd_T40 l0_2 x14_4).f1))) (fun _ hk => trivial)⟩, ⟨by (with_reducible repeat (first | refine blk_drewN ?_ _ | refine blk_drew ?_ | refine blk_alloc ?_ _)); refine blk_far ?_ NB176_181.out _; (with_reducible repeat (first | refine blk_drewN ?_ _ | refine blk_drew ?_ | refine blk_alloc ?_ _)); refine blk_far ?_ NB176_181.out _; (with_reducible repeat (first | refine blk_drewN ?_ _ | refine blk_drew ?_ | refine blk_alloc ?_ _)); exact BK176.out⟩, ⟨by repeat (first | (with_reducible first | exact HB.out | apply below_alloc | apply pw_below_drewN | apply below_drew1 | refine below_set ?_ GE176.out | refine below_set ?_ GE181.out) | exact HB.out)⟩⟩
                                    · rw [if_neg c26] at H
                                      exact absurd H (by simp)
                                  · rw [if_neg c25] at H
                                    have c25b0 : (t183 == ((rd_T48 l1 x12_3).f1)) = false := beq_eq_false_iff_ne.mpr c25
                                    have c25b1 : (t183 != ((rd_T48 l1 x12_3).f1)) = true := bne_iff_ne.mpr c25
                                    have H' := Aside0.mk H
                                    clear H
                                    have hcz41_0 : wr.cell? ⟨gb176, 0, none⟩ = some (.int .u64 a0_0) := (blk_cell BK176.out 0).trans rfl
                                    have hcz41_1 : wr.cell? ⟨gb176, 1, none⟩ = some (.string a0_1) := (blk_cell BK176.out 1).trans rfl
                                    have hcz41_2 : wr.cell? ⟨gb176, 2, none⟩ = some (.slice A0_2 l0_2.length c0_2) := (blk_cell BK176.out 2).trans rfl
                                    have hfz41_0 := blk_frozen BK176.out 0
                                    have hfz41_1 := blk_frozen BK176.out 1
                                    have hfz41_2 := blk_frozen BK176.out 2
                                    have p180 : 0 ≤ (x14_4 : Int) := of_decide_eq_true (by first | (with_reducible assumption) | assumption)
                                    have q180 : x14_4 < (l0_2.length : Int) := of_decide_eq_true (by first | (with_reducible assumption) | assumption)
                                    obtain ⟨ad180, e180, hx180_0, hx180_1⟩ := at_T40 HR0_2.out x14_4 p180 q180
                                    cases e180
                                    replace hx180_0 := (HB.out.cell (World.block_lt_of_cell? w _ hx180_0)).trans hx180_0
                                    replace hx180_1 := (HB.out.cell (World.block_lt_of_cell? w _ hx180_1)).trans hx180_1
                                    replace p180 := eq_true p180
                                    replace q180 := eq_true q180
                                    go_wp2_with (first | ((with_reducible refine gate_dst (N := 15) rfl ?_); (try (refine gate_guard (by rfl) ?_; dsimp only)); refine box_event ?hg (N := 15) ?hd (cs := #[.int .i64 0, .string (⟨#[]⟩ : ByteArray)]) (t := 40) ?hr ?_; (case hd => rfl); (case hg => rfl); (case hr => first | (go_simp; done) | (go_simp; rfl)); intro gb181 hg w42 hbox hb; have n0_ := Aside0.mk (Kd.R_below (by (with_reducible repeat (first | apply Kd.R_alloc | apply Kd.R_drewN | apply Kd.R_drew)); exact HO_11.out) hb); have n1_ := Aside0.mk (blk_below (g := gb176) (o := .cells #[.int .u64 a0_0, .string a0_1, .slice (some ad180) l0_2.length c0_2] 25 (0, 0)) (by (with_reducible repeat (first | refine blk_drewN ?_ _ | refine blk_drew ?_ | refine blk_alloc ?_ _)); exact BK176.out) hb); have n2_ := Aside0.mk (below_step (by repeat (first | (with_reducible first | exact HB.out | apply below_alloc | apply pw_below_drewN | apply below_drew1 | refine below_set ?_ GE176.out) | exact HB.out)) hb); have n3_ := Aside0.mk (hbox); have n4_ := Aside0.mk ((by rw [hg]; exact (below_size (by repeat (first | (with_reducible first | exact HB.out | apply below_alloc | apply pw_below_drewN | apply below_drew1 | refine below_set ?_ GE176.out) | exact HB.out))) : w.heap.size ≤ gb181)); have n5_ := Aside0.mk ((by rw [hg]; exact (below_size (by repeat (first | (with_reducible first | exact HB.out | apply below_alloc | apply pw_below_drewN | apply below_drew1 | refine below_set ?_ GE176.out) | exact HB.out))) : w.heap.size ≤ gb181)); have n6_ := Aside0.mk ((by rw [hg]; exact Nat.ne_of_lt (blk_lt (g := gb176) (o := .cells #[.int .u64 a0_0, .string a0_1, .slice (some ad180) l0_2.length c0_2] 25 (0, 0)) (by (with_reducible repeat (first | refine blk_drewN ?_ _ | refine blk_drew ?_ | refine blk_alloc ?_ _)); exact BK176.out)) : gb176 ≠ gb181)); have n7_ := Aside0.mk ((by rw [hg]; exact Nat.ne_of_gt (blk_lt (g := gb176) (o := .cells #[.int .u64 a0_0, .string a0_1, .slice (some ad180) l0_2.length c0_2] 25 (0, 0)) (by (with_reducible repeat (first | refine blk_drewN ?_ _ | refine blk_drew ?_ | refine blk_alloc ?_ _)); exact BK176.out)) : gb181 ≠ gb176)); clear HO_11; clear BK176; clear HB; have HO_11 := n0_; have BK176 := n1_; have HB := n2_; have BK181 := n3_; have GW181 := n4_; have GE181 := n5_; have NB176_181 := n6_; have NB181_176 := n7_; clear n0_ n1_ n2_ n3_ n4_ n5_ n6_ n7_; clear hb hbox hg; have hnb43 := NB181_176.out; have hnc43 := NB176_181.out; have hcz44_0 : w42.cell? ⟨gb181, 0, none⟩ = some (.int .i64 0) := (blk_cell BK181.out 0).trans rfl; have hcz44_1 : w42.cell? ⟨gb181, 1, none⟩ = some (.string (⟨#[]⟩ : ByteArray)) := (blk_cell BK181.out 1).trans rfl; have hfz44_0 := blk_frozen BK181.out 0; have hfz44_1 := blk_frozen BK181.out 1; have p182 : 0 ≤ (x12_3 : Int) := of_decide_eq_true (by first | (with_reducible assumption) | assumption); have q182 : x12_3 < (l1.length : Int) := of_decide_eq_true (by first | (with_reducible assumption) | assumption); obtain ⟨ad182, e182, hx182_0, hx182_1⟩ := at_T48 HR1.out x12_3 p182 q182; cases e182; have hn182_0 : ad182.block ≠ gb181 := Nat.ne_of_lt (Nat.lt_of_lt_of_le (by have := World.block_lt_of_cell? _ _ hx182_0; first | rwa [add_block] at this | exact this) GW181.out); have hn182_1 : ad182.block ≠ gb181 := Nat.ne_of_lt (Nat.lt_of_lt_of_le (by have := World.block_lt_of_cell? _ _ hx182_0; first | rwa [add_block] at this | exact this) GW181.out); replace hx182_0 := (HB.out.cell (World.block_lt_of_cell? w _ hx182_0)).trans hx182_0; replace hx182_1 := (HB.out.cell (World.block_lt_of_cell? w _ hx182_1)).trans hx182_1; replace hx182_0 := (cell_far (p := ⟨gb181, 0, none⟩) (by first | (rw [add_block]; exact hn182_0) | (show (Addr.add _ _).block ≠ _; rw [add_block]; exact hn182_0) | exact hn182_0) (.int .i64 ((rd_T40 l0_2 x14_4).f0))).trans hx182_0; replace hx182_1 := (cell_far (p := ⟨gb181, 0, none⟩) (by first | (rw [add_block]; exact hn182_0) | (show (Addr.add _ _).block ≠ _; rw [add_block]; exact hn182_0) | exact hn182_0) (.int .i64 ((rd_T40 l0_2 x14_4).f0))).trans hx182_1; replace hx182_0 := (cell_far (p := ⟨gb181, 1, none⟩) (by first | (rw [add_block]; exact hn182_1) | (show (Addr.add _ _).block ≠ _; rw [add_block]; exact hn182_1) | exact hn182_1) (.string ((rd_T40 l0_2 x14_4).f1))).trans hx182_0; replace hx182_1 := (cell_far (p := ⟨gb181, 1, none⟩) (by first | (rw [add_block]; exact hn182_1) | (show (Addr.add _ _).block ≠ _; rw [add_block]; exact hn182_1) | exact hn182_1) (.string ((rd_T40 l0_2 x14_4).f1))).trans hx182_1; (try have hy182_0 := fun (n_ : Nat) => (show ((((w42.drewN n_).setCell ⟨gb181, 0, none⟩ (.int .i64 ((rd_T40 l0_2 x14_4).f0))).setCell ⟨gb181, 1, none⟩ (.string ((rd_T40 l0_2 x14_4).f1)))).cell? _ = some _ from hx182_0)); (try have hy182_1 := fun (n_ : Nat) => (show ((((w42.drewN n_).setCell ⟨gb181, 0, none⟩ (.int .i64 ((rd_T40 l0_2 x14_4).f0))).setCell ⟨gb181, 1, none⟩ (.string ((rd_T40 l0_2 x14_4).f1)))).cell? _ = some _ from hx182_1)); clear hn182_0; clear hn182_1; replace p182 := eq_true p182; replace q182 := eq_true q182) | (go_at_call 15; (with_reducible refine (cellarerref04_Of.calls k4 ((rd_T40 l0_2 x14_4).f1) t183 _ A24.out).mono ?_); rintro e w' ⟨rfl, ⟨nd, rfl⟩⟩; (try first | exact ⟨rfl, _, World.drewN_drewN _ _ _⟩ | exact ⟨rfl, _, Eq.trans (World.drewN_drewN _ _ _) (congrArg (World.drewN _) (Nat.add_assoc _ _ _))⟩); have p184 : 0 ≤ (x12_3 : Int) := of_decide_eq_true (by first | (with_reducible assumption) | assumption); have q184 : x12_3 < (l1.length : Int) := of_decide_eq_true (by first | (with_reducible assumption) | assumption); obtain ⟨ad184, e184, hx184_0, hx184_1⟩ := at_T48 HR1.out x12_3 p184 q184; obtain rfl : ad182 = ad184 := (by injection e184); have hn184_0 : ad182.block ≠ gb181 := Nat.ne_of_lt (Nat.lt_of_lt_of_le (by have := World.block_lt_of_cell? _ _ hx184_0; first | rwa [add_block] at this | exact this) GW181.out); have hn184_1 : ad182.block ≠ gb181 := Nat.ne_of_lt (Nat.lt_of_lt_of_le (by have := World.block_lt_of_cell? _ _ hx184_0; first | rwa [add_block] at this | exact this) GW181.out); replace hx184_0 := (HB.out.cell (World.block_lt_of_cell? w _ hx184_0)).trans hx184_0; replace hx184_1 := (HB.out.cell (World.block_lt_of_cell? w _ hx184_1)).trans hx184_1; replace hx184_0 := (cell_far (p := ⟨gb181, 0, none⟩) (by first | (rw [add_block]; exact hn184_0) | (show (Addr.add _ _).block ≠ _; rw [add_block]; exact hn184_0) | exact hn184_0) (.int .i64 ((rd_T40 l0_2 x14_4).f0))).trans hx184_0; replace hx184_1 := (cell_far (p := ⟨gb181, 0, none⟩) (by first | (rw [add_block]; exact hn184_0) | (show (Addr.add _ _).block ≠ _; rw [add_block]; exact hn184_0) | exact hn184_0) (.int .i64 ((rd_T40 l0_2 x14_4).f0))).trans hx184_1; replace hx184_0 := (cell_far (p := ⟨gb181, 1, none⟩) (by first | (rw [add_block]; exact hn184_1) | (show (Addr.add _ _).block ≠ _; rw [add_block]; exact hn184_1) | exact hn184_1) (.string ((rd_T40 l0_2 x14_4).f1))).trans hx184_0; replace hx184_1 := (cell_far (p := ⟨gb181, 1, none⟩) (by first | (rw [add_block]; exact hn184_1) | (show (Addr.add _ _).block ≠ _; rw [add_block]; exact hn184_1) | exact hn184_1) (.string ((rd_T40 l0_2 x14_4).f1))).trans hx184_1; (try have hy184_0 := fun (n_ : Nat) => (show ((((w42.drewN n_).setCell ⟨gb181, 0, none⟩ (.int .i64 ((rd_T40 l0_2 x14_4).f0))).setCell ⟨gb181, 1, none⟩ (.string ((rd_T40 l0_2 x14_4).f1)))).cell? _ = some _ from hx184_0)); (try have hy184_1 := fun (n_ : Nat) => (show ((((w42.drewN n_).setCell ⟨gb181, 0, none⟩ (.int .i64 ((rd_T40 l0_2 x14_4).f0))).setCell ⟨gb181, 1, none⟩ (.string ((rd_T40 l0_2 x14_4).f1)))).cell? _ = some _ from hx184_1)); clear hn184_0; clear hn184_1; replace p184 := eq_true p184; replace q184 := eq_true q184))
                                    repeat (go_quiet (first | ((with_reducible refine gate_dst (N := 15) rfl ?_); (try (refine gate_guard (by rfl) ?_; dsimp only)); refine box_event ?hg (N := 15) ?hd (cs := #[.int .i64 0, .string (⟨#[]⟩ : ByteArray)]) (t := 40) ?hr ?_; (case hd => rfl); (case hg => rfl); (case hr => first | (go_simp; done) | (go_simp; rfl)); intro gb181 hg w42 hbox hb; have n0_ := Aside0.mk (Kd.R_below (by (with_reducible repeat (first | apply Kd.R_alloc | apply Kd.R_drewN | apply Kd.R_drew)); exact HO_11.out) hb); have n1_ := Aside0.mk (blk_below (g := gb176) (o := .cells #[.int .u64 a0_0, .string a0_1, .slice (some ad180) l0_2.length c0_2] 25 (0, 0)) (by (with_reducible repeat (first | refine blk_drewN ?_ _ | refine blk_drew ?_ | refine blk_alloc ?_ _)); exact BK176.out) hb); have n2_ := Aside0.mk (below_step (by repeat (first | (with_reducible first | exact HB.out | apply below_alloc | apply pw_below_drewN | apply below_drew1 | refine below_set ?_ GE176.out) | exact HB.out)) hb); have n3_ := Aside0.mk (hbox); have n4_ := Aside0.mk ((by rw [hg]; exact (below_size (by repeat (first | (with_reducible first | exact HB.out | apply below_alloc | apply pw_below_drewN | apply below_drew1 | refine below_set ?_ GE176.out) | exact HB.out))) : w.heap.size ≤ gb181)); have n5_ := Aside0.mk ((by rw [hg]; exact (below_size (by repeat (first | (with_reducible first | exact HB.out | apply below_alloc | apply pw_below_drewN | apply below_drew1 | refine below_set ?_ GE176.out) | exact HB.out))) : w.heap.size ≤ gb181)); have n6_ := Aside0.mk ((by rw [hg]; exact Nat.ne_of_lt (blk_lt (g := gb176) (o := .cells #[.int .u64 a0_0, .string a0_1, .slice (some ad180) l0_2.length c0_2] 25 (0, 0)) (by (with_reducible repeat (first | refine blk_drewN ?_ _ | refine blk_drew ?_ | refine blk_alloc ?_ _)); exact BK176.out)) : gb176 ≠ gb181)); have n7_ := Aside0.mk ((by rw [hg]; exact Nat.ne_of_gt (blk_lt (g := gb176) (o := .cells #[.int .u64 a0_0, .string a0_1, .slice (some ad180) l0_2.length c0_2] 25 (0, 0)) (by (with_reducible repeat (first | refine blk_drewN ?_ _ | refine blk_drew ?_ | refine blk_alloc ?_ _)); exact BK176.out)) : gb181 ≠ gb176)); clear HO_11; clear BK176; clear HB; have HO_11 := n0_; have BK176 := n1_; have HB := n2_; have BK181 := n3_; have GW181 := n4_; have GE181 := n5_; have NB176_181 := n6_; have NB181_176 := n7_; clear n0_ n1_ n2_ n3_ n4_ n5_ n6_ n7_; clear hb hbox hg; have hnb43 := NB181_176.out; have hnc43 := NB176_181.out; have hcz44_0 : w42.cell? ⟨gb181, 0, none⟩ = some (.int .i64 0) := (blk_cell BK181.out 0).trans rfl; have hcz44_1 : w42.cell? ⟨gb181, 1, none⟩ = some (.string (⟨#[]⟩ : ByteArray)) := (blk_cell BK181.out 1).trans rfl; have hfz44_0 := blk_frozen BK181.out 0; have hfz44_1 := blk_frozen BK181.out 1; have p182 : 0 ≤ (x12_3 : Int) := of_decide_eq_true (by first | (with_reducible assumption) | assumption); have q182 : x12_3 < (l1.length : Int) := of_decide_eq_true (by first | (with_reducible assumption) | assumption); obtain ⟨ad182, e182, hx182_0, hx182_1⟩ := at_T48 HR1.out x12_3 p182 q182; cases e182; have hn182_0 : ad182.block ≠ gb181 := Nat.ne_of_lt (Nat.lt_of_lt_of_le (by have := World.block_lt_of_cell? _ _ hx182_0; first | rwa [add_block] at this | exact this) GW181.out); have hn182_1 : ad182.block ≠ gb181 := Nat.ne_of_lt (Nat.lt_of_lt_of_le (by have := World.block_lt_of_cell? _ _ hx182_0; first | rwa [add_block] at this | exact this) GW181.out); replace hx182_0 := (HB.out.cell (World.block_lt_of_cell? w _ hx182_0)).trans hx182_0; replace hx182_1 := (HB.out.cell (World.block_lt_of_cell? w _ hx182_1)).trans hx182_1; replace hx182_0 := (cell_far (p := ⟨gb181, 0, none⟩) (by first | (rw [add_block]; exact hn182_0) | (show (Addr.add _ _).block ≠ _; rw [add_block]; exact hn182_0) | exact hn182_0) (.int .i64 ((rd_T40 l0_2 x14_4).f0))).trans hx182_0; replace hx182_1 := (cell_far (p := ⟨gb181, 0, none⟩) (by first | (rw [add_block]; exact hn182_0) | (show (Addr.add _ _).block ≠ _; rw [add_block]; exact hn182_0) | exact hn182_0) (.int .i64 ((rd_T40 l0_2 x14_4).f0))).trans hx182_1; replace hx182_0 := (cell_far (p := ⟨gb181, 1, none⟩) (by first | (rw [add_block]; exact hn182_1) | (show (Addr.add _ _).block ≠ _; rw [add_block]; exact hn182_1) | exact hn182_1) (.string ((rd_T40 l0_2 x14_4).f1))).trans hx182_0; replace hx182_1 := (cell_far (p := ⟨gb181, 1, none⟩) (by first | (rw [add_block]; exact hn182_1) | (show (Addr.add _ _).block ≠ _; rw [add_block]; exact hn182_1) | exact hn182_1) (.string ((rd_T40 l0_2 x14_4).f1))).trans hx182_1; (try have hy182_0 := fun (n_ : Nat) => (show ((((w42.drewN n_).setCell ⟨gb181, 0, none⟩ (.int .i64 ((rd_T40 l0_2 x14_4).f0))).setCell ⟨gb181, 1, none⟩ (.string ((rd_T40 l0_2 x14_4).f1)))).cell? _ = some _ from hx182_0)); (try have hy182_1 := fun (n_ : Nat) => (show ((((w42.drewN n_).setCell ⟨gb181, 0, none⟩ (.int .i64 ((rd_T40 l0_2 x14_4).f0))).setCell ⟨gb181, 1, none⟩ (.string ((rd_T40 l0_2 x14_4).f1)))).cell? _ = some _ from hx182_1)); clear hn182_0; clear hn182_1; replace p182 := eq_true p182; replace q182 := eq_true q182) | (go_at_call 15; (with_reducible refine (cellarerref04_Of.calls k4 ((rd_T40 l0_2 x14_4).f1) t183 _ A24.out).mono ?_); rintro e w' ⟨rfl, ⟨nd, rfl⟩⟩; (try first | exact ⟨rfl, _, World.drewN_drewN _ _ _⟩ | exact ⟨rfl, _, Eq.trans (World.drewN_drewN _ _ _) (congrArg (World.drewN _) (Nat.add_assoc _ _ _))⟩); have p184 : 0 ≤ (x12_3 : Int) := of_decide_eq_true (by first | (with_reducible assumption) | assumption); have q184 : x12_3 < (l1.length : Int) := of_decide_eq_true (by first | (with_reducible assumption) | assumption); obtain ⟨ad184, e184, hx184_0, hx184_1⟩ := at_T48 HR1.out x12_3 p184 q184; obtain rfl : ad182 = ad184 := (by injection e184); have hn184_0 : ad182.block ≠ gb181 := Nat.ne_of_lt (Nat.lt_of_lt_of_le (by have := World.block_lt_of_cell? _ _ hx184_0; first | rwa [add_block] at this | exact this) GW181.out); have hn184_1 : ad182.block ≠ gb181 := Nat.ne_of_lt (Nat.lt_of_lt_of_le (by have := World.block_lt_of_cell? _ _ hx184_0; first | rwa [add_block] at this | exact this) GW181.out); replace hx184_0 := (HB.out.cell (World.block_lt_of_cell? w _ hx184_0)).trans hx184_0; replace hx184_1 := (HB.out.cell (World.block_lt_of_cell? w _ hx184_1)).trans hx184_1; replace hx184_0 := (cell_far (p := ⟨gb181, 0, none⟩) (by first | (rw [add_block]; exact hn184_0) | (show (Addr.add _ _).block ≠ _; rw [add_block]; exact hn184_0) | exact hn184_0) (.int .i64 ((rd_T40 l0_2 x14_4).f0))).trans hx184_0; replace hx184_1 := (cell_far (p := ⟨gb181, 0, none⟩) (by first | (rw [add_block]; exact hn184_0) | (show (Addr.add _ _).block ≠ _; rw [add_block]; exact hn184_0) | exact hn184_0) (.int .i64 ((rd_T40 l0_2 x14_4).f0))).trans hx184_1; replace hx184_0 := (cell_far (p := ⟨gb181, 1, none⟩) (by first | (rw [add_block]; exact hn184_1) | (show (Addr.add _ _).block ≠ _; rw [add_block]; exact hn184_1) | exact hn184_1) (.string ((rd_T40 l0_2 x14_4).f1))).trans hx184_0; replace hx184_1 := (cell_far (p := ⟨gb181, 1, none⟩) (by first | (rw [add_block]; exact hn184_1) | (show (Addr.add _ _).block ≠ _; rw [add_block]; exact hn184_1) | exact hn184_1) (.string ((rd_T40 l0_2 x14_4).f1))).trans hx184_1; (try have hy184_0 := fun (n_ : Nat) => (show ((((w42.drewN n_).setCell ⟨gb181, 0, none⟩ (.int .i64 ((rd_T40 l0_2 x14_4).f0))).setCell ⟨gb181, 1, none⟩ (.string ((rd_T40 l0_2 x14_4).f1)))).cell? _ = some _ from hx184_0)); (try have hy184_1 := fun (n_ : Nat) => (show ((((w42.drewN n_).setCell ⟨gb181, 0, none⟩ (.int .i64 ((rd_T40 l0_2 x14_4).f0))).setCell ⟨gb181, 1, none⟩ (.string ((rd_T40 l0_2 x14_4).f1)))).cell? _ = some _ from hx184_1)); clear hn184_0; clear hn184_1; replace p184 := eq_true p184; replace q184 := eq_true q184)); try go_wp2_with (first | ((with_reducible refine gate_dst (N := 15) rfl ?_); (try (refine gate_guard (by rfl) ?_; dsimp only)); refine box_event ?hg (N := 15) ?hd (cs := #[.int .i64 0, .string (⟨#[]⟩ : ByteArray)]) (t := 40) ?hr ?_; (case hd => rfl); (case hg => rfl); (case hr => first | (go_simp; done) | (go_simp; rfl)); intro gb181 hg w42 hbox hb; have n0_ := Aside0.mk (Kd.R_below (by (with_reducible repeat (first | apply Kd.R_alloc | apply Kd.R_drewN | apply Kd.R_drew)); exact HO_11.out) hb); have n1_ := Aside0.mk (blk_below (g := gb176) (o := .cells #[.int .u64 a0_0, .string a0_1, .slice (some ad180) l0_2.length c0_2] 25 (0, 0)) (by (with_reducible repeat (first | refine blk_drewN ?_ _ | refine blk_drew ?_ | refine blk_alloc ?_ _)); exact BK176.out) hb); have n2_ := Aside0.mk (below_step (by repeat (first | (with_reducible first | exact HB.out | apply below_alloc | apply pw_below_drewN | apply below_drew1 | refine below_set ?_ GE176.out) | exact HB.out)) hb); have n3_ := Aside0.mk (hbox); have n4_ := Aside0.mk ((by rw [hg]; exact (below_size (by repeat (first | (with_reducible first | exact HB.out | apply below_alloc | apply pw_below_drewN | apply below_drew1 | refine below_set ?_ GE176.out) | exact HB.out))) : w.heap.size ≤ gb181)); have n5_ := Aside0.mk ((by rw [hg]; exact (below_size (by repeat (first | (with_reducible first | exact HB.out | apply below_alloc | apply pw_below_drewN | apply below_drew1 | refine below_set ?_ GE176.out) | exact HB.out))) : w.heap.size ≤ gb181)); have n6_ := Aside0.mk ((by rw [hg]; exact Nat.ne_of_lt (blk_lt (g := gb176) (o := .cells #[.int .u64 a0_0, .string a0_1, .slice (some ad180) l0_2.length c0_2] 25 (0, 0)) (by (with_reducible repeat (first | refine blk_drewN ?_ _ | refine blk_drew ?_ | refine blk_alloc ?_ _)); exact BK176.out)) : gb176 ≠ gb181)); have n7_ := Aside0.mk ((by rw [hg]; exact Nat.ne_of_gt (blk_lt (g := gb176) (o := .cells #[.int .u64 a0_0, .string a0_1, .slice (some ad180) l0_2.length c0_2] 25 (0, 0)) (by (with_reducible repeat (first | refine blk_drewN ?_ _ | refine blk_drew ?_ | refine blk_alloc ?_ _)); exact BK176.out)) : gb181 ≠ gb176)); clear HO_11; clear BK176; clear HB; have HO_11 := n0_; have BK176 := n1_; have HB := n2_; have BK181 := n3_; have GW181 := n4_; have GE181 := n5_; have NB176_181 := n6_; have NB181_176 := n7_; clear n0_ n1_ n2_ n3_ n4_ n5_ n6_ n7_; clear hb hbox hg; have hnb43 := NB181_176.out; have hnc43 := NB176_181.out; have hcz44_0 : w42.cell? ⟨gb181, 0, none⟩ = some (.int .i64 0) := (blk_cell BK181.out 0).trans rfl; have hcz44_1 : w42.cell? ⟨gb181, 1, none⟩ = some (.string (⟨#[]⟩ : ByteArray)) := (blk_cell BK181.out 1).trans rfl; have hfz44_0 := blk_frozen BK181.out 0; have hfz44_1 := blk_frozen BK181.out 1; have p182 : 0 ≤ (x12_3 : Int) := of_decide_eq_true (by first | (with_reducible assumption) | assumption); have q182 : x12_3 < (l1.length : Int) := of_decide_eq_true (by first | (with_reducible assumption) | assumption); obtain ⟨ad182, e182, hx182_0, hx182_1⟩ := at_T48 HR1.out x12_3 p182 q182; cases e182; have hn182_0 : ad182.block ≠ gb181 := Nat.ne_of_lt (Nat.lt_of_lt_of_le (by have := World.block_lt_of_cell? _ _ hx182_0; first | rwa [add_block] at this | exact this) GW181.out); have hn182_1 : ad182.block ≠ gb181 := Nat.ne_of_lt (Nat.lt_of_lt_of_le (by have := World.block_lt_of_cell? _ _ hx182_0; first | rwa [add_block] at this | exact this) GW181.out); replace hx182_0 := (HB.out.cell (World.block_lt_of_cell? w _ hx182_0)).trans hx182_0; replace hx182_1 := (HB.out.cell (World.block_lt_of_cell? w _ hx182_1)).trans hx182_1; replace hx182_0 := (cell_far (p := ⟨gb181, 0, none⟩) (by first | (rw [add_block]; exact hn182_0) | (show (Addr.add _ _).block ≠ _; rw [add_block]; exact hn182_0) | exact hn182_0) (.int .i64 ((rd_T40 l0_2 x14_4).f0))).trans hx182_0; replace hx182_1 := (cell_far (p := ⟨gb181, 0, none⟩) (by first | (rw [add_block]; exact hn182_0) | (show (Addr.add _ _).block ≠ _; rw [add_block]; exact hn182_0) | exact hn182_0) (.int .i64 ((rd_T40 l0_2 x14_4).f0))).trans hx182_1; replace hx182_0 := (cell_far (p := ⟨gb181, 1, none⟩) (by first | (rw [add_block]; exact hn182_1) | (show (Addr.add _ _).block ≠ _; rw [add_block]; exact hn182_1) | exact hn182_1) (.string ((rd_T40 l0_2 x14_4).f1))).trans hx182_0; replace hx182_1 := (cell_far (p := ⟨gb181, 1, none⟩) (by first | (rw [add_block]; exact hn182_1) | (show (Addr.add _ _).block ≠ _; rw [add_block]; exact hn182_1) | exact hn182_1) (.string ((rd_T40 l0_2 x14_4).f1))).trans hx182_1; (try have hy182_0 := fun (n_ : Nat) => (show ((((w42.drewN n_).setCell ⟨gb181, 0, none⟩ (.int .i64 ((rd_T40 l0_2 x14_4).f0))).setCell ⟨gb181, 1, none⟩ (.string ((rd_T40 l0_2 x14_4).f1)))).cell? _ = some _ from hx182_0)); (try have hy182_1 := fun (n_ : Nat) => (show ((((w42.drewN n_).setCell ⟨gb181, 0, none⟩ (.int .i64 ((rd_T40 l0_2 x14_4).f0))).setCell ⟨gb181, 1, none⟩ (.string ((rd_T40 l0_2 x14_4).f1)))).cell? _ = some _ from hx182_1)); clear hn182_0; clear hn182_1; replace p182 := eq_true p182; replace q182 := eq_true q182) | (go_at_call 15; (with_reducible refine (cellarerref04_Of.calls k4 ((rd_T40 l0_2 x14_4).f1) t183 _ A24.out).mono ?_); rintro e w' ⟨rfl, ⟨nd, rfl⟩⟩; (try first | exact ⟨rfl, _, World.drewN_drewN _ _ _⟩ | exact ⟨rfl, _, Eq.trans (World.drewN_drewN _ _ _) (congrArg (World.drewN _) (Nat.add_assoc _ _ _))⟩); have p184 : 0 ≤ (x12_3 : Int) := of_decide_eq_true (by first | (with_reducible assumption) | assumption); have q184 : x12_3 < (l1.length : Int) := of_decide_eq_true (by first | (with_reducible assumption) | assumption); obtain ⟨ad184, e184, hx184_0, hx184_1⟩ := at_T48 HR1.out x12_3 p184 q184; obtain rfl : ad182 = ad184 := (by injection e184); have hn184_0 : ad182.block ≠ gb181 := Nat.ne_of_lt (Nat.lt_of_lt_of_le (by have := World.block_lt_of_cell? _ _ hx184_0; first | rwa [add_block] at this | exact this) GW181.out); have hn184_1 : ad182.block ≠ gb181 := Nat.ne_of_lt (Nat.lt_of_lt_of_le (by have := World.block_lt_of_cell? _ _ hx184_0; first | rwa [add_block] at this | exact this) GW181.out); replace hx184_0 := (HB.out.cell (World.block_lt_of_cell? w _ hx184_0)).trans hx184_0; replace hx184_1 := (HB.out.cell (World.block_lt_of_cell? w _ hx184_1)).trans hx184_1; replace hx184_0 := (cell_far (p := ⟨gb181, 0, none⟩) (by first | (rw [add_block]; exact hn184_0) | (show (Addr.add _ _).block ≠ _; rw [add_block]; exact hn184_0) | exact hn184_0) (.int .i64 ((rd_T40 l0_2 x14_4).f0))).trans hx184_0; replace hx184_1 := (cell_far (p := ⟨gb181, 0, none⟩) (by first | (rw [add_block]; exact hn184_0) | (show (Addr.add _ _).block ≠ _; rw [add_block]; exact hn184_0) | exact hn184_0) (.int .i64 ((rd_T40 l0_2 x14_4).f0))).trans hx184_1; replace hx184_0 := (cell_far (p := ⟨gb181, 1, none⟩) (by first | (rw [add_block]; exact hn184_1) | (show (Addr.add _ _).block ≠ _; rw [add_block]; exact hn184_1) | exact hn184_1) (.string ((rd_T40 l0_2 x14_4).f1))).trans hx184_0; replace hx184_1 := (cell_far (p := ⟨gb181, 1, none⟩) (by first | (rw [add_block]; exact hn184_1) | (show (Addr.add _ _).block ≠ _; rw [add_block]; exact hn184_1) | exact hn184_1) (.string ((rd_T40 l0_2 x14_4).f1))).trans hx184_1; (try have hy184_0 := fun (n_ : Nat) => (show ((((w42.drewN n_).setCell ⟨gb181, 0, none⟩ (.int .i64 ((rd_T40 l0_2 x14_4).f0))).setCell ⟨gb181, 1, none⟩ (.string ((rd_T40 l0_2 x14_4).f1)))).cell? _ = some _ from hx184_0)); (try have hy184_1 := fun (n_ : Nat) => (show ((((w42.drewN n_).setCell ⟨gb181, 0, none⟩ (.int .i64 ((rd_T40 l0_2 x14_4).f0))).setCell ⟨gb181, 1, none⟩ (.string ((rd_T40 l0_2 x14_4).f1)))).cell? _ = some _ from hx184_1)); clear hn184_0; clear hn184_1; replace p184 := eq_true p184; replace q184 := eq_true q184)))
                                    go_roundg k4
                                    case measure => have := HJ2.out; have := HK2.out; have := HK3.out; have := HK4.out; omega
                                    case rel => exact ⟨(x8_4), (x9_4), (x13_4), (wrap64 (x14_4 + 1)), (by first | rfl | (simp; done) | (simp [*]; done)), (by first | rfl | (simp; done) | (simp [*]; done)), (by first | rfl | (simp; done) | (simp [*]; done)), (by first | rfl | (simp; done) | (simp [*]; done)), H', ⟨by have := HJ2.out; have := HK2.out; have := HK3.out; have := HK4.out; omega⟩, ⟨by (with_reducible repeat (first | apply Kd.R_alloc | apply Kd.R_drewN | apply Kd.R_drew)); exact Kd.R_mono (Kd.R_far (p := ⟨gb181, 1, none⟩) (Kd.R_far (p := ⟨gb181, 0, none⟩) (Kd.R_types HO_11.out BK181.out (by decide)) (fun _ hk => hk.2) (.int .i64 ((rd_T40 l0_2 x14_4).f0))) (fun _ hk => hk.2) (.string ((rd_T40 l0_2 x14_4).f1))) (fun _ hk => trivial)⟩, ⟨by (with_reducible repeat (first | refine blk_drewN ?_ _ | refine blk_drew ?_ | refine blk_alloc ?_ _)); refine blk_far ?_ NB176_181.out _; (with_reducible repeat (first | refine blk_drewN ?_ _ | refine blk_drew ?_ | refine blk_alloc ?_ _)); refine blk_far ?_ NB176_181.out _; (with_reducible repeat (first | refine blk_drewN ?_ _ | refine blk_drew ?_ | refine blk_alloc ?_ _)); exact BK176.out⟩, ⟨by repeat (first | (with_reducible first | exact HB.out | apply below_alloc | apply pw_below_drewN | apply below_drew1 | refine below_set ?_ GE176.out | refine below_set ?_ GE181.out) | exact HB.out)⟩⟩
                                · rw [if_neg c23] at H
                                  have c23b0 : (((rd_T40 l0_2 x14_4).f0) == ((rd_T48 l1 x12_3).f0)) = false := beq_eq_false_iff_ne.mpr c23
                                  have c23b1 : (((rd_T40 l0_2 x14_4).f0) != ((rd_T48 l1 x12_3).f0)) = true := bne_iff_ne.mpr c23
                                  have H' := Aside0.mk H
                                  clear H
                                  have hcz45_0 : wr.cell? ⟨gb176, 0, none⟩ = some (.int .u64 a0_0) := (blk_cell BK176.out 0).trans rfl
                                  have hcz45_1 : wr.cell? ⟨gb176, 1, none⟩ = some (.string a0_1) := (blk_cell BK176.out 1).trans rfl
                                  have hcz45_2 : wr.cell? ⟨gb176, 2, none⟩ = some (.slice A0_2 l0_2.length c0_2) := (blk_cell BK176.out 2).trans rfl
                                  have hfz45_0 := blk_frozen BK176.out 0
                                  have hfz45_1 := blk_frozen BK176.out 1
                                  have hfz45_2 := blk_frozen BK176.out 2
                                  have p180 : 0 ≤ (x14_4 : Int) := of_decide_eq_true (by first | (with_reducible assumption) | assumption)
                                  have q180 : x14_4 < (l0_2.length : Int) := of_decide_eq_true (by first | (with_reducible assumption) | assumption)
                                  obtain ⟨ad180, e180, hx180_0, hx180_1⟩ := at_T40 HR0_2.out x14_4 p180 q180
                                  cases e180
                                  replace hx180_0 := (HB.out.cell (World.block_lt_of_cell? w _ hx180_0)).trans hx180_0
                                  replace hx180_1 := (HB.out.cell (World.block_lt_of_cell? w _ hx180_1)).trans hx180_1
                                  replace p180 := eq_true p180
                                  replace q180 := eq_true q180
                                  go_wp2_with (first | ((with_reducible refine gate_dst (N := 15) rfl ?_); (try (refine gate_guard (by rfl) ?_; dsimp only)); refine box_event ?hg (N := 15) ?hd (cs := #[.int .i64 0, .string (⟨#[]⟩ : ByteArray)]) (t := 40) ?hr ?_; (case hd => rfl); (case hg => rfl); (case hr => first | (go_simp; done) | (go_simp; rfl)); intro gb181 hg w46 hbox hb; have n0_ := Aside0.mk (Kd.R_below (by (with_reducible repeat (first | apply Kd.R_alloc | apply Kd.R_drewN | apply Kd.R_drew)); exact HO_11.out) hb); have n1_ := Aside0.mk (blk_below (g := gb176) (o := .cells #[.int .u64 a0_0, .string a0_1, .slice (some ad180) l0_2.length c0_2] 25 (0, 0)) (by (with_reducible repeat (first | refine blk_drewN ?_ _ | refine blk_drew ?_ | refine blk_alloc ?_ _)); exact BK176.out) hb); have n2_ := Aside0.mk (below_step (by repeat (first | (with_reducible first | exact HB.out | apply below_alloc | apply pw_below_drewN | apply below_drew1 | refine below_set ?_ GE176.out) | exact HB.out)) hb); have n3_ := Aside0.mk (hbox); have n4_ := Aside0.mk ((by rw [hg]; exact (below_size (by repeat (first | (with_reducible first | exact HB.out | apply below_alloc | apply pw_below_drewN | apply below_drew1 | refine below_set ?_ GE176.out) | exact HB.out))) : w.heap.size ≤ gb181)); have n5_ := Aside0.mk ((by rw [hg]; exact (below_size (by repeat (first | (with_reducible first | exact HB.out | apply below_alloc | apply pw_below_drewN | apply below_drew1 | refine below_set ?_ GE176.out) | exact HB.out))) : w.heap.size ≤ gb181)); have n6_ := Aside0.mk ((by rw [hg]; exact Nat.ne_of_lt (blk_lt (g := gb176) (o := .cells #[.int .u64 a0_0, .string a0_1, .slice (some ad180) l0_2.length c0_2] 25 (0, 0)) (by (with_reducible repeat (first | refine blk_drewN ?_ _ | refine blk_drew ?_ | refine blk_alloc ?_ _)); exact BK176.out)) : gb176 ≠ gb181)); have n7_ := Aside0.mk ((by rw [hg]; exact Nat.ne_of_gt (blk_lt (g := gb176) (o := .cells #[.int .u64 a0_0, .string a0_1, .slice (some ad180) l0_2.length c0_2] 25 (0, 0)) (by (with_reducible repeat (first | refine blk_drewN ?_ _ | refine blk_drew ?_ | refine blk_alloc ?_ _)); exact BK176.out)) : gb181 ≠ gb176)); clear HO_11; clear BK176; clear HB; have HO_11 := n0_; have BK176 := n1_; have HB := n2_; have BK181 := n3_; have GW181 := n4_; have GE181 := n5_; have NB176_181 := n6_; have NB181_176 := n7_; clear n0_ n1_ n2_ n3_ n4_ n5_ n6_ n7_; clear hb hbox hg; have hnb47 := NB181_176.out; have hnc47 := NB176_181.out; have hcz48_0 : w46.cell? ⟨gb181, 0, none⟩ = some (.int .i64 0) := (blk_cell BK181.out 0).trans rfl; have hcz48_1 : w46.cell? ⟨gb181, 1, none⟩ = some (.string (⟨#[]⟩ : ByteArray)) := (blk_cell BK181.out 1).trans rfl; have hfz48_0 := blk_frozen BK181.out 0; have hfz48_1 := blk_frozen BK181.out 1; have p182 : 0 ≤ (x12_3 : Int) := of_decide_eq_true (by first | (with_reducible assumption) | assumption); have q182 : x12_3 < (l1.length : Int) := of_decide_eq_true (by first | (with_reducible assumption) | assumption); obtain ⟨ad182, e182, hx182_0, hx182_1⟩ := at_T48 HR1.out x12_3 p182 q182; cases e182; have hn182_0 : ad182.block ≠ gb181 := Nat.ne_of_lt (Nat.lt_of_lt_of_le (by have := World.block_lt_of_cell? _ _ hx182_0; first | rwa [add_block] at this | exact this) GW181.out); have hn182_1 : ad182.block ≠ gb181 := Nat.ne_of_lt (Nat.lt_of_lt_of_le (by have := World.block_lt_of_cell? _ _ hx182_0; first | rwa [add_block] at this | exact this) GW181.out); replace hx182_0 := (HB.out.cell (World.block_lt_of_cell? w _ hx182_0)).trans hx182_0; replace hx182_1 := (HB.out.cell (World.block_lt_of_cell? w _ hx182_1)).trans hx182_1; replace hx182_0 := (cell_far (p := ⟨gb181, 0, none⟩) (by first | (rw [add_block]; exact hn182_0) | (show (Addr.add _ _).block ≠ _; rw [add_block]; exact hn182_0) | exact hn182_0) (.int .i64 ((rd_T40 l0_2 x14_4).f0))).trans hx182_0; replace hx182_1 := (cell_far (p := ⟨gb181, 0, none⟩) (by first | (rw [add_block]; exact hn182_0) | (show (Addr.add _ _).block ≠ _; rw [add_block]; exact hn182_0) | exact hn182_0) (.int .i64 ((rd_T40 l0_2 x14_4).f0))).trans hx182_1; replace hx182_0 := (cell_far (p := ⟨gb181, 1, none⟩) (by first | (rw [add_block]; exact hn182_1) | (show (Addr.add _ _).block ≠ _; rw [add_block]; exact hn182_1) | exact hn182_1) (.string ((rd_T40 l0_2 x14_4).f1))).trans hx182_0; replace hx182_1 := (cell_far (p := ⟨gb181, 1, none⟩) (by first | (rw [add_block]; exact hn182_1) | (show (Addr.add _ _).block ≠ _; rw [add_block]; exact hn182_1) | exact hn182_1) (.string ((rd_T40 l0_2 x14_4).f1))).trans hx182_1; (try have hy182_0 := fun (n_ : Nat) => (show ((((w46.drewN n_).setCell ⟨gb181, 0, none⟩ (.int .i64 ((rd_T40 l0_2 x14_4).f0))).setCell ⟨gb181, 1, none⟩ (.string ((rd_T40 l0_2 x14_4).f1)))).cell? _ = some _ from hx182_0)); (try have hy182_1 := fun (n_ : Nat) => (show ((((w46.drewN n_).setCell ⟨gb181, 0, none⟩ (.int .i64 ((rd_T40 l0_2 x14_4).f0))).setCell ⟨gb181, 1, none⟩ (.string ((rd_T40 l0_2 x14_4).f1)))).cell? _ = some _ from hx182_1)); clear hn182_0; clear hn182_1; replace p182 := eq_true p182; replace q182 := eq_true q182))
                                  repeat (go_quiet (first | ((with_reducible refine gate_dst (N := 15) rfl ?_); (try (refine gate_guard (by rfl) ?_; dsimp only)); refine box_event ?hg (N := 15) ?hd (cs := #[.int .i64 0, .string (⟨#[]⟩ : ByteArray)]) (t := 40) ?hr ?_; (case hd => rfl); (case hg => rfl); (case hr => first | (go_simp; done) | (go_simp; rfl)); intro gb181 hg w46 hbox hb; have n0_ := Aside0.mk (Kd.R_below (by (with_reducible repeat (first | apply Kd.R_alloc | apply Kd.R_drewN | apply Kd.R_drew)); exact HO_11.out) hb); have n1_ := Aside0.mk (blk_below (g := gb176) (o := .cells #[.int .u64 a0_0, .string a0_1, .slice (some ad180) l0_2.length c0_2] 25 (0, 0)) (by (with_reducible repeat (first | refine blk_drewN ?_ _ | refine blk_drew ?_ | refine blk_alloc ?_ _)); exact BK176.out) hb); have n2_ := Aside0.mk (below_step (by repeat (first | (with_reducible first | exact HB.out | apply below_alloc | apply pw_below_drewN | apply below_drew1 | refine below_set ?_ GE176.out) | exact HB.out)) hb); have n3_ := Aside0.mk (hbox); have n4_ := Aside0.mk ((by rw [hg]; exact (below_size (by repeat (first | (with_reducible first | exact HB.out | apply below_alloc | apply pw_below_drewN | apply below_drew1 | refine below_set ?_ GE176.out) | exact HB.out))) : w.heap.size ≤ gb181)); have n5_ := Aside0.mk ((by rw [hg]; exact (below_size (by repeat (first | (with_reducible first | exact HB.out | apply below_alloc | apply pw_below_drewN | apply below_drew1 | refine below_set ?_ GE176.out) | exact HB.out))) : w.heap.size ≤ gb181)); have n6_ := Aside0.mk ((by rw [hg]; exact Nat.ne_of_lt (blk_lt (g := gb176) (o := .cells #[.int .u64 a0_0, .string a0_1, .slice (some ad180) l0_2.length c0_2] 25 (0, 0)) (by (with_reducible repeat (first | refine blk_drewN ?_ _ | refine blk_drew ?_ | refine blk_alloc ?_ _)); exact BK176.out)) : gb176 ≠ gb181)); have n7_ := Aside0.mk ((by rw [hg]; exact Nat.ne_of_gt (blk_lt (g := gb176) (o := .cells #[.int .u64 a0_0, .string a0_1, .slice (some ad180) l0_2.length c0_2] 25 (0, 0)) (by (with_reducible repeat (first | refine blk_drewN ?_ _ | refine blk_drew ?_ | refine blk_alloc ?_ _)); exact BK176.out)) : gb181 ≠ gb176)); clear HO_11; clear BK176; clear HB; have HO_11 := n0_; have BK176 := n1_; have HB := n2_; have BK181 := n3_; have GW181 := n4_; have GE181 := n5_; have NB176_181 := n6_; have NB181_176 := n7_; clear n0_ n1_ n2_ n3_ n4_ n5_ n6_ n7_; clear hb hbox hg; have hnb47 := NB181_176.out; have hnc47 := NB176_181.out; have hcz48_0 : w46.cell? ⟨gb181, 0, none⟩ = some (.int .i64 0) := (blk_cell BK181.out 0).trans rfl; have hcz48_1 : w46.cell? ⟨gb181, 1, none⟩ = some (.string (⟨#[]⟩ : ByteArray)) := (blk_cell BK181.out 1).trans rfl; have hfz48_0 := blk_frozen BK181.out 0; have hfz48_1 := blk_frozen BK181.out 1; have p182 : 0 ≤ (x12_3 : Int) := of_decide_eq_true (by first | (with_reducible assumption) | assumption); have q182 : x12_3 < (l1.length : Int) := of_decide_eq_true (by first | (with_reducible assumption) | assumption); obtain ⟨ad182, e182, hx182_0, hx182_1⟩ := at_T48 HR1.out x12_3 p182 q182; cases e182; have hn182_0 : ad182.block ≠ gb181 := Nat.ne_of_lt (Nat.lt_of_lt_of_le (by have := World.block_lt_of_cell? _ _ hx182_0; first | rwa [add_block] at this | exact this) GW181.out); have hn182_1 : ad182.block ≠ gb181 := Nat.ne_of_lt (Nat.lt_of_lt_of_le (by have := World.block_lt_of_cell? _ _ hx182_0; first | rwa [add_block] at this | exact this) GW181.out); replace hx182_0 := (HB.out.cell (World.block_lt_of_cell? w _ hx182_0)).trans hx182_0; replace hx182_1 := (HB.out.cell (World.block_lt_of_cell? w _ hx182_1)).trans hx182_1; replace hx182_0 := (cell_far (p := ⟨gb181, 0, none⟩) (by first | (rw [add_block]; exact hn182_0) | (show (Addr.add _ _).block ≠ _; rw [add_block]; exact hn182_0) | exact hn182_0) (.int .i64 ((rd_T40 l0_2 x14_4).f0))).trans hx182_0; replace hx182_1 := (cell_far (p := ⟨gb181, 0, none⟩) (by first | (rw [add_block]; exact hn182_0) | (show (Addr.add _ _).block ≠ _; rw [add_block]; exact hn182_0) | exact hn182_0) (.int .i64 ((rd_T40 l0_2 x14_4).f0))).trans hx182_1; replace hx182_0 := (cell_far (p := ⟨gb181, 1, none⟩) (by first | (rw [add_block]; exact hn182_1) | (show (Addr.add _ _).block ≠ _; rw [add_block]; exact hn182_1) | exact hn182_1) (.string ((rd_T40 l0_2 x14_4).f1))).trans hx182_0; replace hx182_1 := (cell_far (p := ⟨gb181, 1, none⟩) (by first | (rw [add_block]; exact hn182_1) | (show (Addr.add _ _).block ≠ _; rw [add_block]; exact hn182_1) | exact hn182_1) (.string ((rd_T40 l0_2 x14_4).f1))).trans hx182_1; (try have hy182_0 := fun (n_ : Nat) => (show ((((w46.drewN n_).setCell ⟨gb181, 0, none⟩ (.int .i64 ((rd_T40 l0_2 x14_4).f0))).setCell ⟨gb181, 1, none⟩ (.string ((rd_T40 l0_2 x14_4).f1)))).cell? _ = some _ from hx182_0)); (try have hy182_1 := fun (n_ : Nat) => (show ((((w46.drewN n_).setCell ⟨gb181, 0, none⟩ (.int .i64 ((rd_T40 l0_2 x14_4).f0))).setCell ⟨gb181, 1, none⟩ (.string ((rd_T40 l0_2 x14_4).f1)))).cell? _ = some _ from hx182_1)); clear hn182_0; clear hn182_1; replace p182 := eq_true p182; replace q182 := eq_true q182)); try go_wp2_with (first | ((with_reducible refine gate_dst (N := 15) rfl ?_); (try (refine gate_guard (by rfl) ?_; dsimp only)); refine box_event ?hg (N := 15) ?hd (cs := #[.int .i64 0, .string (⟨#[]⟩ : ByteArray)]) (t := 40) ?hr ?_; (case hd => rfl); (case hg => rfl); (case hr => first | (go_simp; done) | (go_simp; rfl)); intro gb181 hg w46 hbox hb; have n0_ := Aside0.mk (Kd.R_below (by (with_reducible repeat (first | apply Kd.R_alloc | apply Kd.R_drewN | apply Kd.R_drew)); exact HO_11.out) hb); have n1_ := Aside0.mk (blk_below (g := gb176) (o := .cells #[.int .u64 a0_0, .string a0_1, .slice (some ad180) l0_2.length c0_2] 25 (0, 0)) (by (with_reducible repeat (first | refine blk_drewN ?_ _ | refine blk_drew ?_ | refine blk_alloc ?_ _)); exact BK176.out) hb); have n2_ := Aside0.mk (below_step (by repeat (first | (with_reducible first | exact HB.out | apply below_alloc | apply pw_below_drewN | apply below_drew1 | refine below_set ?_ GE176.out) | exact HB.out)) hb); have n3_ := Aside0.mk (hbox); have n4_ := Aside0.mk ((by rw [hg]; exact (below_size (by repeat (first | (with_reducible first | exact HB.out | apply below_alloc | apply pw_below_drewN | apply below_drew1 | refine below_set ?_ GE176.out) | exact HB.out))) : w.heap.size ≤ gb181)); have n5_ := Aside0.mk ((by rw [hg]; exact (below_size (by repeat (first | (with_reducible first | exact HB.out | apply below_alloc | apply pw_below_drewN | apply below_drew1 | refine below_set ?_ GE176.out) | exact HB.out))) : w.heap.size ≤ gb181)); have n6_ := Aside0.mk ((by rw [hg]; exact Nat.ne_of_lt (blk_lt (g := gb176) (o := .cells #[.int .u64 a0_0, .string a0_1, .slice (some ad180) l0_2.length c0_2] 25 (0, 0)) (by (with_reducible repeat (first | refine blk_drewN ?_ _ | refine blk_drew ?_ | refine blk_alloc ?_ _)); exact BK176.out)) : gb176 ≠ gb181)); have n7_ := Aside0.mk ((by rw [hg]; exact Nat.ne_of_gt (blk_lt (g := gb176) (o := .cells #[.int .u64 a0_0, .string a0_1, .slice (some ad180) l0_2.length c0_2] 25 (0, 0)) (by (with_reducible repeat (first | refine blk_drewN ?_ _ | refine blk_drew ?_ | refine blk_alloc ?_ _)); exact BK176.out)) : gb181 ≠ gb176)); clear HO_11; clear BK176; clear HB; have HO_11 := n0_; have BK176 := n1_; have HB := n2_; have BK181 := n3_; have GW181 := n4_; have GE181 := n5_; have NB176_181 := n6_; have NB181_176 := n7_; clear n0_ n1_ n2_ n3_ n4_ n5_ n6_ n7_; clear hb hbox hg; have hnb47 := NB181_176.out; have hnc47 := NB176_181.out; have hcz48_0 : w46.cell? ⟨gb181, 0, none⟩ = some (.int .i64 0) := (blk_cell BK181.out 0).trans rfl; have hcz48_1 : w46.cell? ⟨gb181, 1, none⟩ = some (.string (⟨#[]⟩ : ByteArray)) := (blk_cell BK181.out 1).trans rfl; have hfz48_0 := blk_frozen BK181.out 0; have hfz48_1 := blk_frozen BK181.out 1; have p182 : 0 ≤ (x12_3 : Int) := of_decide_eq_true (by first | (with_reducible assumption) | assumption); have q182 : x12_3 < (l1.length : Int) := of_decide_eq_true (by first | (with_reducible assumption) | assumption); obtain ⟨ad182, e182, hx182_0, hx182_1⟩ := at_T48 HR1.out x12_3 p182 q182; cases e182; have hn182_0 : ad182.block ≠ gb181 := Nat.ne_of_lt (Nat.lt_of_lt_of_le (by have := World.block_lt_of_cell? _ _ hx182_0; first | rwa [add_block] at this | exact this) GW181.out); have hn182_1 : ad182.block ≠ gb181 := Nat.ne_of_lt (Nat.lt_of_lt_of_le (by have := World.block_lt_of_cell? _ _ hx182_0; first | rwa [add_block] at this | exact this) GW181.out); replace hx182_0 := (HB.out.cell (World.block_lt_of_cell? w _ hx182_0)).trans hx182_0; replace hx182_1 := (HB.out.cell (World.block_lt_of_cell? w _ hx182_1)).trans hx182_1; replace hx182_0 := (cell_far (p := ⟨gb181, 0, none⟩) (by first | (rw [add_block]; exact hn182_0) | (show (Addr.add _ _).block ≠ _; rw [add_block]; exact hn182_0) | exact hn182_0) (.int .i64 ((rd_T40 l0_2 x14_4).f0))).trans hx182_0; replace hx182_1 := (cell_far (p := ⟨gb181, 0, none⟩) (by first | (rw [add_block]; exact hn182_0) | (show (Addr.add _ _).block ≠ _; rw [add_block]; exact hn182_0) | exact hn182_0) (.int .i64 ((rd_T40 l0_2 x14_4).f0))).trans hx182_1; replace hx182_0 := (cell_far (p := ⟨gb181, 1, none⟩) (by first | (rw [add_block]; exact hn182_1) | (show (Addr.add _ _).block ≠ _; rw [add_block]; exact hn182_1) | exact hn182_1) (.string ((rd_T40 l0_2 x14_4).f1))).trans hx182_0; replace hx182_1 := (cell_far (p := ⟨gb181, 1, none⟩) (by first | (rw [add_block]; exact hn182_1) | (show (Addr.add _ _).block ≠ _; rw [add_block]; exact hn182_1) | exact hn182_1) (.string ((rd_T40 l0_2 x14_4).f1))).trans hx182_1; (try have hy182_0 := fun (n_ : Nat) => (show ((((w46.drewN n_).setCell ⟨gb181, 0, none⟩ (.int .i64 ((rd_T40 l0_2 x14_4).f0))).setCell ⟨gb181, 1, none⟩ (.string ((rd_T40 l0_2 x14_4).f1)))).cell? _ = some _ from hx182_0)); (try have hy182_1 := fun (n_ : Nat) => (show ((((w46.drewN n_).setCell ⟨gb181, 0, none⟩ (.int .i64 ((rd_T40 l0_2 x14_4).f0))).setCell ⟨gb181, 1, none⟩ (.string ((rd_T40 l0_2 x14_4).f1)))).cell? _ = some _ from hx182_1)); clear hn182_0; clear hn182_1; replace p182 := eq_true p182; replace q182 := eq_true q182)))
                                  go_roundg k4
                                  case measure => have := HJ2.out; have := HK2.out; have := HK3.out; have := HK4.out; omega
                                  case rel => exact ⟨(x8_4), (x9_4), (x13_4), (wrap64 (x14_4 + 1)), (by first | rfl | (simp; done) | (simp [*]; done)), (by first | rfl | (simp; done) | (simp [*]; done)), (by first | rfl | (simp; done) | (simp [*]; done)), (by first | rfl | (simp; done) | (simp [*]; done)), H', ⟨by have := HJ2.out; have := HK2.out; have := HK3.out; have := HK4.out; omega⟩, ⟨by (with_reducible repeat (first | apply Kd.R_alloc | apply Kd.R_drewN | apply Kd.R_drew)); exact Kd.R_mono (Kd.R_far (p := ⟨gb181, 1, none⟩) (Kd.R_far (p := ⟨gb181, 0, none⟩) (Kd.R_types HO_11.out BK181.out (by decide)) (fun _ hk => hk.2) (.int .i64 ((rd_T40 l0_2 x14_4).f0))) (fun _ hk => hk.2) (.string ((rd_T40 l0_2 x14_4).f1))) (fun _ hk => trivial)⟩, ⟨by (with_reducible repeat (first | refine blk_drewN ?_ _ | refine blk_drew ?_ | refine blk_alloc ?_ _)); refine blk_far ?_ NB176_181.out _; (with_reducible repeat (first | refine blk_drewN ?_ _ | refine blk_drew ?_ | refine blk_alloc ?_ _)); refine blk_far ?_ NB176_181.out _; (with_reducible repeat (first | refine blk_drewN ?_ _ | refine blk_drew ?_ | refine blk_alloc ?_ _)); exact BK176.out⟩, ⟨by repeat (first | (with_reducible first | exact HB.out | apply below_alloc | apply pw_below_drewN | apply below_drew1 | refine below_set ?_ GE176.out | refine below_set ?_ GE181.out) | exact HB.out)⟩⟩
                              · rw [if_neg c22] at H
                                exact absurd H (by simp)
                            · rw [if_neg c21] at H
                              exact absurd H (by simp)
                          · rw [if_neg c20] at H
                            exact absurd H (by simp)
                        · rw [if_neg c19] at H
                          have c19b0 : decide (x14_4 < (l0_2.length : Int)) = false := decide_eq_false c19
                          clear c19
                          by_cases c49 : x10_3 = true
                          · subst c49
                            have H1 : (if 0 ≤ x12_3 then (if x12_3 < (l1.length : Int) then (if x11_3.length < 35184372088832 then (cellarerref08_Whole.l1 k4 l1 x8_4 x9_4 true (x11_3 ++ [(rd_T48 l1 x12_3).f1]) (wrap64 (x12_3 + 1)) a0_0 a0_1 l0_2) else (none)) else (none)) else (none)) = some (r1, r2, r3) := by rw [if_pos rfl] at H; exact H
                            clear H
                            have H := H1
                            clear H1
                            by_cases c50 : 0 ≤ x12_3
                            · rw [if_pos c50] at H
                              have c50b0 : decide (0 ≤ x12_3) = true := decide_eq_true c50
                              clear c50
                              by_cases c51 : x12_3 < (l1.length : Int)
                              · rw [if_pos c51] at H
                                have c51b0 : decide (x12_3 < (l1.length : Int)) = true := decide_eq_true c51
                                clear c51
                                by_cases c52 : x11_3.length < 35184372088832
                                · rw [if_pos c52] at H
                                  have LMc52 := Aside0.mk c52
                                  clear c52
                                  obtain ⟨y186, hy186⟩ : ∃ y_ : List Int, y_ = (x11_3 ++ [(rd_T48 l1 x12_3).f1]) := ⟨_, rfl⟩
                                  replace H : (cellarerref08_Whole.l1 k4 l1 x8_4 x9_4 true y186 (wrap64 (x12_3 + 1)) a0_0 a0_1 l0_2) = some (r1, r2, r3) := by first | (rw [hy186]; with_reducible exact H) | (have H2_ := (Option.bind_some _ _).symm.trans H; rw [hy186]; with_reducible exact H2_) | (have H2_ := (Option.bind_some _ _).symm.trans H; with_reducible exact H2_) | with_reducible exact H | (rw [hy186]; exact H) | exact H
                                  have Ny186 := Aside0.mk hy186
                                  clear hy186
                                  have H' := Aside0.mk H
                                  clear H
                                  have hcz53_0 : wr.cell? ⟨gb176, 0, none⟩ = some (.int .u64 a0_0) := (blk_cell BK176.out 0).trans rfl
                                  have hcz53_1 : wr.cell? ⟨gb176, 1, none⟩ = some (.string a0_1) := (blk_cell BK176.out 1).trans rfl
                                  have hcz53_2 : wr.cell? ⟨gb176, 2, none⟩ = some (.slice A0_2 l0_2.length c0_2) := (blk_cell BK176.out 2).trans rfl
                                  have hfz53_0 := blk_frozen BK176.out 0
                                  have hfz53_1 := blk_frozen BK176.out 1
                                  have hfz53_2 := blk_frozen BK176.out 2
                                  have p185 : 0 ≤ (x12_3 : Int) := of_decide_eq_true (by first | (with_reducible assumption) | assumption)
                                  have q185 : x12_3 < (l1.length : Int) := of_decide_eq_true (by first | (with_reducible assumption) | assumption)
                                  obtain ⟨ad185, e185, hx185_0, hx185_1⟩ := at_T48 HR1.out x12_3 p185 q185
                                  cases e185
                                  replace hx185_0 := (HB.out.cell (World.block_lt_of_cell? w _ hx185_0)).trans hx185_0
                                  replace hx185_1 := (HB.out.cell (World.block_lt_of_cell? w _ hx185_1)).trans hx185_1
                                  replace p185 := eq_true p185
                                  replace q185 := eq_true q185
                                  go_wp2_with (first | ((with_reducible refine gate_builtin (b := .append) (xs := #[.tmp 102, .tmp 108]) rfl ?_); (try (refine gate_guard (by rfl) ?_; dsimp only)); at_builtin; refine Kd.R_append (Kd.int .u32) (w0 := w) w.heap.size rfl (.tmp 102) (.tmp 108) 67 42 (.int .u32 0) 4 rfl Tryd.underlying67 info42 rfl (by decide) (by omega) u11 x11_3 ((rd_T48 l1 x12_3).f1) [.int .u32 ((rd_T48 l1 x12_3).f1)] (fun _ => True) (fun _ => False) rfl rfl ?aP (fun _ hk => hk.elim) ?aF ?aO ?aB ?aS ?aL ?_; (case aP => exact rfl); (case aB => exact (by repeat (first | (with_reducible first | exact HB.out | apply below_alloc | apply pw_below_drewN | apply below_drew1 | refine below_set ?_ GE176.out) | exact HB.out))); (case aF => exact (fun _ _ => trivial)); (case aO => exact (by (with_reducible repeat (first | apply Kd.R_alloc | apply Kd.R_drewN | apply Kd.R_drew)); exact HO_11.out)); (case aS => exact (below_size (by repeat (first | (with_reducible first | exact HB.out | apply below_alloc | apply pw_below_drewN | apply below_drew1 | refine below_set ?_ GE176.out) | exact HB.out)))); (case aL => have := LMc52.out; omega); intro v187 w54 ho hb hg hat; rw [← Ny186.out] at ho; have n0_ := Aside0.mk (blk_grown (g := gb176) (o := .cells #[.int .u64 a0_0, .string a0_1, .slice A0_2 l0_2.length c0_2] 25 (0, 0)) (by (with_reducible repeat (first | refine blk_drewN ?_ _ | refine blk_drew ?_ | refine blk_alloc ?_ _)); exact BK176.out) hg (Kd.R_ne HO_11.out BK176.out (by decide))); have n1_ := Aside0.mk (hb); have n2_ := Aside0.mk (ho); clear BK176; clear HB; clear HO_11; have BK176 := n0_; have HB := n1_; have HO188 := n2_; clear n0_ n1_ n2_; clear ho hb hg hat))
                                  repeat (go_quiet (first | ((with_reducible refine gate_builtin (b := .append) (xs := #[.tmp 102, .tmp 108]) rfl ?_); (try (refine gate_guard (by rfl) ?_; dsimp only)); at_builtin; refine Kd.R_append (Kd.int .u32) (w0 := w) w.heap.size rfl (.tmp 102) (.tmp 108) 67 42 (.int .u32 0) 4 rfl Tryd.underlying67 info42 rfl (by decide) (by omega) u11 x11_3 ((rd_T48 l1 x12_3).f1) [.int .u32 ((rd_T48 l1 x12_3).f1)] (fun _ => True) (fun _ => False) rfl rfl ?aP (fun _ hk => hk.elim) ?aF ?aO ?aB ?aS ?aL ?_; (case aP => exact rfl); (case aB => exact (by repeat (first | (with_reducible first | exact HB.out | apply below_alloc | apply pw_below_drewN | apply below_drew1 | refine below_set ?_ GE176.out) | exact HB.out))); (case aF => exact (fun _ _ => trivial)); (case aO => exact (by (with_reducible repeat (first | apply Kd.R_alloc | apply Kd.R_drewN | apply Kd.R_drew)); exact HO_11.out)); (case aS => exact (below_size (by repeat (first | (with_reducible first | exact HB.out | apply below_alloc | apply pw_below_drewN | apply below_drew1 | refine below_set ?_ GE176.out) | exact HB.out)))); (case aL => have := LMc52.out; omega); intro v187 w54 ho hb hg hat; rw [← Ny186.out] at ho; have n0_ := Aside0.mk (blk_grown (g := gb176) (o := .cells #[.int .u64 a0_0, .string a0_1, .slice A0_2 l0_2.length c0_2] 25 (0, 0)) (by (with_reducible repeat (first | refine blk_drewN ?_ _ | refine blk_drew ?_ | refine blk_alloc ?_ _)); exact BK176.out) hg (Kd.R_ne HO_11.out BK176.out (by decide))); have n1_ := Aside0.mk (hb); have n2_ := Aside0.mk (ho); clear BK176; clear HB; clear HO_11; have BK176 := n0_; have HB := n1_; have HO188 := n2_; clear n0_ n1_ n2_; clear ho hb hg hat)); try go_wp2_with (first | ((with_reducible refine gate_builtin (b := .append) (xs := #[.tmp 102, .tmp 108]) rfl ?_); (try (refine gate_guard (by rfl) ?_; dsimp only)); at_builtin; refine Kd.R_append (Kd.int .u32) (w0 := w) w.heap.size rfl (.tmp 102) (.tmp 108) 67 42 (.int .u32 0) 4 rfl Tryd.underlying67 info42 rfl (by decide) (by omega) u11 x11_3 ((rd_T48 l1 x12_3).f1) [.int .u32 ((rd_T48 l1 x12_3).f1)] (fun _ => True) (fun _ => False) rfl rfl ?aP (fun _ hk => hk.elim) ?aF ?aO ?aB ?aS ?aL ?_; (case aP => exact rfl); (case aB => exact (by repeat (first | (with_reducible first | exact HB.out | apply below_alloc | apply pw_below_drewN | apply below_drew1 | refine below_set ?_ GE176.out) | exact HB.out))); (case aF => exact (fun _ _ => trivial)); (case aO => exact (by (with_reducible repeat (first | apply Kd.R_alloc | apply Kd.R_drewN | apply Kd.R_drew)); exact HO_11.out)); (case aS => exact (below_size (by repeat (first | (with_reducible first | exact HB.out | apply below_alloc | apply pw_below_drewN | apply below_drew1 | refine below_set ?_ GE176.out) | exact HB.out)))); (case aL => have := LMc52.out; omega); intro v187 w54 ho hb hg hat; rw [← Ny186.out] at ho; have n0_ := Aside0.mk (blk_grown (g := gb176) (o := .cells #[.int .u64 a0_0, .string a0_1, .slice A0_2 l0_2.length c0_2] 25 (0, 0)) (by (with_reducible repeat (first | refine blk_drewN ?_ _ | refine blk_drew ?_ | refine blk_alloc ?_ _)); exact BK176.out) hg (Kd.R_ne HO_11.out BK176.out (by decide))); have n1_ := Aside0.mk (hb); have n2_ := Aside0.mk (ho); clear BK176; clear HB; clear HO_11; have BK176 := n0_; have HB := n1_; have HO188 := n2_; clear n0_ n1_ n2_; clear ho hb hg hat)))
                                  go_roundg k4
                                  case measure => have := HJ2.out; have := HK2.out; have := HK3.out; have := HK4.out; omega
                                  case rel => exact ⟨(x8_4), (x9_4), (true), (y186), (wrap64 (x12_3 + 1)), (by first | rfl | (simp; done) | (simp [*]; done)), (by first | rfl | (simp; done) | (simp [*]; done)), (by first | rfl | (simp; done) | (simp [*]; done)), (by first | rfl | (simp; done) | (simp [*]; done)), H', ⟨by have := HJ2.out; have := HK2.out; have := HK3.out; have := HK4.out; omega⟩, ⟨by (with_reducible repeat (first | apply Kd.R_alloc | apply Kd.R_drewN | apply Kd.R_drew)); exact HO188.out⟩, ⟨by (with_reducible repeat (first | refine blk_drewN ?_ _ | refine blk_drew ?_ | refine blk_alloc ?_ _)); exact BK176.out⟩, ⟨by repeat (first | (with_reducible first | exact HB.out | apply below_alloc | apply pw_below_drewN | apply below_drew1 | refine below_set ?_ GE176.out) | exact HB.out)⟩⟩
                                · rw [if_neg c52] at H
                                  exact absurd H (by simp)
                              · rw [if_neg c51] at H
                                exact absurd H (by simp)
                            · rw [if_neg c50] at H
                              exact absurd H (by simp)
                          · replace c49 := Bool.eq_false_iff.mpr c49
                            subst c49
                            have H1 : (if 0 ≤ x12_3 then (if x12_3 < (l1.length : Int) then (if x11_3.length < 35184372088832 then (cellarerref08_Whole.l1 k4 l1 x8_4 x9_4 (!x13_4) (x11_3 ++ [(rd_T48 l1 x12_3).f1]) (wrap64 (x12_3 + 1)) a0_0 a0_1 l0_2) else (none)) else (none)) else (none)) = some (r1, r2, r3) := by rw [if_neg (show ¬ (false = true) by decide)] at H; exact H
                            clear H
                            have H := H1
                            clear H1
                            by_cases c55 : 0 ≤ x12_3
                            · rw [if_pos c55] at H
                              have c55b0 : decide (0 ≤ x12_3) = true := decide_eq_true c55
                              clear c55
                              by_cases c56 : x12_3 < (l1.length : Int)
                              · rw [if_pos c56] at H
                                have c56b0 : decide (x12_3 < (l1.length : Int)) = true := decide_eq_true c56
                                clear c56
                                by_cases c57 : x11_3.length < 35184372088832
                                · rw [if_pos c57] at H
                                  have LMc57 := Aside0.mk c57
                                  clear c57
                                  obtain ⟨y190, hy190⟩ : ∃ y_ : List Int, y_ = (x11_3 ++ [(rd_T48 l1 x12_3).f1]) := ⟨_, rfl⟩
                                  replace H : (cellarerref08_Whole.l1 k4 l1 x8_4 x9_4 (!x13_4) y190 (wrap64 (x12_3 + 1)) a0_0 a0_1 l0_2) = some (r1, r2, r3) := by first | (rw [hy190]; with_reducible exact H) | (have H2_ := (Option.bind_some _ _).symm.trans H; rw [hy190]; with_reducible exact H2_) | (have H2_ := (Option.bind_some _ _).symm.trans H; with_reducible exact H2_) | with_reducible exact H | (rw [hy190]; exact H) | exact H
                                  have Ny190 := Aside0.mk hy190
                                  clear hy190
                                  have H' := Aside0.mk H
                                  clear H
                                  have hcz58_0 : wr.cell? ⟨gb176, 0, none⟩ = some (.int .u64 a0_0) := (blk_cell BK176.out 0).trans rfl
                                  have hcz58_1 : wr.cell? ⟨gb176, 1, none⟩ = some (.string a0_1) := (blk_cell BK176.out 1).trans rfl
                                  have hcz58_2 : wr.cell? ⟨gb176, 2, none⟩ = some (.slice A0_2 l0_2.length c0_2) := (blk_cell BK176.out 2).trans rfl
                                  have hfz58_0 := blk_frozen BK176.out 0
                                  have hfz58_1 := blk_frozen BK176.out 1
                                  have hfz58_2 := blk_frozen BK176.out 2
                                  have p189 : 0 ≤ (x12_3 : Int) := of_decide_eq_true (by first | (with_reducible assumption) | assumption)
                                  have q189 : x12_3 < (l1.length : Int) := of_decide_eq_true (by first | (with_reducible assumption) | assumption)
                                  obtain ⟨ad189, e189, hx189_0, hx189_1⟩ := at_T48 HR1.out x12_3 p189 q189
                                  cases e189
                                  replace hx189_0 := (HB.out.cell (World.block_lt_of_cell? w _ hx189_0)).trans hx189_0
                                  replace hx189_1 := (HB.out.cell (World.block_lt_of_cell? w _ hx189_1)).trans hx189_1
                                  replace p189 := eq_true p189
                                  replace q189 := eq_true q189
                                  go_wp2_with (first | ((with_reducible refine gate_builtin (b := .append) (xs := #[.tmp 102, .tmp 108]) rfl ?_); (try (refine gate_guard (by rfl) ?_; dsimp only)); at_builtin; refine Kd.R_append (Kd.int .u32) (w0 := w) w.heap.size rfl (.tmp 102) (.tmp 108) 67 42 (.int .u32 0) 4 rfl Tryd.underlying67 info42 rfl (by decide) (by omega) u11 x11_3 ((rd_T48 l1 x12_3).f1) [.int .u32 ((rd_T48 l1 x12_3).f1)] (fun _ => True) (fun _ => False) rfl rfl ?aP (fun _ hk => hk.elim) ?aF ?aO ?aB ?aS ?aL ?_; (case aP => exact rfl); (case aB => exact (by repeat (first | (with_reducible first | exact HB.out | apply below_alloc | apply pw_below_drewN | apply below_drew1 | refine below_set ?_ GE176.out) | exact HB.out))); (case aF => exact (fun _ _ => trivial)); (case aO => exact (by (with_reducible repeat (first | apply Kd.R_alloc | apply Kd.R_drewN | apply Kd.R_drew)); exact HO_11.out)); (case aS => exact (below_size (by repeat (first | (with_reducible first | exact HB.out | apply below_alloc | apply pw_below_drewN | apply below_drew1 | refine below_set ?_ GE176.out) | exact HB.out)))); (case aL => have := LMc57.out; omega); intro v191 w59 ho hb hg hat; rw [← Ny190.out] at ho; have n0_ := Aside0.mk (blk_grown (g := gb176) (o := .cells #[.int .u64 a0_0, .string a0_1, .slice A0_2 l0_2.length c0_2] 25 (0, 0)) (by (with_reducible repeat (first | refine blk_drewN ?_ _ | refine blk_drew ?_ | refine blk_alloc ?_ _)); exact BK176.out) hg (Kd.R_ne HO_11.out BK176.out (by decide))); have n1_ := Aside0.mk (hb); have n2_ := Aside0.mk (ho); clear BK176; clear HB; clear HO_11; have BK176 := n0_; have HB := n1_; have HO192 := n2_; clear n0_ n1_ n2_; clear ho hb hg hat))
                                  repeat (go_quiet (first | ((with_reducible refine gate_builtin (b := .append) (xs := #[.tmp 102, .tmp 108]) rfl ?_); (try (refine gate_guard (by rfl) ?_; dsimp only)); at_builtin; refine Kd.R_append (Kd.int .u32) (w0 := w) w.heap.size rfl (.tmp 102) (.tmp 108) 67 42 (.int .u32 0) 4 rfl Tryd.underlying67 info42 rfl (by decide) (by omega) u11 x11_3 ((rd_T48 l1 x12_3).f1) [.int .u32 ((rd_T48 l1 x12_3).f1)] (fun _ => True) (fun _ => False) rfl rfl ?aP (fun _ hk => hk.elim) ?aF ?aO ?aB ?aS ?aL ?_; (case aP => exact rfl); (case aB => exact (by repeat (first | (with_reducible first | exact HB.out | apply below_alloc | apply pw_below_drewN | apply below_drew1 | refine below_set ?_ GE176.out) | exact HB.out))); (case aF => exact (fun _ _ => trivial)); (case aO => exact (by (with_reducible repeat (first | apply Kd.R_alloc | apply Kd.R_drewN | apply Kd.R_drew)); exact HO_11.out)); (case aS => exact (below_size (by repeat (first | (with_reducible first | exact HB.out | apply below_alloc | apply pw_below_drewN | apply below_drew1 | refine below_set ?_ GE176.out) | exact HB.out)))); (case aL => have := LMc57.out; omega); intro v191 w59 ho hb hg hat; rw [← Ny190.out] at ho; have n0_ := Aside0.mk (blk_grown (g := gb176) (o := .cells #[.int .u64 a0_0, .string a0_1, .slice A0_2 l0_2.length c0_2] 25 (0, 0)) (by (with_reducible repeat (first | refine blk_drewN ?_ _ | refine blk_drew ?_ | refine blk_alloc ?_ _)); exact BK176.out) hg (Kd.R_ne HO_11.out BK176.out (by decide))); have n1_ := Aside0.mk (hb); have n2_ := Aside0.mk (ho); clear BK176; clear HB; clear HO_11; have BK176 := n0_; have HB := n1_; have HO192 := n2_; clear n0_ n1_ n2_; clear ho hb hg hat)); try go_wp2_with (first | ((with_reducible refine gate_builtin (b := .append) (xs := #[.tmp 102, .tmp 108]) rfl ?_); (try (refine gate_guard (by rfl) ?_; dsimp only)); at_builtin; refine Kd.R_append (Kd.int .u32) (w0 := w) w.heap.size rfl (.tmp 102) (.tmp 108) 67 42 (.int .u32 0) 4 rfl Tryd.underlying67 info42 rfl (by decide) (by omega) u11 x11_3 ((rd_T48 l1 x12_3).f1) [.int .u32 ((rd_T48 l1 x12_3).f1)] (fun _ => True) (fun _ => False) rfl rfl ?aP (fun _ hk => hk.elim) ?aF ?aO ?aB ?aS ?aL ?_; (case aP => exact rfl); (case aB => exact (by repeat (first | (with_reducible first | exact HB.out | apply below_alloc | apply pw_below_drewN | apply below_drew1 | refine below_set ?_ GE176.out) | exact HB.out))); (case aF => exact (fun _ _ => trivial)); (case aO => exact (by (with_reducible repeat (first | apply Kd.R_alloc | apply Kd.R_drewN | apply Kd.R_drew)); exact HO_11.out)); (case aS => exact (below_size (by repeat (first | (with_reducible first | exact HB.out | apply below_alloc | apply pw_below_drewN | apply below_drew1 | refine below_set ?_ GE176.out) | exact HB.out)))); (case aL => have := LMc57.out; omega); intro v191 w59 ho hb hg hat; rw [← Ny190.out] at ho; have n0_ := Aside0.mk (blk_grown (g := gb176) (o := .cells #[.int .u64 a0_0, .string a0_1, .slice A0_2 l0_2.length c0_2] 25 (0, 0)) (by (with_reducible repeat (first | refine blk_drewN ?_ _ | refine blk_drew ?_ | refine blk_alloc ?_ _)); exact BK176.out) hg (Kd.R_ne HO_11.out BK176.out (by decide))); have n1_ := Aside0.mk (hb); have n2_ := Aside0.mk (ho); clear BK176; clear HB; clear HO_11; have BK176 := n0_; have HB := n1_; have HO192 := n2_; clear n0_ n1_ n2_; clear ho hb hg hat)))
                                  go_roundg k4
                                  case measure => have := HJ2.out; have := HK2.out; have := HK3.out; have := HK4.out; omega
                                  case rel => exact ⟨(x8_4), (x9_4), (!x13_4), (y190), (wrap64 (x12_3 + 1)), (by first | rfl | (simp; done) | (simp [*]; done)), (by first | rfl | (simp; done) | (simp [*]; done)), (by first | rfl | (simp; done) | (simp [*]; done)), (by first | rfl | (simp; done) | (simp [*]; done)), H', ⟨by have := HJ2.out; have := HK2.out; have := HK3.out; have := HK4.out; omega⟩, ⟨by (with_reducible repeat (first | apply Kd.R_alloc | apply Kd.R_drewN | apply Kd.R_drew)); exact HO192.out⟩, ⟨by (with_reducible repeat (first | refine blk_drewN ?_ _ | refine blk_drew ?_ | refine blk_alloc ?_ _)); exact BK176.out⟩, ⟨by repeat (first | (with_reducible first | exact HB.out | apply below_alloc | apply pw_below_drewN | apply below_drew1 | refine below_set ?_ GE176.out) | exact HB.out)⟩⟩
                                · rw [if_neg c57] at H
                                  exact absurd H (by simp)
                              · rw [if_neg c56] at H
                                exact absurd H (by simp)
                            · rw [if_neg c55] at H
                              exact absurd H (by simp)
                  · rw [if_neg c18] at H
                    have c18b0 : decide (x12_3 < (l1.length : Int)) = false := decide_eq_false c18
                    clear c18
                    by_cases c60 : x10_3 = true
                    · subst c60
                      have H1 : (some ((⟨#[]⟩ : ByteArray), (⟨#[]⟩ : ByteArray), 4)) = some (r1, r2, r3) := by rw [if_pos rfl] at H; exact H
                      clear H
                      have H := H1
                      clear H1
                      simp only [Option.some.injEq, Prod.mk.injEq] at H
                      obtain ⟨rfl, rfl, rfl⟩ := H
                      go_wp2
                      repeat (go_quiet (fail); try go_wp2)
                      go_ret3
                      exact ⟨by first | rfl | (simp [errW_none, errW_some] <;> rfl) | (simp [*, errW_none, errW_some] <;> rfl), by repeat (first | (with_reducible first | exact HB.out | apply below_alloc | apply pw_below_drewN | apply below_drew1 | refine below_set ?_ GE176.out) | exact HB.out)⟩
                    · replace c60 := Bool.eq_false_iff.mpr c60
                      subst c60
                      have H1 : (if x9_3 = true then (some ((⟨#[]⟩ : ByteArray), (⟨#[]⟩ : ByteArray), 3)) else (if (x8_3.size : Int) > 2000 then (some ((⟨#[]⟩ : ByteArray), (⟨#[]⟩ : ByteArray), 6)) else ((cellarerref04_Many.f k3 x11_3).bind fun t193 => (some (x8_3, t193, 0))))) = some (r1, r2, r3) := by rw [if_neg (show ¬ (false = true) by decide)] at H; exact H
                      clear H
                      have H := H1
                      clear H1
                      by_cases c61 : x9_3 = true
                      · subst c61
                        have H1 : (some ((⟨#[]⟩ : ByteArray), (⟨#[]⟩ : ByteArray), 3)) = some (r1, r2, r3) := by rw [if_pos rfl] at H; exact H
                        clear H
                        have H := H1
                        clear H1
                        simp only [Option.some.injEq, Prod.mk.injEq] at H
                        obtain ⟨rfl, rfl, rfl⟩ := H
                        go_wp2
                        repeat (go_quiet (fail); try go_wp2)
                        go_ret3
                        exact ⟨by first | rfl | (simp [errW_none, errW_some] <;> rfl) | (simp [*, errW_none, errW_some] <;> rfl), by repeat (first | (with_reducible first | exact HB.out | apply below_alloc | apply pw_below_drewN | apply below_drew1 | refine below_set ?_ GE176.out) | exact HB.out)⟩
                      · replace c61 := Bool.eq_false_iff.mpr c61
                        subst c61
                        have H1 : (if (x8_3.size : Int) > 2000 then (some ((⟨#[]⟩ : ByteArray), (⟨#[]⟩ : ByteArray), 6)) else ((cellarerref04_Many.f k3 x11_3).bind fun t193 => (some (x8_3, t193, 0)))) = some (r1, r2, r3) := by rw [if_neg (show ¬ (false = true) by decide)] at H; exact H
                        clear H
                        have H := H1
                        clear H1
                        by_cases c62 : (x8_3.size : Int) > 2000
                        · rw [if_pos c62] at H
                          have c62b0 : decide (2000 < (x8_3.size : Int)) = true := decide_eq_true c62
                          have c62b1 : decide (2000 < x8_3.size) = true := decide_eq_true (by omega)
                          clear c62
                          simp only [Option.some.injEq, Prod.mk.injEq] at H
                          obtain ⟨rfl, rfl, rfl⟩ := H
                          go_wp2
                          repeat (go_quiet (fail); try go_wp2)
                          go_ret3
                          exact ⟨by first | rfl | (simp [errW_none, errW_some] <;> rfl) | (simp [*, errW_none, errW_some] <;> rfl), by repeat (first | (with_reducible first | exact HB.out | apply below_alloc | apply pw_below_drewN | apply below_drew1 | refine below_set ?_ GE176.out) | exact HB.out)⟩
                        · rw [if_neg c62] at H
                          have c62b0 : decide (2000 < (x8_3.size : Int)) = false := decide_eq_false c62
                          have c62b1 : decide (2000 < x8_3.size) = false := decide_eq_false (by omega)
                          clear c62
                          replace H := Option.bind_eq_some_iff.mp H
                          obtain ⟨t193, A630, H⟩ := H
                          replace H : (some (x8_3, t193, 0)) = some (r1, r2, r3) := H
                          have A63 := Aside0.mk A630
                          clear A630
                          simp only [Option.some.injEq, Prod.mk.injEq] at H
                          obtain ⟨rfl, rfl, rfl⟩ := H
                          obtain ⟨Ao64, co64, eo64⟩ := Kd.R_slice HO_11.out
                          subst eo64
                          go_wp2_with (first | (go_at_call 31; (with_reducible refine (cellarerref04_Many.calls k3 _ _ x11_3 t193 _ ?side1 ?side2 A63.out).mono ?_); (case side1 => repeat (first | exact (Kd.R_reads' HO_11.out).2.2 | (with_reducible refine Kd.C_alloc ?_ _) | (with_reducible refine Kd.C_drewN ?_ _) | (with_reducible refine Kd.C_drew ?_))); (case side2 => exact (Kd.R_reads' HO_11.out).2.1); rintro e w65 ⟨rfl, hb⟩; have n0_ := Aside0.mk (Kd.R_below (by (with_reducible repeat (first | apply Kd.R_alloc | apply Kd.R_drewN | apply Kd.R_drew)); exact HO_11.out) hb); have n1_ := Aside0.mk (blk_below (g := gb176) (o := .cells #[.int .u64 a0_0, .string a0_1, .slice A0_2 l0_2.length c0_2] 25 (0, 0)) (by (with_reducible repeat (first | refine blk_drewN ?_ _ | refine blk_drew ?_ | refine blk_alloc ?_ _)); exact BK176.out) hb); have n2_ := Aside0.mk (below_step (by repeat (first | (with_reducible first | exact HB.out | apply below_alloc | apply pw_below_drewN | apply below_drew1 | refine below_set ?_ GE176.out) | exact HB.out)) hb); clear HO_11; clear BK176; clear HB; have HO_11 := n0_; have BK176 := n1_; have HB := n2_; clear n0_ n1_ n2_; (try clear hb); (try clear hb2); (try clear hk); (try clear hi)))
                          repeat (go_quiet (first | (go_at_call 31; (with_reducible refine (cellarerref04_Many.calls k3 _ _ x11_3 t193 _ ?side1 ?side2 A63.out).mono ?_); (case side1 => repeat (first | exact (Kd.R_reads' HO_11.out).2.2 | (with_reducible refine Kd.C_alloc ?_ _) | (with_reducible refine Kd.C_drewN ?_ _) | (with_reducible refine Kd.C_drew ?_))); (case side2 => exact (Kd.R_reads' HO_11.out).2.1); rintro e w65 ⟨rfl, hb⟩; have n0_ := Aside0.mk (Kd.R_below (by (with_reducible repeat (first | apply Kd.R_alloc | apply Kd.R_drewN | apply Kd.R_drew)); exact HO_11.out) hb); have n1_ := Aside0.mk (blk_below (g := gb176) (o := .cells #[.int .u64 a0_0, .string a0_1, .slice A0_2 l0_2.length c0_2] 25 (0, 0)) (by (with_reducible repeat (first | refine blk_drewN ?_ _ | refine blk_drew ?_ | refine blk_alloc ?_ _)); exact BK176.out) hb); have n2_ := Aside0.mk (below_step (by repeat (first | (with_reducible first | exact HB.out | apply below_alloc | apply pw_below_drewN | apply below_drew1 | refine below_set ?_ GE176.out) | exact HB.out)) hb); clear HO_11; clear BK176; clear HB; have HO_11 := n0_; have BK176 := n1_; have HB := n2_; clear n0_ n1_ n2_; (try clear hb); (try clear hb2); (try clear hk); (try clear hi))); try go_wp2_with (first | (go_at_call 31; (with_reducible refine (cellarerref04_Many.calls k3 _ _ x11_3 t193 _ ?side1 ?side2 A63.out).mono ?_); (case side1 => repeat (first | exact (Kd.R_reads' HO_11.out).2.2 | (with_reducible refine Kd.C_alloc ?_ _) | (with_reducible refine Kd.C_drewN ?_ _) | (with_reducible refine Kd.C_drew ?_))); (case side2 => exact (Kd.R_reads' HO_11.out).2.1); rintro e w65 ⟨rfl, hb⟩; have n0_ := Aside0.mk (Kd.R_below (by (with_reducible repeat (first | apply Kd.R_alloc | apply Kd.R_drewN | apply Kd.R_drew)); exact HO_11.out) hb); have n1_ := Aside0.mk (blk_below (g := gb176) (o := .cells #[.int .u64 a0_0, .string a0_1, .slice A0_2 l0_2.length c0_2] 25 (0, 0)) (by (with_reducible repeat (first | refine blk_drewN ?_ _ | refine blk_drew ?_ | refine blk_alloc ?_ _)); exact BK176.out) hb); have n2_ := Aside0.mk (below_step (by repeat (first | (with_reducible first | exact HB.out | apply below_alloc | apply pw_below_drewN | apply below_drew1 | refine below_set ?_ GE176.out) | exact HB.out)) hb); clear HO_11; clear BK176; clear HB; have HO_11 := n0_; have BK176 := n1_; have HB := n2_; clear n0_ n1_ n2_; (try clear hb); (try clear hb2); (try clear hk); (try clear hi))))
                          go_ret3
                          exact ⟨by first | rfl | (simp [errW_none, errW_some] <;> rfl) | (simp [*, errW_none, errW_some] <;> rfl), by repeat (first | (with_reducible first | exact HB.out | apply below_alloc | apply pw_below_drewN | apply below_drew1 | refine below_set ?_ GE176.out) | exact HB.out)⟩

-- NOT PRINTED: function 18 (parts_Check)

-- NOT PRINTED: function 34 (api_Upload_34)

-- NOT PRINTED: function 12 (parts_Begin)

-- NOT PRINTED: function 59 (api_Upload_59)

-- NOT PRINTED: function 35 (parts_place)

-- NOT PRINTED: function 37 (api_Part_int)

-- NOT PRINTED: function 39 (api_Part_39)

-- NOT PRINTED: function 61 (api_Part_61)

-- NOT PRINTED: function 72 (api_Part_72)

-- NOT PRINTED: function 68 (api_Part_68)

-- NOT PRINTED: function 62 (api_Part_62)

-- NOT PRINTED: function 40 (api_Part_40)

-- NOT PRINTED: function 41 (tag_Of)

-- NOT PRINTED: function 14 (parts_Lay)

-- NOT PRINTED: function 16 (parts_Find)

-- NOT PRINTED: function 11 (cellarerlaw08_awake)

-- NOT PRINTED: function 3 (cellarerlaw08_PartsWholes)

-- NOT PRINTED: function 4 (cellarerlaw08_PartsTurns)

-- NOT PRINTED: function 5 (cellarerlaw08_PartsPieces)

end Go.Proofs.YtgpmkbmobdbdoaaDoor.Q

-- T1
namespace Go.Proofs.YtgpmkbmobdbdoaaDoor.Q
open Go.RowKit Go.Proofs.YtgpmkbmobdbdoaaDoorW.PrintWords Go.Proofs.YtgpmkbmobdbdoaaDoorW.PrintLast Go.Proofs.YtgpmkbmobdbdoaaDoorW.PrintMore
set_option linter.unusedVariables false
set_option linter.unusedSimpArgs false

def okb (c : UInt8) : Bool := decide (32 ≤ (c.toNat : Int)) && decide ((c.toNat : Int) ≤ 126)
def keyB (s : ByteArray) : Bool := decide (1 ≤ s.size) && (decide (s.size ≤ 60) && s.data.toList.all okb)
theorem plain_of (c : UInt8) : name_plain.f (c.toNat : Int) = some (okb c) := by
  unfold name_plain.f okb
  by_cases h : (c.toNat : Int) ≥ 32
  · rw [if_pos h]; simp [h]
  · rw [if_neg h]; simp [h]

theorem below_drewN (B : Nat) (w : World) (n : Nat) : Below B w (w.drewN n) := pw_below_drewN (Below.refl _ _) _
theorem quiet0 {P : Program} {f : FuncId} {args : Array Value} {w : World} {n : Nat} {v : Value} (h : Calls P f args (w.drewN n) fun e w' => e = .returned v ∧ Drawn0 (w.drewN n) w') :
    Calls P f args (w.drewN n) fun e w'' => e = .returned v ∧ ∃ m, w'' = w.drewN m :=
  Calls.quiet_of (h.mono fun _ _ h => ⟨h.1, h.2.out⟩)
set_option maxHeartbeats 1000000 in
set_option maxRecDepth 100000 in
theorem kind_is.calls (s : ByteArray) (w : World) :
    Calls Tryd.prog 58 #[.agg #[.int .i64 1, .int .i64 60, .func (.func 57) #[] #[]], .string s] w fun e w' => e = .returned (.bool (keyB s)) ∧ Below w.heap.size w w' := by
  have HB0 : Below w.heap.size w w := Below.refl _ _
  by_cases h1 : s.size < 1
  · have e1 : keyB s = false := by unfold keyB; simp; omega
    rw [e1]; clear e1
    go_enter Tryd.func58, Tryd.ntmps58
    go_wp2
    go_ret
    exact ⟨rfl, HB0.alloc (Nat.le_refl _) _⟩
  by_cases h2 : 60 < s.size
  · have e1 : keyB s = false := by unfold keyB; simp; omega
    rw [e1]; clear e1
    go_enter Tryd.func58, Tryd.ntmps58
    go_wp2
    go_ret
    exact ⟨rfl, HB0.alloc (Nat.le_refl _) _⟩
  have h1' : decide ((s.size : Int) < 1) = false := by simp; omega
  have h2' : decide (60 < (s.size : Int)) = false := by simp; omega
  go_enter Tryd.func58, Tryd.ntmps58
  go_wp2
  go_loopw [20] (fun i wr => ∃ k : Nat, i = .int .i64 k ∧ k ≤ s.size ∧ Hid ((s.data.toList.take k).all okb = true) ∧ Hid (wr.cell? ⟨w.heap.size, 2, none⟩ = some (.func (.func 57) #[] #[])) ∧ Hid (Below w.heap.size w wr)) (fun i _ => s.size - (intOf i).toNat)
  case atStart => exact ⟨0, rfl, Nat.zero_le _, by simp [Hid], by simp [Hid, go_sem], HB0.alloc (Nat.le_refl _) _⟩
  case round =>
    obtain ⟨k, rfl, hk, hall, hc, hb⟩ := hrel
    by_cases hlt : k < s.size
    · have hc' := hc.out
      by_cases hp : okb (s[k]) = true
      · have hq := plain_of (s[k])
        rw [hp] at hq
        have Hq := Lib.hid hq; clear hq
        have hall' : Hid ((s.data.toList.take (k+1)).all okb = true) := by
          unfold Hid
          have := hall.out
          rw [List.take_succ_eq_append_getElem (by simpa using hlt), List.all_append, this]
          simp only [List.all_cons, List.all_nil, Bool.and_true, Bool.true_and]; exact hp
        clear hp
        go_wp2
        go_quiet ((go_at_call 57; exact quiet0 (name_plain.calls _ true _ Hq.out)))
        go_wp2
        go_roundw
        case rel => exact ⟨k + 1, by go_num, by omega, hall', hc, hb.out.trans (below_drewN _ _ _)⟩
        case measure => simp [intOf]; omega
      · replace hp := Bool.eq_false_iff.2 hp
        have hq := plain_of (s[k])
        rw [hp] at hq
        have Hq := Lib.hid hq; clear hq
        have e1 : keyB s = false := by
          unfold keyB
          have : s.data.toList.all okb = false := by
            rw [List.all_eq_false]
            exact ⟨s[k], by simp [ByteArray.getElem_eq_getElem_data], by simpa using hp⟩
          rw [this]; simp
        have He := Lib.hid e1; clear e1 hp
        go_wp2
        go_quiet ((go_at_call 57; exact quiet0 (name_plain.calls _ false _ Hq.out)))
        go_wp2
        go_ret
        exact ⟨by rw [He.out]; rfl, hb.out.trans (below_drewN _ _ _)⟩
    · have e1 : keyB s = true := by
        have := hall.out
        rw [List.take_of_length_le (by simp; omega)] at this
        unfold keyB; rw [this]; simp; omega
      have He := Lib.hid e1; clear e1
      go_wp2
      go_ret
      exact ⟨by rw [He.out]; rfl, hb.out⟩
def name_Key.f (a0 : ByteArray) : Option Bool := some (keyB a0)
theorem name_Key.calls (a0 : ByteArray) (r : Bool) (w : World) (h : name_Key.f a0 = some r) :
    Calls Tryd.prog 33 #[.string a0] w fun e w' => e = .returned (.bool r) ∧ Below w.heap.size w w' := by
  obtain rfl := Option.some.inj h
  clear h
  go_enter Tryd.func33, Tryd.ntmps33
  go_wp2_with (go_at_call 58; refine (kind_is.calls a0 _).mono ?_; rintro e w' ⟨rfl, hb⟩; have HB := Lib.hid hb; clear hb)
  go_ret
  exact ⟨rfl, HB.out⟩
end Go.Proofs.YtgpmkbmobdbdoaaDoor.Q

-- T2
namespace Go.Proofs.YtgpmkbmobdbdoaaDoor.Q
open Go.RowKit Go.Proofs.YtgpmkbmobdbdoaaDoorW.PrintWords Go.Proofs.YtgpmkbmobdbdoaaDoorW.PrintLast Go.Proofs.YtgpmkbmobdbdoaaDoorW.PrintMore
set_option linter.unusedVariables false
set_option linter.unusedSimpArgs false

theorem once_disable (w : World) : (callFunc 94 #[]).run Tryd.prog w = .ok (.value (.tuple #[])) w := run_call_mark0 Tryd.func94 (by kernel_rfl) (by kernel_rfl) (by kernel_rfl) .disable (by kernel_rfl) w
theorem once_enable (w : World) : (callFunc 96 #[]).run Tryd.prog w = .ok (.value (.tuple #[])) w := run_call_mark0 Tryd.func96 (by kernel_rfl) (by kernel_rfl) (by kernel_rfl) .enable (by kernel_rfl) w
theorem once_acquire (a : Addr) (w : World) : (callFunc 97 #[.pointer (some a)]).run Tryd.prog w = .ok (.value (.tuple #[])) w := run_call_marked Tryd.func97 (by kernel_rfl) (by kernel_rfl) (by kernel_rfl) .acquire (by kernel_rfl) a w
theorem once_release (a : Addr) (w : World) : (callFunc 99 #[.pointer (some a)]).run Tryd.prog w = .ok (.value (.tuple #[])) w := run_call_marked Tryd.func99 (by kernel_rfl) (by kernel_rfl) (by kernel_rfl) .releaseMerge (by kernel_rfl) a w

theorem once_store (a : Addr) (x : Value) (u : FrameMode) (w : World) (hc : w.cell? a = some x) (hz : w.frozen? a = false) :
    CallsD Tryd.prog 82 #[.pointer (some a), .bool true] u w fun e u' w' => u' = u ∧ (e = .returned (.tuple #[]) ∧ w' = w.drew.setCell a (.int .u32 1)) := by
  have hc' : w.drew.cell? a = some x := by go_simp
  have hz' : w.drew.frozen? a = false := by go_simp
  have hst := run_call_store (P := Tryd.prog) Tryd.func90 (by kernel_rfl) (by kernel_rfl) (by kernel_rfl) (by kernel_rfl) (k := .u32) (y := 1) hc' hz'
  go_enter_d Tryd.func82, Tryd.ntmps82
  go_wp2
  go_region_calls
  all_goals (go_end0; exact ⟨rfl, rfl⟩)

set_option maxRecDepth 100000 in
set_option maxHeartbeats 1000000 in
theorem once_unlock (a : Addr) (u : FrameMode) (w : World) (hc : w.cell? a = some (.int .i32 1)) (hz : w.frozen? a = false) :
    CallsD Tryd.prog 81 #[.pointer (some a)] u w fun e u' w' => u' = u ∧ (e = .returned (.tuple #[]) ∧ w' = w.setCell a (.int .i32 0)) := by
  have hd := once_disable
  have he := once_enable
  have hr := once_release
  have hadd := run_call_add (P := Tryd.prog) Tryd.func100 (by kernel_rfl) (by kernel_rfl) (by kernel_rfl) .i32 (by kernel_rfl) (y := -1) (s := 0) hc hz (by simp [go_sem]; rfl)
  have hcv := run_convert_to_unsafe (P := Tryd.prog) (src := 147) (dst := 104) Tryd.underlying147 Tryd.underlying104 (by kernel_rfl) hc
  go_enter_d Tryd.func81, Tryd.ntmps81
  go_wp2
  go_end0
  go_wp2
  go_end0
  exact ⟨rfl, rfl⟩

set_option maxRecDepth 100000 in
set_option maxHeartbeats 1000000 in
theorem once_lock (a : Addr) (w : World) (hc : w.cell? a = some (.int .i32 0)) (hz : w.frozen? a = false) :
    Calls Tryd.prog 80 #[.pointer (some a)] w fun e w' => e = .returned (.tuple #[]) ∧ w' = w.setCell a (.int .i32 1) := by
  have hd := once_disable
  have he := once_enable
  have ha := once_acquire
  have hcas := run_call_cas_hit (P := Tryd.prog) Tryd.func95 (by kernel_rfl) (by kernel_rfl) (by kernel_rfl) .i32 (by kernel_rfl) (y := 1) hc hz
  have hc' : (w.setCell a (.int .i32 1)).cell? a = some (.int .i32 1) := World.cell?_setCell_same w a _ hc
  have hcv := run_convert_to_unsafe (P := Tryd.prog) (src := 147) (dst := 104) Tryd.underlying147 Tryd.underlying104 (by kernel_rfl) hc'
  go_enter Tryd.func80, Tryd.ntmps80
  go_wp2
  first | go_end0 | (simp only [Exit.inBlock, Exit.then]; refine bodyPost_ret (results_none rfl _ _ _) rfl ?_) | refine bodyPost_ret (results_none rfl _ _ _) rfl ?_
  go_wp2
  go_end0
  exact ⟨rfl, rfl⟩

structure Only (g : Nat) (w w' : World) : Prop where
  os : w'.os = w.os
  tape : w'.tape = w.tape
  output : w'.output = w.output
  size : w.heap.size ≤ w'.heap.size
  block : ∀ k, k < w.heap.size → k ≠ g → w'.heap[k]? = w.heap[k]?
theorem Only.refl (g : Nat) (w : World) : Only g w w := ⟨rfl, rfl, rfl, Nat.le_refl _, fun _ _ _ => rfl⟩
theorem Only.set {g : Nat} {w w' : World} (h : Only g w w') (j : Nat) (v : Value) : Only g w (w'.setCell ⟨g, j, none⟩ v) :=
  ⟨h.os, h.tape, h.output, by simpa [World.setCell] using h.size, fun k hk hg => (Below.heap_setCell _ _ _ _ hg).trans (h.block k hk hg)⟩
theorem Only.drewN {g : Nat} {w w' : World} (h : Only g w w') (n : Nat) : Only g w (w'.drewN n) := ⟨h.os, h.tape, h.output, h.size, h.block⟩
theorem Only.cell {g : Nat} {w w' : World} (h : Only g w w') {p : Addr} {v : Value} (hp : p.block ≠ g) (hc : w.cell? p = some v) : w'.cell? p = some v :=
  (World.cell?_of_block (w := w) (h.block p.block (World.block_lt_of_cell? w _ hc) hp)).trans hc
theorem Only.below {g B : Nat} {w0 w w' : World} (h : Only g w w') (hb : Below B w0 w) (hB : B ≤ w.heap.size) (hg : B ≤ g) : Below B w0 w' :=
  hb.trans ⟨h.os, h.tape, h.output, h.size, fun k hk => h.block k (by omega) (by omega)⟩

end Go.Proofs.YtgpmkbmobdbdoaaDoor.Q

-- T3
namespace Go.Proofs.YtgpmkbmobdbdoaaDoor.Q
open Go.RowKit Go.Proofs.YtgpmkbmobdbdoaaDoorW.PrintWords Go.Proofs.YtgpmkbmobdbdoaaDoorW.PrintLast Go.Proofs.YtgpmkbmobdbdoaaDoorW.PrintMore
set_option linter.unusedVariables false
set_option linter.unusedSimpArgs false

theorem bits32_range (op : BinOp) (x y : Int) : 0 ≤ bits op .u32 x y ∧ bits op .u32 x y < 4294967296 := by
  have : ∀ n : Int, IntKind.u32.wrap n = n % 4294967296 := fun n => by simp [IntKind.wrap, IntKind.bits, IntKind.signed]
  unfold bits
  rw [this]
  omega
theorem bits8_range (op : BinOp) (x y : Int) : 0 ≤ bits op .u8 x y ∧ bits op .u8 x y < 256 := by
  have : ∀ n : Int, IntKind.u8.wrap n = n % 256 := fun n => by simp [IntKind.wrap, IntKind.bits, IntKind.signed]
  unfold bits
  rw [this]
  omega
def tone (x : Int) : Int := bits .xor .u32 (x / 2) (2197175160 * bits .and .u32 x 1 % 4294967296)
def ttimes : Nat → Int → Int
  | 0, x => x
  | m + 1, x => tone (ttimes m x)
def tab (i : Nat) : Int := ttimes 8 i
theorem tone_range (x : Int) : 0 ≤ tone x ∧ tone x < 4294967296 := bits32_range _ _ _
def TabTo (k : Nat) (cs cs' : Array Value) : Prop := cs'.size = 259 ∧ cs'[0]? = cs[0]? ∧ cs'[1]? = cs[1]? ∧ ∀ i, i < k → cs'[3 + i]? = some (.int .u32 (tab i))
theorem TabTo.start {cs : Array Value} (h : cs.size = 259) : TabTo 0 cs cs := ⟨h, rfl, rfl, fun i hi => absurd hi (Nat.not_lt_zero _)⟩
theorem TabTo.step {k : Nat} {cs cs' : Array Value} (h : TabTo k cs cs') (hk : k < 256) {x : Int} (hx : ttimes 8 k = x) : TabTo (k + 1) cs (cs'.setIfInBounds (3 + k) (.int .u32 x)) := by
  obtain ⟨h1, h2, h3, h4⟩ := h
  refine ⟨by simpa using h1, ?_, ?_, fun i hi => ?_⟩
  · rw [Array.getElem?_setIfInBounds, if_neg (by omega)]; exact h2
  · rw [Array.getElem?_setIfInBounds, if_neg (by omega)]; exact h3
  · rw [Array.getElem?_setIfInBounds]
    by_cases e : i = k
    · subst e; rw [if_pos rfl, if_pos (by omega), ← hx]; rfl
    · rw [if_neg (by omega)]; exact h4 i (by omega)

set_option maxRecDepth 100000 in
set_option maxHeartbeats 1000000 in
theorem made_fill (b : Nat) (pl : Addr) (hpb : pl.block ≠ b) (cs : Array Value) (w : World) (hp : w.cell? pl = some (.pointer (some ⟨b, 0, none⟩)))
    (hb : w.heap[b]? = some (.cells cs 119 (0, 0))) (hsz : cs.size = 259) :
    Calls Tryd.prog 70 #[.pointer (some pl)] w fun e w' => e = .returned (.tuple #[]) ∧ Only b w w' ∧ ∃ cs', w'.heap[b]? = some (.cells cs' 119 (0, 0)) ∧ TabTo 256 cs cs' := by
  have HO := Only.refl b w
  have HP := Lib.hid hp; clear hp
  have HBK := Lib.hid hb; clear hb
  have HSZ := Lib.hid hsz; clear hsz
  go_enter Tryd.func70, Tryd.ntmps70
  go_wp2
  go_loopw [1, 2, 3] (fun _ _ i wr => ∃ (k : Nat) (cs' : Array Value), i = .int .i64 k ∧ k ≤ 256 ∧ Hid (Only b w wr) ∧ Hid (wr.heap[b]? = some (.cells cs' 119 (0, 0))) ∧ Hid (TabTo k cs cs')) (fun _ _ i _ => 256 - (intOf i).toNat)
  case atStart => exact ⟨0, cs, rfl, by omega, HO, HBK, TabTo.start HSZ.out⟩
  case round =>
    obtain ⟨k, cs', rfl, hk, ho, hbk, ht⟩ := hrel
    by_cases hlt : k < 256
    · go_wp2
      go_loop [2, 8] (fun c j => ∃ (m : Nat) (x : Int), j = .int .i64 m ∧ m ≤ 8 ∧ c = .int .u32 x ∧ 0 ≤ x ∧ x < 4294967296 ∧ Hid (ttimes m k = x)) (fun _ j => 8 - (intOf j).toNat)
      case atStart => exact ⟨0, k, rfl, by omega, rfl, by omega, by omega, rfl⟩
      case round =>
        obtain ⟨m, x, rfl, hm, rfl, hx0, hx1, hx⟩ := hrel
        by_cases hlt2 : m < 8
        · go_wp2
          go_round
          case rel => exact ⟨m + 1, _, by go_num, by omega, rfl, (tone_range x).1, (tone_range x).2, by unfold Hid; rw [← hx.out]; rfl⟩
          case measure => simp [intOf]; omega
        · obtain rfl : m = 8 := by omega
          have hP := ho.out.cell hpb HP.out
          obtain ⟨y, hy⟩ : ∃ y, wr.cell? ⟨b, 3 + k, none⟩ = some y := by
            rw [blk_cell hbk.out]; exact ⟨_, Array.getElem?_eq_getElem (by have := ht.out.1; omega)⟩
          have hf := blk_frozen hbk.out (3 + k)
          have hbk2 := Lib.hid (blk_set hbk.out (3 + k) (.int .u32 x))
          have ht2 := Lib.hid (ht.out.step hlt hx.out)
          go_wp2
          go_roundw
          case rel => exact ⟨k + 1, _, by go_num, by omega, ho.out.set _ _, hbk2, ht2⟩
          case measure => simp [intOf]; omega
    · obtain rfl : k = 256 := by omega
      go_wp2
      go_end0
      exact ⟨rfl, ho.out, cs', hbk.out, ht.out⟩
end Go.Proofs.YtgpmkbmobdbdoaaDoor.Q

-- T4
namespace Go.Proofs.YtgpmkbmobdbdoaaDoor.Q
open Go.RowKit Go.Proofs.YtgpmkbmobdbdoaaDoorW.PrintWords Go.Proofs.YtgpmkbmobdbdoaaDoorW.PrintLast Go.Proofs.YtgpmkbmobdbdoaaDoorW.PrintMore
set_option linter.unusedVariables false
set_option linter.unusedSimpArgs false

theorem Only.trans {g : Nat} {w w1 w2 : World} (h : Only g w w1) (k : Only g w1 w2) : Only g w w2 :=
  ⟨k.os.trans h.os, k.tape.trans h.tape, k.output.trans h.output, Nat.le_trans h.size k.size, fun i hi hg => (k.block i (Nat.lt_of_lt_of_le hi h.size) hg).trans (h.block i hi hg)⟩

theorem once_load0 (a : Addr) (w : World) (h : w.cell? a = some (.int .u32 0)) : Calls Tryd.prog 73 #[.pointer (some a)] w fun e w' => e = .returned (.bool false) ∧ w' = w := by
  have hl := run_call_load (P := Tryd.prog) Tryd.func79 (by kernel_rfl) (by kernel_rfl) (by kernel_rfl) .u32 (by kernel_rfl) h
  go_enter Tryd.func73, Tryd.ntmps73
  go_wp2
  go_ret
  exact ⟨rfl, rfl⟩

set_option maxRecDepth 100000 in
set_option maxHeartbeats 1000000 in
/-- doSlow, the Once not yet done and its lock free. -/
theorem once_slow (b : Nat) (pl : Addr) (hpb : pl.block ≠ b) (cs : Array Value) (w : World) (hp : w.cell? pl = some (.pointer (some ⟨b, 0, none⟩)))
    (hb : w.heap[b]? = some (.cells cs 119 (0, 0))) (hsz : cs.size = 259) (h0 : cs[0]? = some (.int .u32 0)) (h1 : cs[1]? = some (.int .i32 0)) :
    Calls Tryd.prog 74 #[.pointer (some ⟨b, 0, none⟩), .func (.func 70) #[] #[.pointer (some pl)]] w fun e w' => e = .returned (.tuple #[]) ∧
      Only b w w' ∧ ∃ cs', w'.heap[b]? = some (.cells cs' 119 (0, 0)) ∧ ∀ i, i < 256 → cs'[3 + i]? = some (.int .u32 (tab i)) := by
  have hb1 := blk_set hb 1 (.int .i32 1)
  have HL := Lib.hid (once_load0 ⟨b, 0, none⟩ (w.setCell ⟨b, 1, none⟩ (.int .i32 1)) ((blk_cell hb1 0).trans (by simpa using h0)))
  have hnot : ∀ (x : Bool) (w : World), (Op.unary .not (.bool x)).run Tryd.prog w = .ok (.bool (!x)) w := fun _ _ => rfl
  have hc1 : w.cell? ⟨b, 1, none⟩ = some (.int .i32 0) := (blk_cell hb 1).trans h1
  have hf1 := blk_frozen hb 1
  have HB1 := Lib.hid hb1; clear hb1
  have HO := Lib.hid ((Only.refl b w).set 1 (.int .i32 1))
  have HP := Lib.hid hp; clear hp
  have HS := Lib.hid (show (cs.setIfInBounds 1 (.int .i32 1)).size = 259 by simpa using hsz)
  have HC0 := Lib.hid (show (cs.setIfInBounds 1 (.int .i32 1))[0]? = some (.int .u32 0) by simpa using h0)
  have HC1 := Lib.hid (show (cs.setIfInBounds 1 (.int .i32 1))[1]? = some (.int .i32 1) by rw [Array.getElem?_setIfInBounds, if_pos rfl, if_pos (by omega)])
  clear hb h0 h1 hsz
  go_enter_defers Tryd.func74, Tryd.ntmps74
  go_wp2_with (first | (go_at_call 80; refine (once_lock ⟨b, 1, none⟩ _ (by go_simp) (by go_simp)).mono ?_; rintro e w' ⟨rfl, rfl⟩) | (go_at_call 73; refine HL.out.mono ?_; rintro e w' ⟨rfl, rfl⟩) | (go_at_call 70; refine (made_fill b pl hpb _ _ (HO.out.cell hpb HP.out) HB1.out HS.out).mono ?_; rintro e w2 ⟨rfl, ho2, cs2, hb2, ht2⟩; have HO2 := Lib.hid ho2; have HB2 := Lib.hid hb2; have HT2 := Lib.hid ht2; clear ho2 hb2 ht2))
  refine leaves_cons (f := 82) (args := #[.pointer (some ⟨b, 0, none⟩), .bool true]) (by simp) (by simp [go_sem]) ?_
  refine (once_store ⟨b, 0, none⟩ (.int .u32 0) .returning _ ?_ (blk_frozen HB2.out 0)).mono ?_
  · rw [blk_cell HB2.out 0, HT2.out.2.1]; exact HC0.out
  rintro e u' w'' ⟨rfl, rfl, rfl⟩
  refine leaves_cons (f := 81) (args := #[.pointer (some ⟨b, 1, none⟩)]) (by simp [settle]) (by simp [go_sem]) ?_
  have HB3 := Lib.hid (blk_set (blk_drew HB2.out) 0 (.int .u32 1))
  refine (once_unlock ⟨b, 1, none⟩ _ _ ?_ (blk_frozen HB3.out 1)).mono ?_
  · rw [blk_cell HB3.out 1, Array.getElem?_setIfInBounds, if_neg (by omega), HT2.out.2.2.1]; exact HC1.out
  rintro e u' w'' ⟨rfl, rfl, rfl⟩
  have HB4 := Lib.hid (blk_set HB3.out 1 (.int .i32 0))
  have HO4 := Lib.hid (((((HO.out.trans HO2.out).drewN 1).set 0 (.int .u32 1)).set 1 (.int .i32 0)))
  have HT := Lib.hid (show ∀ i, i < 256 → ((cs2.setIfInBounds 0 (.int .u32 1)).setIfInBounds 1 (.int .i32 0))[3 + i]? = some (.int .u32 (tab i)) from fun i hi => by
    rw [Array.getElem?_setIfInBounds, if_neg (by omega), Array.getElem?_setIfInBounds, if_neg (by omega)]; exact HT2.out.2.2.2 i hi)
  have hres : ∀ (a : Array Value) (w : World), (results Tryd.f74 a).run Tryd.prog w = .ok (.tuple #[]) w := fun a w => results_none (by kernel_rfl) _ _ _
  simp [Leaves, settle, hres]
  exact ⟨HO4.out, _, HB4.out, HT.out⟩

set_option maxRecDepth 100000 in
set_option maxHeartbeats 1000000 in
theorem once_do (b : Nat) (pl : Addr) (hpb : pl.block ≠ b) (cs : Array Value) (w : World) (hp : w.cell? pl = some (.pointer (some ⟨b, 0, none⟩)))
    (hb : w.heap[b]? = some (.cells cs 119 (0, 0))) (hsz : cs.size = 259) (h0 : cs[0]? = some (.int .u32 0)) (h1 : cs[1]? = some (.int .i32 0)) :
    Calls Tryd.prog 69 #[.pointer (some ⟨b, 0, none⟩), .func (.func 70) #[] #[.pointer (some pl)]] w fun e w' => e = .returned (.tuple #[]) ∧
      Only b w w' ∧ ∃ cs', w'.heap[b]? = some (.cells cs' 119 (0, 0)) ∧ ∀ i, i < 256 → cs'[3 + i]? = some (.int .u32 (tab i)) := by
  have HL := Lib.hid (once_load0 ⟨b, 0, none⟩ w ((blk_cell hb 0).trans h0))
  have HS := Lib.hid (once_slow b pl hpb cs w hp hb hsz h0 h1)
  have hc0 := (blk_cell hb 0).trans h0
  clear hp hb hsz h0 h1
  go_enter Tryd.func69, Tryd.ntmps69
  go_wp2_with (first | (go_at_call 73; refine HL.out.mono ?_; rintro e w' ⟨rfl, rfl⟩) | (go_at_call 74; refine HS.out.mono ?_; rintro e w' ⟨rfl, ho, hr⟩; have HR := Lib.hid hr; have HO := Lib.hid ho; clear ho hr))
  go_end0
  exact ⟨rfl, HO.out, HR.out⟩

set_option maxRecDepth 100000 in
set_option maxHeartbeats 1000000 in
theorem tag_made (b : Nat) (cs : Array Value) (w : World) (hb : w.heap[b]? = some (.cells cs 119 (0, 0))) (hsz : cs.size = 259) (h0 : cs[0]? = some (.int .u32 0)) (h1 : cs[1]? = some (.int .i32 0)) :
    Calls Tryd.prog 65 #[.pointer (some ⟨b, 0, none⟩)] w fun e w' => e = .returned (.pointer (some ⟨b, 3, none⟩)) ∧
      Only b w w' ∧ ∃ cs', w'.heap[b]? = some (.cells cs' 119 (0, 0)) ∧ ∀ i, i < 256 → cs'[3 + i]? = some (.int .u32 (tab i)) := by
  have hlt := blk_lt hb
  have hc0 := (blk_cell hb 0).trans h0
  have HS := Lib.hid (once_do b ⟨w.heap.size, 0, none⟩ (by show w.heap.size ≠ b; omega) cs (w.alloc (.cells #[.pointer (some ⟨b, 0, none⟩)] 123)) (by simp [go_sem]) (blk_alloc hb _) hsz h0 h1)
  have HW := Lib.hid (show (w.alloc (.cells #[.pointer (some ⟨b, 0, none⟩)] 123)).cell? ⟨w.heap.size, 0, none⟩ = some (.pointer (some ⟨b, 0, none⟩)) by simp [go_sem])
  have HN := Lib.hid (show w.heap.size ≠ b by omega)
  clear hb hsz h0 h1 hlt
  go_enter Tryd.func65, Tryd.ntmps65
  go_wp2_with (go_at_call 69; refine HS.out.mono ?_; rintro e w1 ⟨rfl, ho, hr⟩; have HR := Lib.hid hr; have HO := Lib.hid ho; clear ho hr; have hw1 := HO.out.cell HN.out HW.out)
  go_ret
  refine ⟨rfl, ?_, HR.out⟩
  have h := HO.out
  exact ⟨h.os, h.tape, h.output, Nat.le_trans (by simp) h.size, fun k hk hg => (h.block k (by simp; omega) hg).trans (Below.heap_alloc _ _ _ hk)⟩
end Go.Proofs.YtgpmkbmobdbdoaaDoor.Q

-- T5
namespace Go.Proofs.YtgpmkbmobdbdoaaDoor.Q
open Go.RowKit Go.Proofs.YtgpmkbmobdbdoaaDoorW.PrintWords Go.Proofs.YtgpmkbmobdbdoaaDoorW.PrintLast Go.Proofs.YtgpmkbmobdbdoaaDoorW.PrintMore
set_option linter.unusedVariables false
set_option linter.unusedSimpArgs false

def tagZ : Array Value := #[.int .u32 0, .int .i32 0, .int .u32 0] ++ Array.replicate 256 (.int .u32 0)
theorem tagZ_size : tagZ.size = 259 := by simp [tagZ]
theorem tagZ_0 : tagZ[0]? = some (.int .u32 0) := by simp [tagZ]
theorem tagZ_1 : tagZ[1]? = some (.int .i32 0) := by simp [tagZ]
theorem tag_alloc (w : World) : (Instr.alloc 119 true (.tuple #[])).run Tryd.prog w = .ok (.pointer (some ⟨w.heap.size, 0, none⟩)) (w.alloc (.cells tagZ 119)) := by kernel_rfl

def tagStep (c x : Int) : Int := bits .xor .u32 (tab (bits .xor .u8 (c % 256) x).toNat) (c / 256)
def tagRun (c : Int) (l : List UInt8) : Int := l.foldl (fun c x => tagStep c x.toNat) c
theorem tagStep_range (c x : Int) : 0 ≤ tagStep c x ∧ tagStep c x < 4294967296 := bits32_range _ _ _
def tagNot (t : Int) : Int := bits .xor .u32 IntKind.u32.max t
theorem tagNot_range (t : Int) : 0 ≤ tagNot t ∧ tagNot t < 4294967296 := bits32_range _ _ _
theorem tagRun_snoc (c : Int) (s : ByteArray) (k : Nat) (h : k < s.size) : tagRun c (s.data.toList.take (k + 1)) = tagStep (tagRun c (s.data.toList.take k)) s[k].toNat := by
  rw [List.take_succ_eq_append_getElem (by simpa using h)]
  unfold tagRun
  rw [List.foldl_append]
  rfl
def tagMore (t : Int) (s : ByteArray) : Int := tagNot (tagRun (tagNot t) s.data.toList)

set_option maxRecDepth 100000 in
set_option maxHeartbeats 1000000 in
theorem tag_More.walk (t : Int) (s : ByteArray) (hs : s.size ≤ 9223372036854775807) (w : World) :
    Calls Tryd.prog 48 #[.int .u32 t, .string s] w fun e w' => e = .returned (.int .u32 (tagMore t s)) ∧ Below w.heap.size w w' := by
  have hal := tag_alloc
  have hb := blk_new w (.cells tagZ 119)
  have HM := Lib.hid (tag_made w.heap.size tagZ (w.alloc (.cells tagZ 119)) hb tagZ_size tagZ_0 tagZ_1)
  have HB0 := Lib.hid ((Below.refl w.heap.size w).alloc (Nat.le_refl _) (.cells tagZ 119))
  clear hb
  go_enter Tryd.func48, Tryd.ntmps48
  go_wp2_with (go_at_call 65; refine HM.out.mono ?_; rintro e w1 ⟨rfl, ho, hr⟩; have HR := Lib.hid hr; have HB1 := Lib.hid (ho.below HB0.out (by simp) (Nat.le_refl _)); clear ho hr)
  clear hal HM HB0
  obtain ⟨cs, hb1, hcs⟩ := HR.out
  have HBK := Lib.hid hb1
  have HCS := Lib.hid hcs
  clear HR hb1 hcs
  go_loopw [7, 14] (fun c i wr => ∃ (k : Nat) (x : Int), i = .int .i64 k ∧ k ≤ s.size ∧ c = .int .u32 x ∧ 0 ≤ x ∧ x < 4294967296 ∧ Hid (tagRun (tagNot t) (s.data.toList.take k) = x) ∧ Hid (wr.heap[w.heap.size]? = some (.cells cs 119 (0, 0))) ∧ Hid (Below w.heap.size w wr)) (fun _ i _ => s.size - (intOf i).toNat)
  case atStart => exact ⟨0, tagNot t, rfl, Nat.zero_le _, rfl, (tagNot_range t).1, (tagNot_range t).2, rfl, HBK, HB1⟩
  case round =>
    obtain ⟨k, x, rfl, hk, rfl, hx0, hx1, hx, hbk, hbl⟩ := hrel
    by_cases hlt : k < s.size
    · have r1 := (bits8_range .xor (x % 256) s[k].toNat).1
      have r2 := (bits8_range .xor (x % 256) s[k].toNat).2
      have hc := (blk_cell hbk.out (3 + (bits .xor .u8 (x % 256) s[k].toNat).toNat)).trans (HCS.out _ (by omega))
      have hn := Lib.hid ((tagRun_snoc (tagNot t) s k hlt).trans (by rw [hx.out]))
      go_wp2
      go_quiet (fail)
      go_wp2
      go_roundw
      case rel => exact ⟨k + 1, _, by go_num, by omega, rfl, (tagStep_range x s[k].toNat).1, (tagStep_range x s[k].toNat).2, hn, hbk, hbl.out.trans (below_drewN _ _ _)⟩
      case measure => simp [intOf]; omega
    · have he : tagRun (tagNot t) s.data.toList = x := by
        have := hx.out; rw [List.take_of_length_le (by simp; omega)] at this; exact this
      have HE := Lib.hid he; clear he
      go_wp2
      go_ret
      exact ⟨by unfold tagMore; rw [HE.out]; rfl, hbl.out⟩
end Go.Proofs.YtgpmkbmobdbdoaaDoor.Q

-- T6
namespace Go.Proofs.YtgpmkbmobdbdoaaDoor.Q
open Go.RowKit Go.Proofs.YtgpmkbmobdbdoaaDoorW.PrintWords Go.Proofs.YtgpmkbmobdbdoaaDoorW.PrintLast Go.Proofs.YtgpmkbmobdbdoaaDoorW.PrintMore
set_option linter.unusedVariables false
set_option linter.unusedSimpArgs false

theorem bd_info5 : (Tryd.prog.info? 5).map (fun i => (i.zero, i.size, i.bytes)) = some (some (.int .u8 0), 1, 1) := by kernel_rfl
theorem bd_size : (Tryd.prog.info? 66).map (·.size) = some 2 := by kernel_rfl
theorem bd_lies : liesAt Tryd.prog Tryd.prog.depth 66 (2 / Tryd.prog.cellsOf 66) 0 66 1 = true := by kernel_rfl
set_option maxHeartbeats 1000000 in
set_option maxRecDepth 100000 in
theorem bd_check_used (b : Nat) (w : World) (h0 : w.cell? ⟨b, 0, none⟩ = some (.pointer (some ⟨b, 0, none⟩))) :
    Calls Tryd.prog 47 #[.pointer (some ⟨b, 0, none⟩)] w fun e w' => e = .returned (.tuple #[]) ∧ w' = w := by
  obtain ⟨j, hj, _⟩ := Option.map_eq_some_iff.1 bd_size
  go_enter Tryd.func47, Tryd.ntmps47
  go_wp2
  rw [Lib.run_neq_ptr_same w _ Tryd.underlying63 hj]
  go_wp2
  go_end0
  exact ⟨rfl, rfl⟩
set_option maxHeartbeats 1000000 in
set_option maxRecDepth 100000 in
theorem bd_check_fresh (b : Nat) (w : World) (h0 : w.cell? ⟨b, 0, none⟩ = some (.pointer none)) (hsh : w.shape? b = some (66, 2)) (hfz : w.frozen? ⟨b, 0, none⟩ = false) :
    Calls Tryd.prog 47 #[.pointer (some ⟨b, 0, none⟩)] w fun e w' => e = .returned (.tuple #[]) ∧ w' = w.setCell ⟨b, 0, none⟩ (.pointer (some ⟨b, 0, none⟩)) := by
  obtain ⟨j, hj, hjs⟩ := Option.map_eq_some_iff.1 bd_size
  go_enter Tryd.func47, Tryd.ntmps47
  go_wp2
  rw [Lib.run_to_unsafe w ⟨b, 0, none⟩ Tryd.underlying63 Tryd.underlying104 hj (by rw [hjs]; decide) hsh (Nat.zero_lt_succ 1)]
  simp only [Result.andThen]
  rw [Oper.upon_value]
  go_wp2
  rw [run_callFunc_extern Tryd.func64 (by kernel_rfl) (by kernel_rfl) (by kernel_rfl) (e := Extern.AbiNoEscape.same) (by kernel_rfl)]
  rw [Lib.run_noEscape]
  simp only [Result.andThen]
  rw [Oper.upon_value]
  go_wp2
  rw [Lib.run_from_unsafe w ⟨b, 0, none⟩ Tryd.underlying104 Tryd.underlying63 hj hsh bd_lies]
  simp only [Result.andThen]
  rw [Oper.upon_value]
  go_wp2
  go_end0
  exact ⟨rfl, rfl⟩
end Go.Proofs.YtgpmkbmobdbdoaaDoor.Q

-- Shelf
/-
  DERIVED: THE SHELF's CONTRACTS AT THIS DUMP, IN PLAIN WORDS (tools/lay-plain.mjs out of 'TrydShelf.lean', which tools/lay-shelf.mjs wrote): THE SAME DECLARATIONS UNDER THE SAME NAMES: 'import', 'namespace', 'open', 'def', 'theorem' AND NOTHING ELSE: no command of the shelf's: FOR A HAND-IN. Each laying: the table of numbers ('.._ren') and one theorem, a field a fact of the dump's own or the kernel's comparison; each contract: ONE APPLICATION.
-/
namespace Go.Proofs
open Go.Shelf
def Tryd.lays170_ren : Go.Shelf.Ren := ⟨fun | 170 => 27 | n => n, fun | 70 => 63 | 3 => 3 | 0 => 0 | 72 => 66 | 37 => 64 | 5 => 5 | n => n, fun | n => n⟩
theorem Tryd.lays170 : Go.Proofs.Lays.n170 Tryd.prog Tryd.lays170_ren := {
  mixed := by kernel_rfl
  f170 := Tryd.func27.trans (congrArg some (by kernel_rfl))
  t0 := Tryd.underlying0
  a0 := Tryd.isAgg0
  z0 := Tryd.sizeOf0
  v0 := Tryd.zeroValue0
  t3 := Tryd.underlying3
  a3 := Tryd.isAgg3
  z3 := Tryd.sizeOf3
  v3 := Tryd.zeroValue3
  t37 := Tryd.underlying64
  a37 := Tryd.isAgg64
  z37 := Tryd.sizeOf64
  v37 := Tryd.zeroValue64
  t70 := Tryd.underlying63
  a70 := Tryd.isAgg63
  z70 := Tryd.sizeOf63
  v70 := Tryd.zeroValue63
  t72 := Tryd.underlying66
  a72 := Tryd.isAgg66
  z72 := Tryd.sizeOf66
  v72 := Tryd.zeroValue66 }
open Go.RowKit in
/-- (*strings.Builder).Len: "Len returns the number of accumulated bytes; b.Len() == len(b.String()).": the world is as it was. (LAID: no walk: one application.) -/
theorem Tryd.Builder_Len (B b : Nat) (bs : List Value) (w : World) (h : Lib.IsBuilder 66 5 B b bs w) :
    Calls Tryd.prog 27 #[.pointer (some ⟨b, 0, none⟩)] w fun e w' => e = .returned (.int .i64 bs.length) ∧ w' = w := Any.Builder_Len Tryd.lays170 B b bs w h
def Tryd.lays169_ren : Go.Shelf.Ren := ⟨fun | 169 => 29 | n => n, fun | 70 => 63 | 9 => 9 | 0 => 0 | 72 => 66 | 37 => 64 | 127 => 95 | 3 => 3 | 5 => 5 | n => n, fun | n => n⟩
theorem Tryd.lays169 : Go.Proofs.Lays.n169 Tryd.prog Tryd.lays169_ren := {
  mixed := by kernel_rfl
  f169 := Tryd.func29.trans (congrArg some (by kernel_rfl))
  t0 := Tryd.underlying0
  a0 := Tryd.isAgg0
  z0 := Tryd.sizeOf0
  v0 := Tryd.zeroValue0
  t3 := Tryd.underlying3
  a3 := Tryd.isAgg3
  z3 := Tryd.sizeOf3
  v3 := Tryd.zeroValue3
  t9 := Tryd.underlying9
  a9 := Tryd.isAgg9
  z9 := Tryd.sizeOf9
  v9 := Tryd.zeroValue9
  t37 := Tryd.underlying64
  a37 := Tryd.isAgg64
  z37 := Tryd.sizeOf64
  v37 := Tryd.zeroValue64
  t70 := Tryd.underlying63
  a70 := Tryd.isAgg63
  z70 := Tryd.sizeOf63
  v70 := Tryd.zeroValue63
  t72 := Tryd.underlying66
  a72 := Tryd.isAgg66
  z72 := Tryd.sizeOf66
  v72 := Tryd.zeroValue66
  t127 := Tryd.underlying95
  a127 := Tryd.isAgg95
  z127 := Tryd.sizeOf95
  v127 := Tryd.zeroValue95 }
theorem Tryd.Builder_Extra_169 : Builder.Extra Tryd.prog Tryd.lays169_ren := {
  sizeBuilder := by kernel_rfl
  liesBuilder := by kernel_rfl
  t5 := Tryd.underlying5
  a5 := Tryd.isAgg5
  z5 := Tryd.sizeOf5
  v5 := Tryd.zeroValue5
  infoByte := by kernel_rfl
  cellsByte := by kernel_rfl
  sizeByte := by kernel_rfl
  neB5 := by decide }
open Go.RowKit in
open Go.RowKit in
open Go.RowKit in
/-- (*strings.Builder).String: "String returns the accumulated string.": WHATEVER THE BUILDER HOLDS. (LAID: no walk: one application.) -/
theorem Tryd.Builder_String_any (B b : Nat) (l : List UInt8) (w : World) (h : Lib.IsBuilder 66 5 B b (Lib.byteCells l) w) (hBw : B ≤ w.heap.size) :
    Calls Tryd.prog 29 #[.pointer (some ⟨b, 0, none⟩)] w fun e w' => e = .returned (.string ⟨l.toArray⟩) ∧ Below B w w' := Any.Builder_String_any Tryd.lays169 Tryd.Builder_Extra_169 B b l w h hBw
open Go.RowKit in
open Go.RowKit in
open Go.RowKit in
open Go.RowKit in
open Go.Lib in
open Go.Lib in
open Go.Lib in
open Go.Lib in
open Go.RowKit Go.Sort Go.Lib in
open Go.RowKit Go.Sort Go.Lib in
open Go.RowKit Go.Sort Go.Lib in
open Go.RowKit Go.Sort Go.Lib in
open Go.RowKit Go.Sort Go.Lib in
open Go.RowKit Go.Sort Go.Lib in
def Tryd.lays171_ren : Go.Shelf.Ren := ⟨fun | 171 => 51 | 243 => 66 | 246 => 71 | 283 => 75 | 284 => 76 | 285 => 77 | 286 => 78 | 129 => 84 | 317 => 83 | 318 => 85 | 319 => 86 | 320 => 87 | 337 => 92 | 338 => 93 | n => n, fun | 3 => 3 | 9 => 9 | 2 => 2 | 4 => 4 | 171 => 128 | 0 => 0 | 53 => 22 | 37 => 64 | 5 => 5 | 173 => 131 | 212 => 139 | 51 => 42 | 20 => 20 | 213 => 140 | 46 => 100 | 232 => 153 | 233 => 154 | n => n, fun | 17 => 0 | 18 => 1 | 19 => 2 | n => n⟩
theorem Tryd.lays171 : Go.Proofs.Lays.n171 Tryd.prog Tryd.lays171_ren := {
  mixed := by kernel_rfl
  f129 := Tryd.func84.trans (congrArg some (by kernel_rfl))
  f171 := Tryd.func51.trans (congrArg some (by kernel_rfl))
  f243 := Tryd.func66.trans (congrArg some (by kernel_rfl))
  f246 := Tryd.func71.trans (congrArg some (by kernel_rfl))
  f283 := Tryd.func75.trans (congrArg some (by kernel_rfl))
  f284 := Tryd.func76.trans (congrArg some (by kernel_rfl))
  f285 := Tryd.func77.trans (congrArg some (by kernel_rfl))
  f286 := Tryd.func78.trans (congrArg some (by kernel_rfl))
  f317 := Tryd.func83.trans (congrArg some (by kernel_rfl))
  f318 := Tryd.func85.trans (congrArg some (by kernel_rfl))
  f319 := Tryd.func86.trans (congrArg some (by kernel_rfl))
  f320 := Tryd.func87.trans (congrArg some (by kernel_rfl))
  f337 := Tryd.func92.trans (congrArg some (by kernel_rfl))
  f338 := Tryd.func93.trans (congrArg some (by kernel_rfl))
  t0 := Tryd.underlying0
  a0 := Tryd.isAgg0
  z0 := Tryd.sizeOf0
  v0 := Tryd.zeroValue0
  t2 := Tryd.underlying2
  a2 := Tryd.isAgg2
  z2 := Tryd.sizeOf2
  v2 := Tryd.zeroValue2
  t3 := Tryd.underlying3
  a3 := Tryd.isAgg3
  z3 := Tryd.sizeOf3
  v3 := Tryd.zeroValue3
  t4 := Tryd.underlying4
  a4 := Tryd.isAgg4
  z4 := Tryd.sizeOf4
  v4 := Tryd.zeroValue4
  t5 := Tryd.underlying5
  a5 := Tryd.isAgg5
  z5 := Tryd.sizeOf5
  v5 := Tryd.zeroValue5
  t9 := Tryd.underlying9
  a9 := Tryd.isAgg9
  z9 := Tryd.sizeOf9
  v9 := Tryd.zeroValue9
  t20 := Tryd.underlying20
  a20 := Tryd.isAgg20
  z20 := Tryd.sizeOf20
  v20 := Tryd.zeroValue20
  t37 := Tryd.underlying64
  a37 := Tryd.isAgg64
  z37 := Tryd.sizeOf64
  v37 := Tryd.zeroValue64
  t46 := Tryd.underlying100
  a46 := Tryd.isAgg100
  z46 := Tryd.sizeOf100
  v46 := Tryd.zeroValue100
  t51 := Tryd.underlying42
  a51 := Tryd.isAgg42
  z51 := Tryd.sizeOf42
  v51 := Tryd.zeroValue42
  t53 := Tryd.underlying22
  a53 := Tryd.isAgg22
  z53 := Tryd.sizeOf22
  v53 := Tryd.zeroValue22
  t171 := Tryd.underlying128
  a171 := Tryd.isAgg128
  z171 := Tryd.sizeOf128
  v171 := Tryd.zeroValue128
  t173 := Tryd.underlying131
  a173 := Tryd.isAgg131
  z173 := Tryd.sizeOf131
  v173 := Tryd.zeroValue131
  t212 := Tryd.underlying139
  a212 := Tryd.isAgg139
  z212 := Tryd.sizeOf139
  v212 := Tryd.zeroValue139
  t213 := Tryd.underlying140
  a213 := Tryd.isAgg140
  z213 := Tryd.sizeOf140
  t232 := Tryd.underlying153
  a232 := Tryd.isAgg153
  z232 := Tryd.sizeOf153
  v232 := Tryd.zeroValue153
  t233 := Tryd.underlying154
  a233 := Tryd.isAgg154
  z233 := Tryd.sizeOf154
  v233 := Tryd.zeroValue154
  g17 := by kernel_rfl
  g18 := by kernel_rfl
  g19 := by kernel_rfl }
open Go.RowKit Go.Sort Go.Lib in
/-- THE ROAD WITHOUT THE TABLE: 0 <= i < 100: NO PREMISE ON THE WORLD, AND THE WORLD IS AS IT WAS: a row that keeps its argument in that range need list no table ('laid = []'). (LAID: no walk: one application.) -/
theorem Tryd.strconv_Itoa_small (i : Nat) (hi : i < 100) (w : World) :
    Calls Tryd.prog 51 #[.int .i64 i] w fun e w' => e = .returned (.string ⟨(Lib.decDigits i).toArray⟩) ∧ w' = w := Any.strconv_Itoa_small Tryd.lays171 i hi w
end Go.Proofs

-- T7
namespace Go.Proofs.YtgpmkbmobdbdoaaDoor.Q
open Go.RowKit Go.Proofs.YtgpmkbmobdbdoaaDoorW.PrintWords Go.Proofs.YtgpmkbmobdbdoaaDoorW.PrintLast Go.Proofs.YtgpmkbmobdbdoaaDoorW.PrintMore
set_option linter.unusedVariables false
set_option linter.unusedSimpArgs false

def nib (t : Int) (j : Nat) : Nat := (bits .and .u32 (t / 2 ^ (28 - 4 * j)) 15).toNat
def hexd (n : Nat) : UInt8 := if n < 10 then UInt8.ofNat (48 + n) else UInt8.ofNat (87 + n)
theorem bits_and15 (x : Int) : 0 ≤ bits .and .u32 x 15 ∧ bits .and .u32 x 15 < 16 := by
  refine ⟨(bits32_range _ _ _).1, ?_⟩
  have : ∀ n : Int, IntKind.u32.wrap n = n % 4294967296 := fun n => by simp [IntKind.wrap, IntKind.bits, IntKind.signed]
  unfold bits
  rw [this]
  simp only
  have h : (BitVec.ofInt IntKind.u32.bits x &&& BitVec.ofInt IntKind.u32.bits 15).toNat ≤ 15 := by
    rw [BitVec.toNat_and]
    exact Nat.and_le_right
  omega
theorem nib_lt (t : Int) (j : Nat) : nib t j < 16 := by have := bits_and15 (t / 2 ^ (28 - 4 * j)); unfold nib; omega
theorem hexd_get (n : Nat) (h : n < 16) : ∀ hn, ((⟨#[48, 49, 50, 51, 52, 53, 54, 55, 56, 57, 97, 98, 99, 100, 101, 102]⟩ : ByteArray)[n]'hn) = hexd n := by
  intro hn
  rcases n with _ | _ | _ | _ | _ | _ | _ | _ | _ | _ | _ | _ | _ | _ | _ | _ | n <;> first | rfl | omega
def tagText (t : Int) : ByteArray := ⟨#[hexd (nib t 0), hexd (nib t 1), hexd (nib t 2), hexd (nib t 3), hexd (nib t 4), hexd (nib t 5), hexd (nib t 6), hexd (nib t 7)]⟩

set_option maxHeartbeats 2000000 in
set_option maxRecDepth 100000 in
theorem tag_Text.walk (t : Int) (h0 : 0 ≤ t) (h1 : t < 4294967296) (w : World) :
    Calls Tryd.prog 50 #[.int .u32 t] w fun e w' => e = .returned (.string (tagText t)) ∧ Below w.heap.size w w' := by
  have HB0 : Below w.heap.size w w := Below.refl _ _
  go_enter Tryd.func50, Tryd.ntmps50
  go_wp2
  go_loopw [4, 5] (fun _ i wr => ∃ (k : Nat) (cs : Array Value), i = .int .i64 k ∧ k ≤ 8 ∧ Hid (cs.size = 8 ∧ ∀ j, j < k → cs[j]? = some (.int .u8 (hexd (nib t j)).toNat)) ∧ Hid (wr.heap[w.heap.size]? = some (.cells cs 122 (0, 0))) ∧ Hid (Below w.heap.size w wr)) (fun _ i _ => 8 - (intOf i).toNat)
  case atStart => exact ⟨0, #[.int .u8 0, .int .u8 0, .int .u8 0, .int .u8 0, .int .u8 0, .int .u8 0, .int .u8 0, .int .u8 0], rfl, by omega, ⟨rfl, fun j hj => absurd hj (Nat.not_lt_zero _)⟩, blk_new w _, HB0.alloc (Nat.le_refl _) _⟩
  case round =>
    obtain ⟨k, cs, rfl, hk, hs, hbk, hb⟩ := hrel
    by_cases hlt : k < 8
    · have r1 : (0 : Int) ≤ 28 - 4 * k := by omega
      have r2 : (28 : Int) - 4 * k ≤ 32 := by omega
      have r3 := (bits_and15 (t / 2 ^ (28 - 4 * k))).1
      have r4 := (bits_and15 (t / 2 ^ (28 - 4 * k))).2
      obtain ⟨y, hy⟩ : ∃ y, wr.cell? ⟨w.heap.size, k, none⟩ = some y := by
        rw [blk_cell hbk.out]; exact ⟨_, Array.getElem?_eq_getElem (by have := hs.out.1; omega)⟩
      have hf := blk_frozen hbk.out k
      have HB2 := fun v => Lib.hid (blk_set hbk.out k v)
      have HS2 : Hid ((cs.setIfInBounds k (.int .u8 (hexd (nib t k)).toNat)).size = 8 ∧ ∀ j, j < k + 1 → (cs.setIfInBounds k (.int .u8 (hexd (nib t k)).toNat))[j]? = some (.int .u8 (hexd (nib t j)).toNat)) := by
        refine ⟨by simpa using hs.out.1, fun j hj => ?_⟩
        rw [Array.getElem?_setIfInBounds]
        by_cases e : j = k
        · subst e; rw [if_pos rfl, if_pos (by have := hs.out.1; omega)]
        · rw [if_neg (by omega)]; exact hs.out.2 j (by omega)
      go_wp2
      go_roundw
      case rel =>
        refine ⟨k + 1, _, by go_num, by omega, HS2, ?_, hb.out.setCell (Nat.le_refl _) _⟩
        have hg := hexd_get (nib t k) (nib_lt t k)
        unfold nib at hg
        rw [hg]
        exact HB2 _
      case measure => simp [intOf]; omega
    · obtain rfl : k = 8 := by omega
      have hc : ∀ j : Nat, j < 8 → wr.cell? ⟨w.heap.size, j, none⟩ = some (.int .u8 (hexd (nib t j)).toNat) := fun j hj => (blk_cell hbk.out j).trans (hs.out.2 j hj)
      have c0 := hc 0 (by omega); have c1 := hc 1 (by omega); have c2 := hc 2 (by omega); have c3 := hc 3 (by omega)
      have c4 := hc 4 (by omega); have c5 := hc 5 (by omega); have c6 := hc 6 (by omega); have c7 := hc 7 (by omega)
      have hcv := run_convert_bytes_back (P := Tryd.prog) wr 64 9 5 ⟨w.heap.size, 0, none⟩ 8 (tagText t).data.toList Tryd.underlying64 Tryd.underlying5 Tryd.underlying9 (fun i hi => by
        have hi8 : i < 8 := by simpa [tagText] using hi
        have e0 : (Addr.add ⟨w.heap.size, 0, none⟩ i) = ⟨w.heap.size, i, none⟩ := by unfold Addr.add; split <;> simp_all
        first | (rw [e0, hc i hi8]) | skip
        rcases i with _ | _ | _ | _ | _ | _ | _ | _ | i <;> first | rfl | omega)
      have hl : (tagText t).data.toList.length = 8 := rfl
      rw [hl] at hcv
      have HCV := Lib.hid hcv
      clear hc hcv hl c0 c1 c2 c3 c4 c5 c6 c7
      go_wp2
      rw [HCV.out]
      go_wp2
      go_ret
      exact ⟨rfl, hb.out⟩
end Go.Proofs.YtgpmkbmobdbdoaaDoor.Q

-- T8
namespace Go.Proofs.YtgpmkbmobdbdoaaDoor.Q
open Go.RowKit Go.Proofs.YtgpmkbmobdbdoaaDoorW.PrintWords Go.Proofs.YtgpmkbmobdbdoaaDoorW.PrintLast Go.Proofs.YtgpmkbmobdbdoaaDoorW.PrintMore
set_option linter.unusedVariables false
set_option linter.unusedSimpArgs false

def tagOf (s : ByteArray) : Int := tagMore 0 s
theorem tag_Of.walk (s : ByteArray) (hs : s.size ≤ 9223372036854775807) (w : World) :
    Calls Tryd.prog 41 #[.string s] w fun e w' => e = .returned (.int .u32 (tagOf s)) ∧ Below w.heap.size w w' := by
  go_enter Tryd.func41, Tryd.ntmps41
  go_wp2_with (go_at_call 48; refine (tag_More.walk 0 s hs _).mono ?_; rintro e w1 ⟨rfl, hb⟩; have HB := Lib.hid hb; clear hb)
  go_ret
  exact ⟨rfl, HB.out⟩

def tagOct (t : Int) : ByteArray := strOfNums [(t / 16777216) % 256, (t / 65536) % 256, (t / 256) % 256, t % 256]
def manyRun (l : List Int) : Int := l.foldl (fun c t => tagMore c (tagOct t)) 0
def manyText (l : List Int) : ByteArray := tagText (manyRun l) ++ ⟨#[45]⟩ ++ ⟨(Lib.decDigits l.length).toArray⟩
theorem tagMore_range (t : Int) (s : ByteArray) : 0 ≤ tagMore t s ∧ tagMore t s < 4294967296 := tagNot_range _
theorem tagOct_size (t : Int) : (tagOct t).size = 4 := rfl
theorem manyRun_range (l : List Int) : 0 ≤ manyRun l ∧ manyRun l < 4294967296 := by
  rcases List.eq_nil_or_concat l with rfl | ⟨l', x, rfl⟩
  · exact ⟨by decide, by decide⟩
  · unfold manyRun; rw [List.concat_eq_append, List.foldl_append]; exact tagMore_range _ _
theorem manyRun_snoc (l : List Int) (k : Nat) (h : k < l.length) : manyRun (l.take (k + 1)) = tagMore (manyRun (l.take k)) (tagOct (rd l k)) := by
  rw [List.take_succ_eq_append_getElem h]
  unfold manyRun
  rw [List.foldl_append]
  have : rd l k = l[k] := by unfold rd; simp [List.getD_eq_getElem?_getD, h]
  rw [this]; rfl

theorem dec_len (n : Nat) (h : n < 100) : (Lib.decDigits n).length ≤ 2 := by
  by_cases h1 : n < 10
  · rw [Lib.decDigits_one h1]; simp
  · rw [Lib.decDigits_two h1 h]; simp
set_option maxHeartbeats 2000000 in
set_option maxRecDepth 100000 in
theorem tag_Many.walk (l : List Int) (c : Nat) (w : World) (A : Option Addr) (h0 : 0 < l.length) (h1 : l.length < 100) (hr : Kd.C (Kd.int .u32) w A l.length l) :
    Calls Tryd.prog 28 #[.slice A l.length c] w fun e w' => e = .returned (.tuple #[.string (manyText l), .int .i64 0]) ∧ Below w.heap.size w w' := by
  obtain ⟨ad, rfl, _⟩ := Kd.at_int hr 0 (by omega) (by omega)
  have HR := Lib.hid hr; clear hr
  have e1 : ((l.length : Int) == 0) = false := beq_eq_false_iff_ne.2 (by omega)
  have e2 : decide ((100 : Int) < l.length) = false := by simp; omega
  have HB0 : Hid (Below w.heap.size w w) := Below.refl _ _
  go_enter Tryd.func28, Tryd.ntmps28
  go_wp2
  go_loopw [4, 6, 17] (fun c _ i wr => ∃ (k : Nat) (x : Int), i = .int .i64 k ∧ k ≤ l.length ∧ c = .int .u32 x ∧ Hid (manyRun (l.take k) = x) ∧ Hid (Below w.heap.size w wr)) (fun _ _ i _ => l.length - (intOf i).toNat)
  case atStart => exact ⟨0, 0, rfl, Nat.zero_le _, rfl, rfl, HB0⟩
  case round =>
    obtain ⟨k, x, rfl, hk, rfl, hx, hb⟩ := hrel
    by_cases hlt : k < l.length
    · obtain ⟨ad', e', hc⟩ := Kd.at_int HR.out k (by omega) (by omega)
      obtain rfl : ad = ad' := by injection e'
      rw [Int.toNat_natCast] at hc
      have hc' := (hb.out.cell (World.block_lt_of_cell? w _ hc)).trans hc
      have HN := Lib.hid ((manyRun_snoc l k hlt).trans (by rw [hx.out]))
      clear hc e'
      generalize hy : rd l k = y at *
      have HO := Lib.hid (show tag_octets.f y = some (tagOct y) from rfl)
      have hz := tagOct_size y
      go_wp2_with (first | (go_at_call 49; refine (tag_octets.calls y _ _ HO.out).mono ?_; rintro e w1 ⟨rfl, hb1⟩; have HB1 := Lib.hid hb1; clear hb1) | (go_at_call 48; refine (tag_More.walk x (tagOct y) (by rw [tagOct_size]; omega) _).mono ?_; rintro e w2 ⟨rfl, hb2⟩; have HB2 := Lib.hid hb2; clear hb2))
      go_roundw
      case rel => exact ⟨k + 1, _, by go_num, by omega, rfl, HN, (hb.out.trans (HB1.out.mono hb.out.size)).trans (HB2.out.mono (Nat.le_trans hb.out.size HB1.out.size))⟩
      case measure => simp [intOf]; omega
    · obtain rfl : k = l.length := by omega
      have hx' := hx.out
      rw [List.take_of_length_le (Nat.le_refl _)] at hx'
      have r1 := (manyRun_range l).1
      have r2 := (manyRun_range l).2
      have HX := Lib.hid hx'
      rw [hx'] at r1 r2
      clear hx'
      have s1 : (tagText x).size ≤ 8 := Nat.le_refl _
      have s2 : (Lib.decDigits l.length).length ≤ 2 := dec_len _ h1
      go_wp2_with (first | (go_at_call 50; refine (tag_Text.walk x r1 r2 _).mono ?_; rintro e w1 ⟨rfl, hb1⟩; have HB1 := Lib.hid hb1; clear hb1) | (go_at_call 51; refine (Tryd.strconv_Itoa_small l.length h1 _).mono ?_; rintro e w2 ⟨rfl, rfl⟩))
      go_ret2
      exact ⟨by unfold manyText; rw [HX.out]; rfl, hb.out.trans (HB1.out.mono hb.out.size)⟩
end Go.Proofs.YtgpmkbmobdbdoaaDoor.Q

-- Rx0
namespace Go.Proofs.YtgpmkbmobdbdoaaDoor.Q
open Go.RowKit Go.Proofs.YtgpmkbmobdbdoaaDoorW.PrintWords Go.Proofs.YtgpmkbmobdbdoaaDoorW.PrintLast Go.Proofs.YtgpmkbmobdbdoaaDoorW.PrintMore
attribute [local go_sem] max2_int min2_int max_two min_two max_three min_three max_four min_four   -- for this text's walks alone
set_option linter.unusedVariables false
set_option linter.unusedSimpArgs false

end Go.Proofs.YtgpmkbmobdbdoaaDoor.Q
