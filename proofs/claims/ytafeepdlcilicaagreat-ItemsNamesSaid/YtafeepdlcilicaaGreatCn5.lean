/- The law ItemsNames of the seat: the names of items are said once. Part 26 of 26. -/
import Derived.Test.YtafeepdlcilicaaGreatCn4
import Derived.Test.YtafeepdlcilicaaGreatCn3
import Derived.Test.YtafeepdlcilicaaGreatCn2
import Derived.Test.YtafeepdlcilicaaGreatRows
import Derived.WalkKit
import Derived.ProofKit
import Derived.OpenShut
import Derived.ShutString
import Derived.ChangeOld
import Derived.Below
import Derived.SizedLaws
-- Ru
namespace Go.Proofs.YtafeepdlcilicaaGreat.Q
open Go.RowKit Go.Proofs.YtafeepdlcilicaaGreatW.PrintWords Go.Proofs.YtafeepdlcilicaaGreatW.PrintLast Go.Proofs.YtafeepdlcilicaaGreatW.PrintMore
attribute [local go_sem] max2_int min2_int max_two min_two max_three min_three max_four min_four
set_option linter.unusedVariables false
set_option linter.unusedSimpArgs false

/-! ### items_uploads: function 17 -/
mutual
def items_uploads.l0 : Nat → List (S43) → List (S41) → Int → Int → ByteArray → Int → List (S38) → List (S41) → Int → Option ((List (S43)))
 | 0, _, _, _, _, _, _, _, _, _ => none
 | k + 1, x3, x10, x11, x12, x219000, x219001, x219002, x219003, x219004 => if x12 < x11 then (if 0 ≤ x12 then (if x12 < (x10.length : Int) then (if x219000.size + 1 ≤ 9223372036854775807 then ((wire_Num.f k ((rd_T41 x10 x12).f0)).bind fun t221 => (if (x219000 ++ (⟨#[10]⟩ : ByteArray)).size + t221.size ≤ 9223372036854775807 then (if 1 + ((x219000 ++ (⟨#[10]⟩ : ByteArray)) ++ t221).size ≤ 9223372036854775807 then ((items_val.f (([(rd_T41 x10 x12).f1] : List ByteArray))).bind fun t225 => (if x3.length < 4398046511104 then (items_uploads.l1 k (x3 ++ [(⟨(⟨#[117]⟩ : ByteArray) ++ ((x219000 ++ (⟨#[10]⟩ : ByteArray)) ++ t221), t225⟩ : S43)]) ((x219000 ++ (⟨#[10]⟩ : ByteArray)) ++ t221) x10 x11 x12 ((rd_T41 x10 x12).f2) (((rd_T41 x10 x12).f2).length : Int) 0 x219000 x219001 x219002 x219003 x219004) else (none))) else (none)) else (none))) else (none)) else (none)) else (none)) else (some x3)
def items_uploads.l1 : Nat → List (S43) → ByteArray → List (S41) → Int → Int → List (S82) → Int → Int → ByteArray → Int → List (S38) → List (S41) → Int → Option ((List (S43)))
 | 0, _, _, _, _, _, _, _, _, _, _, _, _, _ => none
 | k + 1, x3, x6, x10, x11, x12, x34, x35, x36, x219000, x219001, x219002, x219003, x219004 => if x36 < x35 then (if 0 ≤ x36 then (if x36 < (x34.length : Int) then (if 1 + x6.size ≤ 9223372036854775807 then ((items_num.f k ((rd_T82 x34 x36).f0)).bind fun t231 => (if ((⟨#[112]⟩ : ByteArray) ++ x6).size + t231.size ≤ 9223372036854775807 then ((items_val.f (([(rd_T82 x34 x36).f1] : List ByteArray))).bind fun t235 => (if x3.length < 4398046511104 then (items_uploads.l1 k (x3 ++ [(⟨((⟨#[112]⟩ : ByteArray) ++ x6) ++ t231, t235⟩ : S43)]) x6 x10 x11 x12 x34 x35 (wrap64 (x36 + 1)) x219000 x219001 x219002 x219003 x219004) else (none))) else (none))) else (none)) else (none)) else (none)) else (items_uploads.l0 k x3 x10 x11 (wrap64 (x12 + 1)) x219000 x219001 x219002 x219003 x219004)
end
def items_uploads.f (k : Nat) (a0_0 : ByteArray) (a0_1 : Int) (l0_2 : List (S38)) (l0_3 : List (S41)) (a0_4 : Int) : Option ((List (S43))) := items_uploads.l0 k ([] : List (S43)) l0_3 (l0_3.length : Int) 0 a0_0 a0_1 l0_2 l0_3 a0_4
theorem items_uploads.mono_l : ∀ k, (∀ y0 y1 y2 y3 y4 y5 y6 y7 y8, LeO (items_uploads.l0 k y0 y1 y2 y3 y4 y5 y6 y7 y8) (items_uploads.l0 (k + 1) y0 y1 y2 y3 y4 y5 y6 y7 y8)) ∧ (∀ y0 y1 y2 y3 y4 y5 y6 y7 y8 y9 y10 y11 y12, LeO (items_uploads.l1 k y0 y1 y2 y3 y4 y5 y6 y7 y8 y9 y10 y11 y12) (items_uploads.l1 (k + 1) y0 y1 y2 y3 y4 y5 y6 y7 y8 y9 y10 y11 y12))
 | 0 => ⟨fun _ _ _ _ _ _ _ _ _ r h => by simp [items_uploads.l0] at h, fun _ _ _ _ _ _ _ _ _ _ _ _ _ r h => by simp [items_uploads.l1] at h⟩
 | k + 1 => by
  obtain ⟨ih0, ih1⟩ := items_uploads.mono_l k
  refine ⟨?_, ?_⟩
  ·intro y0 y1 y2 y3 y4 y5 y6 y7 y8
   unfold items_uploads.l0
   repeat' first
   | (with_reducible exact ih0 _ _ _ _ _ _ _ _ _)
   | (with_reducible exact ih1 _ _ _ _ _ _ _ _ _ _ _ _ _)
   | (with_reducible exact items_num.mono _ _)
   | (with_reducible exact wire_Num.mono _ _)
   | (with_reducible exact LeO.refl _)
   | (with_reducible exact LeO.none _)
   | (with_reducible refine LeO.ite ?_ ?_)
   | (with_reducible refine LeO.bind ?_ (fun _ => ?_))
   | exact ih0 _ _ _ _ _ _ _ _ _
   | exact ih1 _ _ _ _ _ _ _ _ _ _ _ _ _
   | exact items_num.mono _ _
   | exact wire_Num.mono _ _
   | exact LeO.none _
   | refine LeO.ite ?_ ?_
   | refine LeO.bind ?_ (fun _ => ?_)
  ·intro y0 y1 y2 y3 y4 y5 y6 y7 y8 y9 y10 y11 y12
   unfold items_uploads.l1
   repeat' first
   | (with_reducible exact ih0 _ _ _ _ _ _ _ _ _)
   | (with_reducible exact ih1 _ _ _ _ _ _ _ _ _ _ _ _ _)
   | (with_reducible exact items_num.mono _ _)
   | (with_reducible exact wire_Num.mono _ _)
   | (with_reducible exact LeO.refl _)
   | (with_reducible exact LeO.none _)
   | (with_reducible refine LeO.ite ?_ ?_)
   | (with_reducible refine LeO.bind ?_ (fun _ => ?_))
   | exact ih0 _ _ _ _ _ _ _ _ _
   | exact ih1 _ _ _ _ _ _ _ _ _ _ _ _ _
   | exact items_num.mono _ _
   | exact wire_Num.mono _ _
   | exact LeO.none _
   | refine LeO.ite ?_ ?_
   | refine LeO.bind ?_ (fun _ => ?_)
theorem items_uploads.mono : ∀ a0 a1 a2 a3 a4 k, LeO (items_uploads.f k a0 a1 a2 a3 a4) (items_uploads.f (k + 1) a0 a1 a2 a3 a4) := by
 intro a0 a1 a2 a3 a4 k
 obtain ⟨ih0, ih1⟩ := items_uploads.mono_l k
 unfold items_uploads.f
 repeat' first
   | (with_reducible exact ih0 _ _ _ _ _ _ _ _ _)
   | (with_reducible exact ih1 _ _ _ _ _ _ _ _ _ _ _ _ _)
   | (with_reducible exact items_num.mono _ _)
   | (with_reducible exact wire_Num.mono _ _)
   | (with_reducible exact LeO.refl _)
   | (with_reducible exact LeO.none _)
   | (with_reducible refine LeO.ite ?_ ?_)
   | (with_reducible refine LeO.bind ?_ (fun _ => ?_))
   | exact ih0 _ _ _ _ _ _ _ _ _
   | exact ih1 _ _ _ _ _ _ _ _ _ _ _ _ _
   | exact items_num.mono _ _
   | exact wire_Num.mono _ _
   | exact LeO.none _
   | refine LeO.ite ?_ ?_
   | refine LeO.bind ?_ (fun _ => ?_)
def items_uploads.T5 : Bool × List (List Nat × List Nat) := (true, [([], []), ([0], [0]), ([1], [1]), ([], []), ([3], [3]), ([4], [4]), ([2, 5], [2, 5]), ([6, 5, 0, 1, 2, 3, 4, 5, 6], [6])])
def items_uploads.B5 : List Nat := [0, 1, 3, 0, 8, 24, 63, 127]
theorem items_uploads.tab5 : rtab .any (opsOf Tryz.f17 5) = items_uploads.T5 := by kernel_rfl
theorem items_uploads.bits5 : waitsOk items_uploads.T5.2 items_uploads.B5 = true := by kernel_rfl
def items_uploads.T10 : Bool × List (List Nat × List Nat) := (true, [([], []), ([], []), ([1], [1]), ([], []), ([3], [3]), ([4], [4]), ([2, 5], [2, 5]), ([], []), ([7], [7]), ([8], [8]), ([9, 5], [9]), ([6, 10], [6, 10]), ([11], [11]), ([0, 12, 10], [0, 12]), ([13, 13, 0, 1, 2, 3, 4, 5, 6, 7, 8, 9, 10, 11, 12, 13], [0, 13])])
def items_uploads.B10 : List Nat := [0, 0, 2, 0, 8, 24, 62, 0, 128, 384, 952, 2046, 4094, 8191, 16383]
theorem items_uploads.tab10 : rtab .any (opsOf Tryz.f17 10) = items_uploads.T10 := by kernel_rfl
theorem items_uploads.bits10 : waitsOk items_uploads.T10.2 items_uploads.B10 = true := by kernel_rfl
set_option maxHeartbeats 8000000 in
set_option maxRecDepth 100000 in
theorem items_uploads.calls (k : Nat) (a0_0 : ByteArray) (a0_1 : Int) (A0_2 : Option Addr) (c0_2 : Nat) (l0_2 : List (S38)) (A0_3 : Option Addr) (c0_3 : Nat) (l0_3 : List (S41)) (a0_4 : Int) (r : List (S43)) (w : World) (hr0_2 : Kd.C k38 w A0_2 l0_2.length l0_2) (hc0_2 : l0_2.length ≤ c0_2) (hr0_3 : Kd.C k41 w A0_3 l0_3.length l0_3) (hc0_3 : l0_3.length ≤ c0_3) (h : items_uploads.f k a0_0 a0_1 l0_2 l0_3 a0_4 = some r) :
  Calls Tryz.prog 17 #[.agg #[.string a0_0, .int .i64 a0_1, .slice A0_2 l0_2.length c0_2, .slice A0_3 l0_3.length c0_3, .int .u64 a0_4]] w fun e w' => ∃ v0_ : Value, e = .returned (v0_) ∧ Kd.R k43 43 w' w.heap.size (fun _ => True) v0_ r ∧ Below w.heap.size w w' := by
 have hu35 := Tryz.underlying35
 have hu41 := Tryz.underlying41
 have hu43 := Tryz.underlying43
 have hu82 := Tryz.underlying82
 have HR0_2 := Aside0.mk hr0_2
 have HC0_2 := Aside0.mk hc0_2
 clear hr0_2 hc0_2
 have HR0_3 := Aside0.mk hr0_3
 have HC0_3 := Aside0.mk hc0_3
 clear hr0_3 hc0_3
 have HB := Aside0.mk (Below.refl w.heap.size w)
 have H : (items_uploads.l0 k ([] : List (S43)) l0_3 (l0_3.length : Int) 0 a0_0 a0_1 l0_2 l0_3 a0_4) = some r := h
 clear h
 have H' := Aside0.mk H
 clear H
 go_enter Tryz.func17, Tryz.ntmps17
 go_wp2_with (first | ((with_reducible refine gate_dst (N := 1) rfl ?_); refine box_event ?hg (N := 1) ?hd (cs := #[.string a0_0, .int .i64 a0_1, .slice A0_2 l0_2.length c0_2, .slice A0_3 l0_3.length c0_3, .int .u64 a0_4]) (t := 35) ?hr ?_; (case hd => rfl); (case hg => rfl); (case hr => first | (go_simp; done) | (go_simp; rfl)); intro gb218 hg w2 hbox hb; have n0_ := Aside0.mk (below_step (by repeat (first | (with_reducible first | exact HB.out | apply below_alloc | apply pw_below_drewN | apply below_drew1) | exact HB.out)) hb); have n1_ := Aside0.mk (hbox); have n2_ := Aside0.mk ((by rw [hg]; exact (below_size (by repeat (first | (with_reducible first | exact HB.out | apply below_alloc | apply pw_below_drewN | apply below_drew1) | exact HB.out))) : w.heap.size ≤ gb218)); have n3_ := Aside0.mk ((by rw [hg]; exact (below_size (by repeat (first | (with_reducible first | exact HB.out | apply below_alloc | apply pw_below_drewN | apply below_drew1) | exact HB.out))) : w.heap.size ≤ gb218)); clear HB; have HB := n0_; have BK218 := n1_; have GW218 := n2_; have GE218 := n3_; clear n0_ n1_ n2_ n3_; clear hb hbox hg; have hcz3_0 : w2.cell? ⟨gb218, 0, none⟩ = some (.string a0_0) := (blk_cell BK218.out 0).trans rfl; have hcz3_1 : w2.cell? ⟨gb218, 1, none⟩ = some (.int .i64 a0_1) := (blk_cell BK218.out 1).trans rfl; have hcz3_2 : w2.cell? ⟨gb218, 2, none⟩ = some (.slice A0_2 l0_2.length c0_2) := (blk_cell BK218.out 2).trans rfl; have hcz3_3 : w2.cell? ⟨gb218, 3, none⟩ = some (.slice A0_3 l0_3.length c0_3) := (blk_cell BK218.out 3).trans rfl; have hcz3_4 : w2.cell? ⟨gb218, 4, none⟩ = some (.int .u64 a0_4) := (blk_cell BK218.out 4).trans rfl; have hfz3_0 := blk_frozen BK218.out 0; have hfz3_1 := blk_frozen BK218.out 1; have hfz3_2 := blk_frozen BK218.out 2; have hfz3_3 := blk_frozen BK218.out 3; have hfz3_4 := blk_frozen BK218.out 4))
 go_loopg [3, 12] k (fun kq v3 v12 w' => ∃ (x3_1 : List (S43)) (x12_1 : Int), v12 = .int .i64 x12_1 ∧ Aside0 (items_uploads.l0 kq x3_1 l0_3 (l0_3.length : Int) x12_1 a0_0 a0_1 l0_2 l0_3 a0_4 = some r) ∧ Aside0 (kq ≤ k) ∧ Aside0 (Kd.R k43 43 w' w.heap.size (fun _ => True) v3 x3_1) ∧ Aside0 (w'.heap[gb218]? = some (.cells #[.string a0_0, .int .i64 a0_1, (.slice A0_2 l0_2.length c0_2), (.slice A0_3 l0_3.length c0_3), .int .u64 a0_4] 35 (0, 0))) ∧ Aside0 (Below w.heap.size w w'))
 case atStart => exact ⟨(([] : List (S43))), (0), (by first | rfl | (simp; done) | (simp [*]; done)), H', ⟨Nat.le_refl _⟩, ⟨by first | exact Kd.R_nil _ _ _ _ _ | exact Kd.N_nil _ _ _ _ _ | exact Kd.V_nil _ _ _ _ _ | exact Kd.Q_nil _ _ _ _ _ | exact Kd.S_nil _ _ _ _ _⟩, ⟨by (with_reducible repeat (first | refine blk_drewN ?_ _ | refine blk_drew ?_ | refine blk_alloc ?_ _)); exact BK218.out⟩, ⟨by repeat (first | (with_reducible first | exact HB.out | apply below_alloc | apply pw_below_drewN | apply below_drew1 | refine below_set ?_ GE218.out) | exact HB.out)⟩⟩
 case round =>
  clear H'
  try clear c1
  try clear p2
  try clear hcz3_0
  try clear hcz3_1
  try clear hcz3_2
  try clear hcz3_3
  try clear hcz3_4
  try clear hfz3_0
  try clear hfz3_1
  try clear hfz3_2
  try clear hfz3_3
  try clear hfz3_4
  obtain ⟨x3_1, x12_1, rfl, HA, HK1, HO_3, BK218, HB⟩ := hrel
  cases gk with
  | zero => exact absurd HA.out (by simp [items_uploads.l0])
  | succ k1 =>
   have H := HA.out
   clear HA
   simp only [items_uploads.l0] at H
   by_cases c4 : x12_1 < (l0_3.length : Int)
   ·rw [if_pos c4] at H
    have c4b0 : decide (x12_1 < (l0_3.length : Int)) = true := decide_eq_true c4
    clear c4
    by_cases c5 : 0 ≤ x12_1
    ·rw [if_pos c5] at H
     have c5b0 : decide (0 ≤ x12_1) = true := decide_eq_true c5
     clear c5
     by_cases c6 : x12_1 < (l0_3.length : Int)
     ·rw [if_pos c6] at H
      have c6b0 : decide (x12_1 < (l0_3.length : Int)) = true := decide_eq_true c6
      clear c6
      by_cases c7 : a0_0.size + 1 ≤ 9223372036854775807
      ·rw [if_pos c7] at H
       have c7b0 := eq_true c7
       have c7b1 : decide (a0_0.size + 1 ≤ 9223372036854775807) = true := decide_eq_true c7
       try have c7b2 : (9223372036854775807 < a0_0.size + 1) = False := eq_false (Nat.not_lt.2 c7)
       try (have c7b3 := c7b2; simp only [ByteArray.size_append, sz10, sz98, sz112, sz116, sz117, sz118] at c7b3)
       replace H := Option.bind_eq_some_iff.mp H
       obtain ⟨t221, A80, H⟩ := H
       replace H : (if (a0_0 ++ (⟨#[10]⟩ : ByteArray)).size + t221.size ≤ 9223372036854775807 then (if 1 + ((a0_0 ++ (⟨#[10]⟩ : ByteArray)) ++ t221).size ≤ 9223372036854775807 then ((items_val.f (([(rd_T41 l0_3 x12_1).f1] : List ByteArray))).bind fun t225 => (if x3_1.length < 4398046511104 then (items_uploads.l1 k1 (x3_1 ++ [(⟨(⟨#[117]⟩ : ByteArray) ++ ((a0_0 ++ (⟨#[10]⟩ : ByteArray)) ++ t221), t225⟩ : S43)]) ((a0_0 ++ (⟨#[10]⟩ : ByteArray)) ++ t221) l0_3 (l0_3.length : Int) x12_1 ((rd_T41 l0_3 x12_1).f2) (((rd_T41 l0_3 x12_1).f2).length : Int) 0 a0_0 a0_1 l0_2 l0_3 a0_4) else (none))) else (none)) else (none)) = some r := H
       have A8 := Aside0.mk A80
       clear A80
       by_cases c9 : (a0_0 ++ (⟨#[10]⟩ : ByteArray)).size + t221.size ≤ 9223372036854775807
       ·rw [if_pos c9] at H
        have c9b0 := eq_true c9
        have c9b1 : decide ((a0_0 ++ (⟨#[10]⟩ : ByteArray)).size + t221.size ≤ 9223372036854775807) = true := decide_eq_true c9
        try have c9b2 : (9223372036854775807 < (a0_0 ++ (⟨#[10]⟩ : ByteArray)).size + t221.size) = False := eq_false (Nat.not_lt.2 c9)
        try (have c9b3 := c9b2; simp only [ByteArray.size_append, sz10, sz98, sz112, sz116, sz117, sz118] at c9b3)
        by_cases c10 : 1 + ((a0_0 ++ (⟨#[10]⟩ : ByteArray)) ++ t221).size ≤ 9223372036854775807
        ·rw [if_pos c10] at H
         have c10b0 := eq_true c10
         have c10b1 : decide (1 + ((a0_0 ++ (⟨#[10]⟩ : ByteArray)) ++ t221).size ≤ 9223372036854775807) = true := decide_eq_true c10
         try have c10b2 : (9223372036854775807 < 1 + ((a0_0 ++ (⟨#[10]⟩ : ByteArray)) ++ t221).size) = False := eq_false (Nat.not_lt.2 c10)
         try (have c10b3 := c10b2; simp only [ByteArray.size_append, sz10, sz98, sz112, sz116, sz117, sz118] at c10b3)
         obtain ⟨y222, hy222⟩ : ∃ y_ : List ByteArray, y_ = (([(rd_T41 l0_3 x12_1).f1] : List ByteArray)) := ⟨_, rfl⟩
         replace H : ((items_val.f y222).bind fun t225 => (if x3_1.length < 4398046511104 then (items_uploads.l1 k1 (x3_1 ++ [(⟨(⟨#[117]⟩ : ByteArray) ++ ((a0_0 ++ (⟨#[10]⟩ : ByteArray)) ++ t221), t225⟩ : S43)]) ((a0_0 ++ (⟨#[10]⟩ : ByteArray)) ++ t221) l0_3 (l0_3.length : Int) x12_1 ((rd_T41 l0_3 x12_1).f2) (((rd_T41 l0_3 x12_1).f2).length : Int) 0 a0_0 a0_1 l0_2 l0_3 a0_4) else (none))) = some r := by first | (rw [hy222]; with_reducible exact H) | (have H2_ := (Option.bind_some _ _).symm.trans H; rw [hy222]; with_reducible exact H2_) | (have H2_ := (Option.bind_some _ _).symm.trans H; with_reducible exact H2_) | with_reducible exact H | (rw [hy222]; exact H) | exact H
         have Ny222 := Aside0.mk hy222
         clear hy222
         replace H := Option.bind_eq_some_iff.mp H
         obtain ⟨t225, A110, H⟩ := H
         replace H : (if x3_1.length < 4398046511104 then (items_uploads.l1 k1 (x3_1 ++ [(⟨(⟨#[117]⟩ : ByteArray) ++ ((a0_0 ++ (⟨#[10]⟩ : ByteArray)) ++ t221), t225⟩ : S43)]) ((a0_0 ++ (⟨#[10]⟩ : ByteArray)) ++ t221) l0_3 (l0_3.length : Int) x12_1 ((rd_T41 l0_3 x12_1).f2) (((rd_T41 l0_3 x12_1).f2).length : Int) 0 a0_0 a0_1 l0_2 l0_3 a0_4) else (none)) = some r := H
         have A11 := Aside0.mk A110
         clear A110
         by_cases c12 : x3_1.length < 4398046511104
         ·rw [if_pos c12] at H
          have LMc12 := Aside0.mk c12
          clear c12
          obtain ⟨y226, hy226⟩ : ∃ y_ : List (S43), y_ = (x3_1 ++ [(⟨(⟨#[117]⟩ : ByteArray) ++ ((a0_0 ++ (⟨#[10]⟩ : ByteArray)) ++ t221), t225⟩ : S43)]) := ⟨_, rfl⟩
          replace H : (items_uploads.l1 k1 y226 ((a0_0 ++ (⟨#[10]⟩ : ByteArray)) ++ t221) l0_3 (l0_3.length : Int) x12_1 ((rd_T41 l0_3 x12_1).f2) (((rd_T41 l0_3 x12_1).f2).length : Int) 0 a0_0 a0_1 l0_2 l0_3 a0_4) = some r := by first | (rw [hy226]; with_reducible exact H) | (have H2_ := (Option.bind_some _ _).symm.trans H; rw [hy226]; with_reducible exact H2_) | (have H2_ := (Option.bind_some _ _).symm.trans H; with_reducible exact H2_) | with_reducible exact H | (rw [hy226]; exact H) | exact H
          have Ny226 := Aside0.mk hy226
          clear hy226
          have H' := Aside0.mk H
          clear H
          have p219 : 0 ≤ (x12_1 : Int) := of_decide_eq_true (by first | (with_reducible assumption) | assumption)
          have q219 : x12_1 < (l0_3.length : Int) := of_decide_eq_true (by first | (with_reducible assumption) | assumption)
          obtain ⟨ad219, A219_2, c219_2, e219, hx219_0, hx219_1, hx219_2, hl219_2, hi219_2⟩ := at_T41 HR0_3.out x12_1 p219 q219
          cases e219
          replace hx219_0 := (HB.out.cell (World.block_lt_of_cell? w _ hx219_0)).trans hx219_0
          replace hx219_1 := (HB.out.cell (World.block_lt_of_cell? w _ hx219_1)).trans hx219_1
          replace hx219_2 := (HB.out.cell (World.block_lt_of_cell? w _ hx219_2)).trans hx219_2
          have HR219_2 := Aside0.mk hi219_2
          have HC219_2 := Aside0.mk hl219_2
          clear hi219_2 hl219_2
          replace p219 := eq_true p219
          replace q219 := eq_true q219
          try go_wp2_with (first | ((with_reducible refine gate_dst (N := 5) rfl ?_); refine box_event ?hg (N := 5) ?hd (cs := #[.int .u64 0, .string (⟨#[]⟩ : ByteArray), .slice none 0 0]) (t := 41) ?hr ?_; (case hd => rfl); (case hg => rfl); (case hr => first | (go_simp; done) | (go_simp; rfl)); intro gb220 hg w13 hbox hb; have n0_ := Aside0.mk (Kd.R_below (by (with_reducible repeat (first | apply Kd.R_alloc | apply Kd.R_drewN | apply Kd.R_drew)); exact HO_3.out) hb); have n1_ := Aside0.mk (blk_below (g := gb218) (o := .cells #[.string a0_0, .int .i64 a0_1, .slice A0_2 l0_2.length c0_2, .slice (some ad219) l0_3.length c0_3, .int .u64 a0_4] 35 (0, 0)) (by (with_reducible repeat (first | refine blk_drewN ?_ _ | refine blk_drew ?_ | refine blk_alloc ?_ _)); exact BK218.out) hb); have n2_ := Aside0.mk (below_step (by repeat (first | (with_reducible first | exact HB.out | apply below_alloc | apply pw_below_drewN | apply below_drew1 | refine below_set ?_ GE218.out) | exact HB.out)) hb); have n3_ := Aside0.mk (hbox); have n4_ := Aside0.mk ((by rw [hg]; exact (below_size (by repeat (first | (with_reducible first | exact HB.out | apply below_alloc | apply pw_below_drewN | apply below_drew1 | refine below_set ?_ GE218.out) | exact HB.out))) : w.heap.size ≤ gb220)); have n5_ := Aside0.mk ((by rw [hg]; exact (below_size (by repeat (first | (with_reducible first | exact HB.out | apply below_alloc | apply pw_below_drewN | apply below_drew1 | refine below_set ?_ GE218.out) | exact HB.out))) : w.heap.size ≤ gb220)); have n6_ := Aside0.mk ((by rw [hg]; exact Nat.ne_of_lt (blk_lt (g := gb218) (o := .cells #[.string a0_0, .int .i64 a0_1, .slice A0_2 l0_2.length c0_2, .slice (some ad219) l0_3.length c0_3, .int .u64 a0_4] 35 (0, 0)) (by (with_reducible repeat (first | refine blk_drewN ?_ _ | refine blk_drew ?_ | refine blk_alloc ?_ _)); exact BK218.out)) : gb218 ≠ gb220)); have n7_ := Aside0.mk ((by rw [hg]; exact Nat.ne_of_gt (blk_lt (g := gb218) (o := .cells #[.string a0_0, .int .i64 a0_1, .slice A0_2 l0_2.length c0_2, .slice (some ad219) l0_3.length c0_3, .int .u64 a0_4] 35 (0, 0)) (by (with_reducible repeat (first | refine blk_drewN ?_ _ | refine blk_drew ?_ | refine blk_alloc ?_ _)); exact BK218.out)) : gb220 ≠ gb218)); clear HO_3; clear BK218; clear HB; have HO_3 := n0_; have BK218 := n1_; have HB := n2_; have BK220 := n3_; have GW220 := n4_; have GE220 := n5_; have NB218_220 := n6_; have NB220_218 := n7_; clear n0_ n1_ n2_ n3_ n4_ n5_ n6_ n7_; clear hb hbox hg; have hnb14 := NB220_218.out; have hnc14 := NB218_220.out; have hcz15_0 : w13.cell? ⟨gb220, 0, none⟩ = some (.int .u64 0) := (blk_cell BK220.out 0).trans rfl; have hcz15_1 : w13.cell? ⟨gb220, 1, none⟩ = some (.string (⟨#[]⟩ : ByteArray)) := (blk_cell BK220.out 1).trans rfl; have hcz15_2 : w13.cell? ⟨gb220, 2, none⟩ = some (.slice none 0 0) := (blk_cell BK220.out 2).trans rfl; have hfz15_0 := blk_frozen BK220.out 0; have hfz15_1 := blk_frozen BK220.out 1; have hfz15_2 := blk_frozen BK220.out 2))
          have n0_ : Aside0 (Kd.R k43 43 (((w13.setCell ⟨gb220, 0, none⟩ (.int .u64 ((rd_T41 l0_3 x12_1).f0))).setCell ⟨gb220, 1, none⟩ (.string ((rd_T41 l0_3 x12_1).f1))).setCell ⟨gb220, 2, none⟩ (.slice A219_2 ((rd_T41 l0_3 x12_1).f2).length c219_2)) w.heap.size (fun _ => True) u3 x3_1) := ⟨by (with_reducible repeat (first | apply Kd.R_alloc | apply Kd.R_drewN | apply Kd.R_drew)); exact Kd.R_mono (Kd.R_far (p := ⟨gb220, 2, none⟩) (Kd.R_far (p := ⟨gb220, 1, none⟩) (Kd.R_far (p := ⟨gb220, 0, none⟩) (Kd.R_types HO_3.out BK220.out (by decide)) (fun _ hk => hk.2) (.int .u64 ((rd_T41 l0_3 x12_1).f0))) (fun _ hk => hk.2) (.string ((rd_T41 l0_3 x12_1).f1))) (fun _ hk => hk.2) (.slice A219_2 ((rd_T41 l0_3 x12_1).f2).length c219_2)) (fun _ hk => trivial)⟩
          have n1_ : Aside0 ((((w13.setCell ⟨gb220, 0, none⟩ (.int .u64 ((rd_T41 l0_3 x12_1).f0))).setCell ⟨gb220, 1, none⟩ (.string ((rd_T41 l0_3 x12_1).f1))).setCell ⟨gb220, 2, none⟩ (.slice A219_2 ((rd_T41 l0_3 x12_1).f2).length c219_2)).heap[gb218]? = some (.cells #[.string a0_0, .int .i64 a0_1, .slice A0_2 l0_2.length c0_2, .slice (some ad219) l0_3.length c0_3, .int .u64 a0_4] 35 (0, 0))) := ⟨by (with_reducible repeat (first | refine blk_drewN ?_ _ | refine blk_drew ?_ | refine blk_alloc ?_ _)); refine blk_far ?_ NB218_220.out _; (with_reducible repeat (first | refine blk_drewN ?_ _ | refine blk_drew ?_ | refine blk_alloc ?_ _)); refine blk_far ?_ NB218_220.out _; (with_reducible repeat (first | refine blk_drewN ?_ _ | refine blk_drew ?_ | refine blk_alloc ?_ _)); refine blk_far ?_ NB218_220.out _; (with_reducible repeat (first | refine blk_drewN ?_ _ | refine blk_drew ?_ | refine blk_alloc ?_ _)); exact BK218.out⟩
          have n2_ : Aside0 ((((w13.setCell ⟨gb220, 0, none⟩ (.int .u64 ((rd_T41 l0_3 x12_1).f0))).setCell ⟨gb220, 1, none⟩ (.string ((rd_T41 l0_3 x12_1).f1))).setCell ⟨gb220, 2, none⟩ (.slice A219_2 ((rd_T41 l0_3 x12_1).f2).length c219_2)).heap[gb220]? = some (.cells #[.int .u64 ((rd_T41 l0_3 x12_1).f0), .string ((rd_T41 l0_3 x12_1).f1), .slice A219_2 ((rd_T41 l0_3 x12_1).f2).length c219_2] 41 (0, 0))) := ⟨by (with_reducible repeat (first | refine blk_drewN ?_ _ | refine blk_drew ?_ | refine blk_alloc ?_ _)); refine blk_put (cs := #[.int .u64 ((rd_T41 l0_3 x12_1).f0), .string ((rd_T41 l0_3 x12_1).f1), .slice none 0 0]) ?_ 2 _ rfl; (with_reducible repeat (first | refine blk_drewN ?_ _ | refine blk_drew ?_ | refine blk_alloc ?_ _)); refine blk_put (cs := #[.int .u64 ((rd_T41 l0_3 x12_1).f0), .string (⟨#[]⟩ : ByteArray), .slice none 0 0]) ?_ 1 _ rfl; (with_reducible repeat (first | refine blk_drewN ?_ _ | refine blk_drew ?_ | refine blk_alloc ?_ _)); refine blk_put (cs := #[.int .u64 0, .string (⟨#[]⟩ : ByteArray), .slice none 0 0]) ?_ 0 _ rfl; (with_reducible repeat (first | refine blk_drewN ?_ _ | refine blk_drew ?_ | refine blk_alloc ?_ _)); exact BK220.out⟩
          have n3_ : Aside0 (Below w.heap.size w (((w13.setCell ⟨gb220, 0, none⟩ (.int .u64 ((rd_T41 l0_3 x12_1).f0))).setCell ⟨gb220, 1, none⟩ (.string ((rd_T41 l0_3 x12_1).f1))).setCell ⟨gb220, 2, none⟩ (.slice A219_2 ((rd_T41 l0_3 x12_1).f2).length c219_2))) := ⟨by repeat (first | (with_reducible first | exact HB.out | apply below_alloc | apply pw_below_drewN | apply below_drew1 | refine below_set ?_ GE218.out | refine below_set ?_ GE220.out) | exact HB.out)⟩
          (try clear HO_3)
          (try clear BK218)
          (try clear BK220)
          (try clear HB)
          generalize (((w13.setCell ⟨gb220, 0, none⟩ (.int .u64 ((rd_T41 l0_3 x12_1).f0))).setCell ⟨gb220, 1, none⟩ (.string ((rd_T41 l0_3 x12_1).f1))).setCell ⟨gb220, 2, none⟩ (.slice A219_2 ((rd_T41 l0_3 x12_1).f2).length c219_2)) = w16 at n0_ n1_ n2_ n3_ ⊢
          have HO_3 := n0_
          have BK218 := n1_
          have BK220 := n2_
          have HB := n3_
          clear n0_ n1_ n2_ n3_
          have n0_ := Aside0.mk (Kd.R_drew HO_3.out)
          have n1_ := Aside0.mk (blk_drew BK218.out)
          have n2_ := Aside0.mk (blk_drew BK220.out)
          have n3_ := Aside0.mk (below_drew1 HB.out)
          clear HO_3
          clear BK218
          clear BK220
          clear HB
          have HO_3 := n0_
          have BK218 := n1_
          have BK220 := n2_
          have HB := n3_
          clear n0_ n1_ n2_ n3_
          refine start_ (n := 8) (S := fun w' => w'.cell? ⟨gb218, 0, none⟩ = some (.string a0_0) ∧ w'.cell? ⟨gb218, 1, none⟩ = some (.int .i64 a0_1) ∧ w'.cell? ⟨gb218, 2, none⟩ = some (.slice A0_2 l0_2.length c0_2) ∧ w'.cell? ⟨gb218, 3, none⟩ = some (.slice (some ad219) l0_3.length c0_3) ∧ w'.cell? ⟨gb218, 4, none⟩ = some (.int .u64 a0_4) ∧ w'.cell? ⟨gb220, 0, none⟩ = some (.int .u64 ((rd_T41 l0_3 x12_1).f0)) ∧ w'.cell? ⟨gb220, 1, none⟩ = some (.string ((rd_T41 l0_3 x12_1).f1)) ∧ w'.cell? ⟨gb220, 2, none⟩ = some (.slice A219_2 ((rd_T41 l0_3 x12_1).f2).length c219_2)) (ds := []) #[false, false, false, false, false, false, false, false] (by kernel_rfl) rfl rfl ⟨(blk_cell BK218.out 0).trans rfl, (blk_cell BK218.out 1).trans rfl, (blk_cell BK218.out 2).trans rfl, (blk_cell BK218.out 3).trans rfl, (blk_cell BK218.out 4).trans rfl, (blk_cell BK220.out 0).trans rfl, (blk_cell BK220.out 1).trans rfl, (blk_cell BK220.out 2).trans rfl⟩ (fun hHeld => ?_); refine with_tabW items_uploads.tab5 items_uploads.bits5 (fun HT_ HW_ => ?_)
          generalize w16.drew = w17 at HO_3 BK218 BK220 HB hHeld ⊢
          refine pure_ (i := 0) (N := some 16) (v := ?_) (a' := ?_) #[true, false, false, false, false, false, false, false] rfl rfl (any_of HT_.out (by kernel_rfl)) (fun _ _ _ h => h) (Or.inl ⟨by rfl, ?_⟩) ?_ ?_
          rotate_left
          ·intro w'
           go_simp
           with_reducible rfl
          rotate_left
          ·simp only [Act.put, List.setIfInBounds_toArray, List.set_cons_zero, List.set_cons_succ, i64_w, i32_w]
           rfl
          refine pure_ (i := 3) (N := some 19) (v := ?_) (a' := ?_) #[true, false, false, true, false, false, false, false] rfl rfl (any_of HT_.out (by kernel_rfl)) (fun _ _ _ h => h) (Or.inl ⟨by rfl, ?_⟩) ?_ ?_
          rotate_left
          ·intro w'
           go_simp
           with_reducible rfl
          rotate_left
          ·simp only [Act.put, List.setIfInBounds_toArray, List.set_cons_zero, List.set_cons_succ, i64_w, i32_w]
           rfl
          refine take_ (i := 1) (N := some 17) (v := ?_) (a' := ?_) #[true, true, false, true, false, false, false, false] rfl rfl (take_ofW HT_.out HW_.out (by kernel_rfl)) (fun _ _ _ h => h) (Or.inl ⟨by rfl, ?_⟩) hHeld ?_ ?_
          rotate_left
          ·rintro w' ⟨s0, s1, s2, s3, s4, s5, s6, s7⟩
           go_simp
           with_reducible rfl
          rotate_left
          ·simp only [Act.put, List.setIfInBounds_toArray, List.set_cons_zero, List.set_cons_succ, i64_w, i32_w]
           rfl
          refine pure_ (i := 2) (N := some 18) (v := ?_) (a' := ?_) #[true, true, true, true, false, false, false, false] rfl rfl (any_of HT_.out (by kernel_rfl)) (fun _ _ _ h => h) (Or.inl ⟨by rfl, ?_⟩) ?_ ?_
          rotate_left
          ·intro w'
           go_simp
           with_reducible rfl
          rotate_left
          ·simp only [Act.put, List.setIfInBounds_toArray, List.set_cons_zero, List.set_cons_succ, i64_w, i32_w]
           rfl
          refine take_ (i := 4) (N := some 20) (v := ?_) (a' := ?_) #[true, true, true, true, true, false, false, false] rfl rfl (take_ofW HT_.out HW_.out (by kernel_rfl)) (fun _ _ _ h => h) (Or.inl ⟨by rfl, ?_⟩) hHeld ?_ ?_
          rotate_left
          ·rintro w' ⟨s0, s1, s2, s3, s4, s5, s6, s7⟩
           go_simp
           with_reducible rfl
          rotate_left
          ·simp only [Act.put, List.setIfInBounds_toArray, List.set_cons_zero, List.set_cons_succ, i64_w, i32_w]
           rfl
          refine one_ (i := 5) (N := some 21) #[true, true, true, true, true, true, false, false] rfl rfl (one_of HT_.out (by kernel_rfl)) (by decide) (fun K hK => ?_)
          refine goes_ Tryz.func15 (by kernel_rfl) rfl #[.int .u64 ((rd_T41 l0_3 x12_1).f0)] (by rfl) rfl rfl (by (try simp only [List.map_toArray, List.map_cons, List.map_nil]); first | done | rfl | (simp only [List.length_drop, List.length_take]; rfl)) ?_
          with_reducible refine (wire_Num.calls k1 ((rd_T41 l0_3 x12_1).f0) t221 _ A8.out).mono ?_
          rintro e w18 ⟨rfl, hb⟩
          refine ⟨_, rfl, ?_⟩
          have n0_ := Aside0.mk (Kd.R_below (by (with_reducible repeat (first | apply Kd.R_alloc | apply Kd.R_drewN | apply Kd.R_drew)); exact HO_3.out) hb)
          have n1_ := Aside0.mk (blk_below (g := gb218) (o := .cells #[.string a0_0, .int .i64 a0_1, .slice A0_2 l0_2.length c0_2, .slice (some ad219) l0_3.length c0_3, .int .u64 a0_4] 35 (0, 0)) (by (with_reducible repeat (first | refine blk_drewN ?_ _ | refine blk_drew ?_ | refine blk_alloc ?_ _)); exact BK218.out) hb)
          have n2_ := Aside0.mk (blk_below (g := gb220) (o := .cells #[.int .u64 ((rd_T41 l0_3 x12_1).f0), .string ((rd_T41 l0_3 x12_1).f1), .slice A219_2 ((rd_T41 l0_3 x12_1).f2).length c219_2] 41 (0, 0)) (by (with_reducible repeat (first | refine blk_drewN ?_ _ | refine blk_drew ?_ | refine blk_alloc ?_ _)); exact BK220.out) hb)
          have n3_ := Aside0.mk (below_step (by repeat (first | (with_reducible first | exact HB.out | apply below_alloc | apply pw_below_drewN | apply below_drew1 | refine below_set ?_ GE218.out | refine below_set ?_ GE220.out) | exact HB.out)) hb)
          clear HO_3
          clear BK218
          clear BK220
          clear HB
          have HO_3 := n0_
          have BK218 := n1_
          have BK220 := n2_
          have HB := n3_
          clear n0_ n1_ n2_ n3_
          (try clear hb)
          (try clear hb2)
          (try clear hk)
          (try clear hi)
          refine hK.out _ _ ⟨(blk_cell BK218.out 0).trans rfl, (blk_cell BK218.out 1).trans rfl, (blk_cell BK218.out 2).trans rfl, (blk_cell BK218.out 3).trans rfl, (blk_cell BK218.out 4).trans rfl, (blk_cell BK220.out 0).trans rfl, (blk_cell BK220.out 1).trans rfl, (blk_cell BK220.out 2).trans rfl⟩ (fun hHeld => ?_)
          clear hK K
          refine norm_ (a' := ?_) ?_ ?_
          rotate_left
          ·show Act.put _ (some 21) _ = _
           simp only [Act.put, List.setIfInBounds_toArray, List.set_cons_zero, List.set_cons_succ, i64_w, i32_w]
           rfl
          refine pure_ (i := 6) (N := some 22) (v := ?_) (a' := ?_) #[true, true, true, true, true, true, true, false] rfl rfl (any_of HT_.out (by kernel_rfl)) (fun _ _ _ h => h) (Or.inl ⟨by rfl, ?_⟩) ?_ ?_
          rotate_left
          ·intro w'
           go_simp
           with_reducible rfl
          rotate_left
          ·simp only [Act.put, List.setIfInBounds_toArray, List.set_cons_zero, List.set_cons_succ, i64_w, i32_w]
           rfl
          refine pure_ (i := 7) (N := some 6) (v := ?_) (a' := ?_) #[true, true, true, true, true, true, true, true] rfl rfl (any_of HT_.out (by kernel_rfl)) (fun _ _ _ h => h) (Or.inl ⟨by rfl, ?_⟩) ?_ ?_
          rotate_left
          ·intro w'
           go_simp
           with_reducible rfl
          rotate_left
          ·simp only [Act.put, List.setIfInBounds_toArray, List.set_cons_zero, List.set_cons_succ, i64_w, i32_w]
           rfl
          refine done_ (done_of HT_.out (by kernel_rfl)) ?_
          have hcz19_0 : w18.cell? ⟨gb220, 0, none⟩ = some (.int .u64 ((rd_T41 l0_3 x12_1).f0)) := (blk_cell BK220.out 0).trans rfl
          have hcz19_1 : w18.cell? ⟨gb220, 1, none⟩ = some (.string ((rd_T41 l0_3 x12_1).f1)) := (blk_cell BK220.out 1).trans rfl
          have hcz19_2 : w18.cell? ⟨gb220, 2, none⟩ = some (.slice A219_2 ((rd_T41 l0_3 x12_1).f2).length c219_2) := (blk_cell BK220.out 2).trans rfl
          have hfz19_0 := blk_frozen BK220.out 0
          have hfz19_1 := blk_frozen BK220.out 1
          have hfz19_2 := blk_frozen BK220.out 2
          try go_wp2_with (first | ((with_reducible refine gate_dst (N := 28) rfl ?_); refine Kd.R_lit Kd.string _ 9 ?hg (N := 28) ?hd (xs := ([(rd_T41 l0_3 x12_1).f1] : List ByteArray)) (inner := [.string ((rd_T41 l0_3 x12_1).f1)]) (ok := fun _ => True) (okp := fun _ => True) ?hr ?hp (fun _ hk => hk) trivial (Below.refl _ _) (Nat.le_refl _) (by simp) ?_; (case hd => rfl); (case hg => rfl); (case hr => first | (go_simp; done) | (go_simp; rfl)); (case hp => exact (Reps.one (show Kd.M Kd.string _ _ _ ((rd_T41 l0_3 x12_1).f1) [.string ((rd_T41 l0_3 x12_1).f1)] from rfl) (Reps.none _ _))); intro v223 w20 ho21 hb hg_ hnew_; clear hg_ hnew_; (first | rw [← Ny222.out] at ho21 | (simp only [Int.reduceToNat] at ho21; rw [← Ny222.out] at ho21)); have n0_ := Aside0.mk (Kd.R_below (by (with_reducible repeat (first | apply Kd.R_alloc | apply Kd.R_drewN | apply Kd.R_drew)); exact HO_3.out) hb); have n1_ := Aside0.mk (Kd.R_lower ho21 (below_size (by repeat (first | (with_reducible first | exact HB.out | apply below_alloc | apply pw_below_drewN | apply below_drew1 | refine below_set ?_ GE218.out | refine below_set ?_ GE220.out) | exact HB.out)))); have n2_ := Aside0.mk (blk_below (g := gb218) (o := .cells #[.string a0_0, .int .i64 a0_1, .slice A0_2 l0_2.length c0_2, .slice (some ad219) l0_3.length c0_3, .int .u64 a0_4] 35 (0, 0)) (by (with_reducible repeat (first | refine blk_drewN ?_ _ | refine blk_drew ?_ | refine blk_alloc ?_ _)); exact BK218.out) hb); have n3_ := Aside0.mk (blk_below (g := gb220) (o := .cells #[.int .u64 ((rd_T41 l0_3 x12_1).f0), .string ((rd_T41 l0_3 x12_1).f1), .slice A219_2 ((rd_T41 l0_3 x12_1).f2).length c219_2] 41 (0, 0)) (by (with_reducible repeat (first | refine blk_drewN ?_ _ | refine blk_drew ?_ | refine blk_alloc ?_ _)); exact BK220.out) hb); have n4_ := Aside0.mk (below_step (by repeat (first | (with_reducible first | exact HB.out | apply below_alloc | apply pw_below_drewN | apply below_drew1 | refine below_set ?_ GE218.out | refine below_set ?_ GE220.out) | exact HB.out)) hb); clear HO_3; clear BK218; clear BK220; clear HB; have HO_3 := n0_; have HO224 := n1_; have BK218 := n2_; have BK220 := n3_; have HB := n4_; clear n0_ n1_ n2_ n3_ n4_; clear hb ho21; obtain ⟨Ao22, co22, eo22⟩ := Kd.R_slice HO224.out; subst eo22) | ((with_reducible refine gate_callee (f := 13) rfl ?_); refine goesL_ (some 29) rfl rfl Tryz.func13 (by kernel_rfl) rfl #[.slice Ao22 y222.length co22] rfl (by (try simp only [List.map_toArray, List.map_cons, List.map_nil]); first | done | rfl | (simp only [List.length_drop, List.length_take]; rfl)) ?_; (with_reducible refine (items_val.calls _ _ y222 t225 _ ?side1 ?side2 A11.out).mono ?_); (case side1 => repeat (first | exact (Kd.R_reads' HO224.out).2.2 | (with_reducible refine Kd.C_alloc ?_ _) | (with_reducible refine Kd.C_drewN ?_ _) | (with_reducible refine Kd.C_drew ?_))); (case side2 => exact (Kd.R_reads' HO224.out).2.1); rintro e w23 ⟨rfl, hb⟩; refine ⟨_, rfl, ?_⟩; have n0_ := Aside0.mk (Kd.R_below (by (with_reducible repeat (first | apply Kd.R_alloc | apply Kd.R_drewN | apply Kd.R_drew)); exact HO_3.out) hb); have n1_ := Aside0.mk (Kd.R_below (by (with_reducible repeat (first | apply Kd.R_alloc | apply Kd.R_drewN | apply Kd.R_drew)); exact HO224.out) hb); have n2_ := Aside0.mk (blk_below (g := gb218) (o := .cells #[.string a0_0, .int .i64 a0_1, .slice A0_2 l0_2.length c0_2, .slice (some ad219) l0_3.length c0_3, .int .u64 a0_4] 35 (0, 0)) (by (with_reducible repeat (first | refine blk_drewN ?_ _ | refine blk_drew ?_ | refine blk_alloc ?_ _)); exact BK218.out) hb); have n3_ := Aside0.mk (blk_below (g := gb220) (o := .cells #[.int .u64 ((rd_T41 l0_3 x12_1).f0), .string ((rd_T41 l0_3 x12_1).f1), .slice A219_2 ((rd_T41 l0_3 x12_1).f2).length c219_2] 41 (0, 0)) (by (with_reducible repeat (first | refine blk_drewN ?_ _ | refine blk_drew ?_ | refine blk_alloc ?_ _)); exact BK220.out) hb); have n4_ := Aside0.mk (below_step (by repeat (first | (with_reducible first | exact HB.out | apply below_alloc | apply pw_below_drewN | apply below_drew1 | refine below_set ?_ GE218.out | refine below_set ?_ GE220.out) | exact HB.out)) hb); clear HO_3; clear HO224; clear BK218; clear BK220; clear HB; have HO_3 := n0_; have HO224 := n1_; have BK218 := n2_; have BK220 := n3_; have HB := n4_; clear n0_ n1_ n2_ n3_ n4_; (try clear hb); (try clear hb2); (try clear hk); (try clear hi)) | ((with_reducible refine gate_builtin (b := .append) (xs := #[.tmp 23, .tmp 31]) rfl ?_); at_builtin; refine Kd.R_append k43 (w0 := w) w.heap.size rfl (.tmp 23) (.tmp 31) 26 43 (.agg #[(.string ⟨#[]⟩), (.string ⟨#[]⟩)]) 32 rfl Tryz.underlying26 info43 rfl (by decide) (by omega) u3 x3_1 (⟨(⟨#[117]⟩ : ByteArray) ++ ((a0_0 ++ (⟨#[10]⟩ : ByteArray)) ++ t221), t225⟩ : S43) [.string ((⟨#[117]⟩ : ByteArray) ++ ((a0_0 ++ (⟨#[10]⟩ : ByteArray)) ++ t221)), .string t225] (fun _ => True) (fun _ => False) rfl rfl ?aP (fun _ hk => hk.elim) ?aF ?aO ?aB ?aS ?aL ?_; (case aP => exact k43_mkM _ _ _ (⟨(⟨#[117]⟩ : ByteArray) ++ ((a0_0 ++ (⟨#[10]⟩ : ByteArray)) ++ t221), t225⟩ : S43)); (case aB => exact (by repeat (first | (with_reducible first | exact HB.out | apply below_alloc | apply pw_below_drewN | apply below_drew1 | refine below_set ?_ GE218.out | refine below_set ?_ GE220.out) | exact HB.out))); (case aF => exact (fun _ _ => trivial)); (case aO => exact (by (with_reducible repeat (first | apply Kd.R_alloc | apply Kd.R_drewN | apply Kd.R_drew)); exact HO_3.out)); (case aS => exact (below_size (by repeat (first | (with_reducible first | exact HB.out | apply below_alloc | apply pw_below_drewN | apply below_drew1 | refine below_set ?_ GE218.out | refine below_set ?_ GE220.out) | exact HB.out)))); (case aL => have := LMc12.out; omega); intro v227 w24 ho hb hg hat; rw [← Ny226.out] at ho; have n0_ := Aside0.mk (blk_grown (g := gb218) (o := .cells #[.string a0_0, .int .i64 a0_1, .slice A0_2 l0_2.length c0_2, .slice (some ad219) l0_3.length c0_3, .int .u64 a0_4] 35 (0, 0)) (by (with_reducible repeat (first | refine blk_drewN ?_ _ | refine blk_drew ?_ | refine blk_alloc ?_ _)); exact BK218.out) hg (Kd.R_ne HO_3.out BK218.out (by decide))); have n1_ := Aside0.mk (blk_grown (g := gb220) (o := .cells #[.int .u64 ((rd_T41 l0_3 x12_1).f0), .string ((rd_T41 l0_3 x12_1).f1), .slice A219_2 ((rd_T41 l0_3 x12_1).f2).length c219_2] 41 (0, 0)) (by (with_reducible repeat (first | refine blk_drewN ?_ _ | refine blk_drew ?_ | refine blk_alloc ?_ _)); exact BK220.out) hg (Kd.R_ne HO_3.out BK220.out (by decide))); have n2_ := Aside0.mk (Kd.R_over' (by (with_reducible repeat (first | apply Kd.R_alloc | apply Kd.R_drewN | apply Kd.R_drew)); exact HO224.out) (Kd.R_typed (by (with_reducible repeat (first | apply Kd.R_alloc | apply Kd.R_drewN | apply Kd.R_drew)); exact HO_3.out)) (by decide) hg); have n3_ := Aside0.mk (hb); have n4_ := Aside0.mk (ho); clear BK218; clear BK220; clear HO224; clear HB; clear HO_3; have BK218 := n0_; have BK220 := n1_; have HO224 := n2_; have HB := n3_; have HO228 := n4_; clear n0_ n1_ n2_ n3_ n4_; clear ho hb hg hat; have hcz25_0 : w24.cell? ⟨gb220, 0, none⟩ = some (.int .u64 ((rd_T41 l0_3 x12_1).f0)) := (blk_cell BK220.out 0).trans rfl; have hcz25_1 : w24.cell? ⟨gb220, 1, none⟩ = some (.string ((rd_T41 l0_3 x12_1).f1)) := (blk_cell BK220.out 1).trans rfl; have hcz25_2 : w24.cell? ⟨gb220, 2, none⟩ = some (.slice A219_2 ((rd_T41 l0_3 x12_1).f2).length c219_2) := (blk_cell BK220.out 2).trans rfl; have hfz25_0 := blk_frozen BK220.out 0; have hfz25_1 := blk_frozen BK220.out 1; have hfz25_2 := blk_frozen BK220.out 2))
          go_loopg [3, 36] k1 (fun kq v3 v36 w' => ∃ (x3_2 : List (S43)) (x36_2 : Int), v36 = .int .i64 x36_2 ∧ Aside0 (items_uploads.l1 kq x3_2 ((a0_0 ++ (⟨#[10]⟩ : ByteArray)) ++ t221) l0_3 (l0_3.length : Int) x12_1 ((rd_T41 l0_3 x12_1).f2) (((rd_T41 l0_3 x12_1).f2).length : Int) x36_2 a0_0 a0_1 l0_2 l0_3 a0_4 = some r) ∧ Aside0 (kq ≤ k1) ∧ Aside0 (Kd.R k43 43 w' w.heap.size (fun _ => True) v3 x3_2) ∧ Aside0 (w'.heap[gb218]? = some (.cells #[.string a0_0, .int .i64 a0_1, (.slice A0_2 l0_2.length c0_2), (.slice (some ad219) l0_3.length c0_3), .int .u64 a0_4] 35 (0, 0))) ∧ Aside0 (w'.heap[gb220]? = some (.cells #[.int .u64 ((rd_T41 l0_3 x12_1).f0), .string ((rd_T41 l0_3 x12_1).f1), (.slice A219_2 ((rd_T41 l0_3 x12_1).f2).length c219_2)] 41 (0, 0))) ∧ Aside0 (Below w.heap.size w w'))
          case atStart => exact ⟨(y226), (0), (by first | rfl | (simp; done) | (simp [*]; done)), H', ⟨Nat.le_refl _⟩, ⟨by (with_reducible repeat (first | apply Kd.R_alloc | apply Kd.R_drewN | apply Kd.R_drew)); exact HO228.out⟩, ⟨by (with_reducible repeat (first | refine blk_drewN ?_ _ | refine blk_drew ?_ | refine blk_alloc ?_ _)); exact BK218.out⟩, ⟨by (with_reducible repeat (first | refine blk_drewN ?_ _ | refine blk_drew ?_ | refine blk_alloc ?_ _)); exact BK220.out⟩, ⟨by repeat (first | (with_reducible first | exact HB.out | apply below_alloc | apply pw_below_drewN | apply below_drew1 | refine below_set ?_ GE218.out | refine below_set ?_ GE220.out) | exact HB.out)⟩⟩
          case round =>
           clear H'
           try clear c1
           try clear c2
           try clear p2
           try clear q2
           try clear hx2
           try clear c4
           try clear c4b0
           try clear c5
           try clear c5b0
           try clear c6
           try clear c6b0
           try clear c7
           try clear c7b0
           try clear c7b1
           try clear c7b2
           try clear c9
           try clear c9b0
           try clear c9b1
           try clear c9b2
           try clear c10
           try clear c10b0
           try clear c10b1
           try clear c10b2
           try clear c12
           try clear c13
           try clear c14
           try clear c15
           try clear c17
           try clear c21
           try clear p21
           try clear q21
           try clear hx21
           try clear hcz15_0
           try clear hcz15_1
           try clear hcz15_2
           try clear hcz19_0
           try clear hcz19_1
           try clear hcz19_2
           try clear hcz25_0
           try clear hcz25_1
           try clear hcz25_2
           try clear hcz3_0
           try clear hcz3_1
           try clear hcz3_2
           try clear hcz3_3
           try clear hcz3_4
           try clear hfz15_0
           try clear hfz15_1
           try clear hfz15_2
           try clear hfz19_0
           try clear hfz19_1
           try clear hfz19_2
           try clear hfz25_0
           try clear hfz25_1
           try clear hfz25_2
           try clear hfz3_0
           try clear hfz3_1
           try clear hfz3_2
           try clear hfz3_3
           try clear hfz3_4
           try clear hx219_0
           try clear hx219_1
           try clear hx219_2
           try clear p2
           try clear p219
           try clear q219
           obtain ⟨x3_2, x36_2, rfl, HA, HK2, HO_3, BK218, BK220, HB⟩ := hrel
           cases gk with
           | zero => exact absurd HA.out (by simp [items_uploads.l1])
           | succ k2 =>
            have H := HA.out
            clear HA
            simp only [items_uploads.l1] at H
            by_cases c26 : x36_2 < (((rd_T41 l0_3 x12_1).f2).length : Int)
            ·rw [if_pos c26] at H
             have c26b0 : decide (x36_2 < (((rd_T41 l0_3 x12_1).f2).length : Int)) = true := decide_eq_true c26
             clear c26
             by_cases c27 : 0 ≤ x36_2
             ·rw [if_pos c27] at H
              have c27b0 : decide (0 ≤ x36_2) = true := decide_eq_true c27
              clear c27
              by_cases c28 : x36_2 < (((rd_T41 l0_3 x12_1).f2).length : Int)
              ·rw [if_pos c28] at H
               have c28b0 : decide (x36_2 < (((rd_T41 l0_3 x12_1).f2).length : Int)) = true := decide_eq_true c28
               clear c28
               by_cases c29 : 1 + ((a0_0 ++ (⟨#[10]⟩ : ByteArray)) ++ t221).size ≤ 9223372036854775807
               ·rw [if_pos c29] at H
                have c29b0 := eq_true c29
                have c29b1 : decide (1 + ((a0_0 ++ (⟨#[10]⟩ : ByteArray)) ++ t221).size ≤ 9223372036854775807) = true := decide_eq_true c29
                try have c29b2 : (9223372036854775807 < 1 + ((a0_0 ++ (⟨#[10]⟩ : ByteArray)) ++ t221).size) = False := eq_false (Nat.not_lt.2 c29)
                try (have c29b3 := c29b2; simp only [ByteArray.size_append, sz10, sz98, sz112, sz116, sz117, sz118] at c29b3)
                replace H := Option.bind_eq_some_iff.mp H
                obtain ⟨t231, A300, H⟩ := H
                replace H : (if ((⟨#[112]⟩ : ByteArray) ++ ((a0_0 ++ (⟨#[10]⟩ : ByteArray)) ++ t221)).size + t231.size ≤ 9223372036854775807 then ((items_val.f (([(rd_T82 ((rd_T41 l0_3 x12_1).f2) x36_2).f1] : List ByteArray))).bind fun t235 => (if x3_2.length < 4398046511104 then (items_uploads.l1 k2 (x3_2 ++ [(⟨((⟨#[112]⟩ : ByteArray) ++ ((a0_0 ++ (⟨#[10]⟩ : ByteArray)) ++ t221)) ++ t231, t235⟩ : S43)]) ((a0_0 ++ (⟨#[10]⟩ : ByteArray)) ++ t221) l0_3 (l0_3.length : Int) x12_1 ((rd_T41 l0_3 x12_1).f2) (((rd_T41 l0_3 x12_1).f2).length : Int) (wrap64 (x36_2 + 1)) a0_0 a0_1 l0_2 l0_3 a0_4) else (none))) else (none)) = some r := H
                have A30 := Aside0.mk A300
                clear A300
                by_cases c31 : ((⟨#[112]⟩ : ByteArray) ++ ((a0_0 ++ (⟨#[10]⟩ : ByteArray)) ++ t221)).size + t231.size ≤ 9223372036854775807
                ·rw [if_pos c31] at H
                 have c31b0 := eq_true c31
                 have c31b1 : decide (((⟨#[112]⟩ : ByteArray) ++ ((a0_0 ++ (⟨#[10]⟩ : ByteArray)) ++ t221)).size + t231.size ≤ 9223372036854775807) = true := decide_eq_true c31
                 try have c31b2 : (9223372036854775807 < ((⟨#[112]⟩ : ByteArray) ++ ((a0_0 ++ (⟨#[10]⟩ : ByteArray)) ++ t221)).size + t231.size) = False := eq_false (Nat.not_lt.2 c31)
                 try (have c31b3 := c31b2; simp only [ByteArray.size_append, sz10, sz98, sz112, sz116, sz117, sz118] at c31b3)
                 obtain ⟨y232, hy232⟩ : ∃ y_ : List ByteArray, y_ = (([(rd_T82 ((rd_T41 l0_3 x12_1).f2) x36_2).f1] : List ByteArray)) := ⟨_, rfl⟩
                 replace H : ((items_val.f y232).bind fun t235 => (if x3_2.length < 4398046511104 then (items_uploads.l1 k2 (x3_2 ++ [(⟨((⟨#[112]⟩ : ByteArray) ++ ((a0_0 ++ (⟨#[10]⟩ : ByteArray)) ++ t221)) ++ t231, t235⟩ : S43)]) ((a0_0 ++ (⟨#[10]⟩ : ByteArray)) ++ t221) l0_3 (l0_3.length : Int) x12_1 ((rd_T41 l0_3 x12_1).f2) (((rd_T41 l0_3 x12_1).f2).length : Int) (wrap64 (x36_2 + 1)) a0_0 a0_1 l0_2 l0_3 a0_4) else (none))) = some r := by first | (rw [hy232]; with_reducible exact H) | (have H2_ := (Option.bind_some _ _).symm.trans H; rw [hy232]; with_reducible exact H2_) | (have H2_ := (Option.bind_some _ _).symm.trans H; with_reducible exact H2_) | with_reducible exact H | (rw [hy232]; exact H) | exact H
                 have Ny232 := Aside0.mk hy232
                 clear hy232
                 replace H := Option.bind_eq_some_iff.mp H
                 obtain ⟨t235, A320, H⟩ := H
                 replace H : (if x3_2.length < 4398046511104 then (items_uploads.l1 k2 (x3_2 ++ [(⟨((⟨#[112]⟩ : ByteArray) ++ ((a0_0 ++ (⟨#[10]⟩ : ByteArray)) ++ t221)) ++ t231, t235⟩ : S43)]) ((a0_0 ++ (⟨#[10]⟩ : ByteArray)) ++ t221) l0_3 (l0_3.length : Int) x12_1 ((rd_T41 l0_3 x12_1).f2) (((rd_T41 l0_3 x12_1).f2).length : Int) (wrap64 (x36_2 + 1)) a0_0 a0_1 l0_2 l0_3 a0_4) else (none)) = some r := H
                 have A32 := Aside0.mk A320
                 clear A320
                 by_cases c33 : x3_2.length < 4398046511104
                 ·rw [if_pos c33] at H
                  have LMc33 := Aside0.mk c33
                  clear c33
                  obtain ⟨y236, hy236⟩ : ∃ y_ : List (S43), y_ = (x3_2 ++ [(⟨((⟨#[112]⟩ : ByteArray) ++ ((a0_0 ++ (⟨#[10]⟩ : ByteArray)) ++ t221)) ++ t231, t235⟩ : S43)]) := ⟨_, rfl⟩
                  replace H : (items_uploads.l1 k2 y236 ((a0_0 ++ (⟨#[10]⟩ : ByteArray)) ++ t221) l0_3 (l0_3.length : Int) x12_1 ((rd_T41 l0_3 x12_1).f2) (((rd_T41 l0_3 x12_1).f2).length : Int) (wrap64 (x36_2 + 1)) a0_0 a0_1 l0_2 l0_3 a0_4) = some r := by first | (rw [hy236]; with_reducible exact H) | (have H2_ := (Option.bind_some _ _).symm.trans H; rw [hy236]; with_reducible exact H2_) | (have H2_ := (Option.bind_some _ _).symm.trans H; with_reducible exact H2_) | with_reducible exact H | (rw [hy236]; exact H) | exact H
                  have Ny236 := Aside0.mk hy236
                  clear hy236
                  have H' := Aside0.mk H
                  clear H
                  have p229 : 0 ≤ (x36_2 : Int) := of_decide_eq_true (by first | (with_reducible assumption) | assumption)
                  have q229 : x36_2 < (((rd_T41 l0_3 x12_1).f2).length : Int) := of_decide_eq_true (by first | (with_reducible assumption) | assumption)
                  obtain ⟨ad229, e229, hx229_0, hx229_1⟩ := at_T82 HR219_2.out x36_2 p229 q229
                  cases e229
                  replace hx229_0 := (HB.out.cell (World.block_lt_of_cell? w _ hx229_0)).trans hx229_0
                  replace hx229_1 := (HB.out.cell (World.block_lt_of_cell? w _ hx229_1)).trans hx229_1
                  replace p229 := eq_true p229
                  replace q229 := eq_true q229
                  try go_wp2_with (first | ((with_reducible refine gate_dst (N := 8) rfl ?_); refine box_event ?hg (N := 8) ?hd (cs := #[.int .i64 0, .string (⟨#[]⟩ : ByteArray)]) (t := 82) ?hr ?_; (case hd => rfl); (case hg => rfl); (case hr => first | (go_simp; done) | (go_simp; rfl)); intro gb230 hg w34 hbox hb; have n0_ := Aside0.mk (Kd.R_below (by (with_reducible repeat (first | apply Kd.R_alloc | apply Kd.R_drewN | apply Kd.R_drew)); exact HO_3.out) hb); have n1_ := Aside0.mk (blk_below (g := gb218) (o := .cells #[.string a0_0, .int .i64 a0_1, .slice A0_2 l0_2.length c0_2, .slice (some ad219) l0_3.length c0_3, .int .u64 a0_4] 35 (0, 0)) (by (with_reducible repeat (first | refine blk_drewN ?_ _ | refine blk_drew ?_ | refine blk_alloc ?_ _)); exact BK218.out) hb); have n2_ := Aside0.mk (blk_below (g := gb220) (o := .cells #[.int .u64 ((rd_T41 l0_3 x12_1).f0), .string ((rd_T41 l0_3 x12_1).f1), .slice (some ad229) ((rd_T41 l0_3 x12_1).f2).length c219_2] 41 (0, 0)) (by (with_reducible repeat (first | refine blk_drewN ?_ _ | refine blk_drew ?_ | refine blk_alloc ?_ _)); exact BK220.out) hb); have n3_ := Aside0.mk (below_step (by repeat (first | (with_reducible first | exact HB.out | apply below_alloc | apply pw_below_drewN | apply below_drew1 | refine below_set ?_ GE218.out | refine below_set ?_ GE220.out) | exact HB.out)) hb); have n4_ := Aside0.mk (hbox); have n5_ := Aside0.mk ((by rw [hg]; exact (below_size (by repeat (first | (with_reducible first | exact HB.out | apply below_alloc | apply pw_below_drewN | apply below_drew1 | refine below_set ?_ GE218.out | refine below_set ?_ GE220.out) | exact HB.out))) : w.heap.size ≤ gb230)); have n6_ := Aside0.mk ((by rw [hg]; exact (below_size (by repeat (first | (with_reducible first | exact HB.out | apply below_alloc | apply pw_below_drewN | apply below_drew1 | refine below_set ?_ GE218.out | refine below_set ?_ GE220.out) | exact HB.out))) : w.heap.size ≤ gb230)); have n7_ := Aside0.mk ((by rw [hg]; exact Nat.ne_of_lt (blk_lt (g := gb218) (o := .cells #[.string a0_0, .int .i64 a0_1, .slice A0_2 l0_2.length c0_2, .slice (some ad219) l0_3.length c0_3, .int .u64 a0_4] 35 (0, 0)) (by (with_reducible repeat (first | refine blk_drewN ?_ _ | refine blk_drew ?_ | refine blk_alloc ?_ _)); exact BK218.out)) : gb218 ≠ gb230)); have n8_ := Aside0.mk ((by rw [hg]; exact Nat.ne_of_gt (blk_lt (g := gb218) (o := .cells #[.string a0_0, .int .i64 a0_1, .slice A0_2 l0_2.length c0_2, .slice (some ad219) l0_3.length c0_3, .int .u64 a0_4] 35 (0, 0)) (by (with_reducible repeat (first | refine blk_drewN ?_ _ | refine blk_drew ?_ | refine blk_alloc ?_ _)); exact BK218.out)) : gb230 ≠ gb218)); have n9_ := Aside0.mk ((by rw [hg]; exact Nat.ne_of_lt (blk_lt (g := gb220) (o := .cells #[.int .u64 ((rd_T41 l0_3 x12_1).f0), .string ((rd_T41 l0_3 x12_1).f1), .slice (some ad229) ((rd_T41 l0_3 x12_1).f2).length c219_2] 41 (0, 0)) (by (with_reducible repeat (first | refine blk_drewN ?_ _ | refine blk_drew ?_ | refine blk_alloc ?_ _)); exact BK220.out)) : gb220 ≠ gb230)); have n10_ := Aside0.mk ((by rw [hg]; exact Nat.ne_of_gt (blk_lt (g := gb220) (o := .cells #[.int .u64 ((rd_T41 l0_3 x12_1).f0), .string ((rd_T41 l0_3 x12_1).f1), .slice (some ad229) ((rd_T41 l0_3 x12_1).f2).length c219_2] 41 (0, 0)) (by (with_reducible repeat (first | refine blk_drewN ?_ _ | refine blk_drew ?_ | refine blk_alloc ?_ _)); exact BK220.out)) : gb230 ≠ gb220)); clear HO_3; clear BK218; clear BK220; clear HB; have HO_3 := n0_; have BK218 := n1_; have BK220 := n2_; have HB := n3_; have BK230 := n4_; have GW230 := n5_; have GE230 := n6_; have NB218_230 := n7_; have NB230_218 := n8_; have NB220_230 := n9_; have NB230_220 := n10_; clear n0_ n1_ n2_ n3_ n4_ n5_ n6_ n7_ n8_ n9_ n10_; clear hb hbox hg; have hnb35 := NB230_218.out; have hnc35 := NB218_230.out; have hnb36 := NB230_220.out; have hnc36 := NB220_230.out; have hcz37_0 : w34.cell? ⟨gb230, 0, none⟩ = some (.int .i64 0) := (blk_cell BK230.out 0).trans rfl; have hcz37_1 : w34.cell? ⟨gb230, 1, none⟩ = some (.string (⟨#[]⟩ : ByteArray)) := (blk_cell BK230.out 1).trans rfl; have hfz37_0 := blk_frozen BK230.out 0; have hfz37_1 := blk_frozen BK230.out 1; obtain ⟨Ao38, co38, eo38⟩ := Kd.R_slice HO_3.out; subst eo38))
                  have n0_ : Aside0 (Kd.R k43 43 ((w34.setCell ⟨gb230, 0, none⟩ (.int .i64 ((rd_T82 ((rd_T41 l0_3 x12_1).f2) x36_2).f0))).setCell ⟨gb230, 1, none⟩ (.string ((rd_T82 ((rd_T41 l0_3 x12_1).f2) x36_2).f1))) w.heap.size (fun _ => True) (.slice Ao38 x3_2.length co38) x3_2) := ⟨by (with_reducible repeat (first | apply Kd.R_alloc | apply Kd.R_drewN | apply Kd.R_drew)); exact Kd.R_mono (Kd.R_far (p := ⟨gb230, 1, none⟩) (Kd.R_far (p := ⟨gb230, 0, none⟩) (Kd.R_types HO_3.out BK230.out (by decide)) (fun _ hk => hk.2) (.int .i64 ((rd_T82 ((rd_T41 l0_3 x12_1).f2) x36_2).f0))) (fun _ hk => hk.2) (.string ((rd_T82 ((rd_T41 l0_3 x12_1).f2) x36_2).f1))) (fun _ hk => trivial)⟩
                  have n1_ : Aside0 (((w34.setCell ⟨gb230, 0, none⟩ (.int .i64 ((rd_T82 ((rd_T41 l0_3 x12_1).f2) x36_2).f0))).setCell ⟨gb230, 1, none⟩ (.string ((rd_T82 ((rd_T41 l0_3 x12_1).f2) x36_2).f1))).heap[gb218]? = some (.cells #[.string a0_0, .int .i64 a0_1, .slice A0_2 l0_2.length c0_2, .slice (some ad219) l0_3.length c0_3, .int .u64 a0_4] 35 (0, 0))) := ⟨by (with_reducible repeat (first | refine blk_drewN ?_ _ | refine blk_drew ?_ | refine blk_alloc ?_ _)); refine blk_far ?_ NB218_230.out _; (with_reducible repeat (first | refine blk_drewN ?_ _ | refine blk_drew ?_ | refine blk_alloc ?_ _)); refine blk_far ?_ NB218_230.out _; (with_reducible repeat (first | refine blk_drewN ?_ _ | refine blk_drew ?_ | refine blk_alloc ?_ _)); exact BK218.out⟩
                  have n2_ : Aside0 (((w34.setCell ⟨gb230, 0, none⟩ (.int .i64 ((rd_T82 ((rd_T41 l0_3 x12_1).f2) x36_2).f0))).setCell ⟨gb230, 1, none⟩ (.string ((rd_T82 ((rd_T41 l0_3 x12_1).f2) x36_2).f1))).heap[gb220]? = some (.cells #[.int .u64 ((rd_T41 l0_3 x12_1).f0), .string ((rd_T41 l0_3 x12_1).f1), .slice (some ad229) ((rd_T41 l0_3 x12_1).f2).length c219_2] 41 (0, 0))) := ⟨by (with_reducible repeat (first | refine blk_drewN ?_ _ | refine blk_drew ?_ | refine blk_alloc ?_ _)); refine blk_far ?_ NB220_230.out _; (with_reducible repeat (first | refine blk_drewN ?_ _ | refine blk_drew ?_ | refine blk_alloc ?_ _)); refine blk_far ?_ NB220_230.out _; (with_reducible repeat (first | refine blk_drewN ?_ _ | refine blk_drew ?_ | refine blk_alloc ?_ _)); exact BK220.out⟩
                  have n3_ : Aside0 (((w34.setCell ⟨gb230, 0, none⟩ (.int .i64 ((rd_T82 ((rd_T41 l0_3 x12_1).f2) x36_2).f0))).setCell ⟨gb230, 1, none⟩ (.string ((rd_T82 ((rd_T41 l0_3 x12_1).f2) x36_2).f1))).heap[gb230]? = some (.cells #[.int .i64 ((rd_T82 ((rd_T41 l0_3 x12_1).f2) x36_2).f0), .string ((rd_T82 ((rd_T41 l0_3 x12_1).f2) x36_2).f1)] 82 (0, 0))) := ⟨by (with_reducible repeat (first | refine blk_drewN ?_ _ | refine blk_drew ?_ | refine blk_alloc ?_ _)); refine blk_put (cs := #[.int .i64 ((rd_T82 ((rd_T41 l0_3 x12_1).f2) x36_2).f0), .string (⟨#[]⟩ : ByteArray)]) ?_ 1 _ rfl; (with_reducible repeat (first | refine blk_drewN ?_ _ | refine blk_drew ?_ | refine blk_alloc ?_ _)); refine blk_put (cs := #[.int .i64 0, .string (⟨#[]⟩ : ByteArray)]) ?_ 0 _ rfl; (with_reducible repeat (first | refine blk_drewN ?_ _ | refine blk_drew ?_ | refine blk_alloc ?_ _)); exact BK230.out⟩
                  have n4_ : Aside0 (Below w.heap.size w ((w34.setCell ⟨gb230, 0, none⟩ (.int .i64 ((rd_T82 ((rd_T41 l0_3 x12_1).f2) x36_2).f0))).setCell ⟨gb230, 1, none⟩ (.string ((rd_T82 ((rd_T41 l0_3 x12_1).f2) x36_2).f1)))) := ⟨by repeat (first | (with_reducible first | exact HB.out | apply below_alloc | apply pw_below_drewN | apply below_drew1 | refine below_set ?_ GE218.out | refine below_set ?_ GE220.out | refine below_set ?_ GE230.out) | exact HB.out)⟩
                  (try clear HO_3)
                  (try clear BK218)
                  (try clear BK220)
                  (try clear BK230)
                  (try clear HB)
                  generalize ((w34.setCell ⟨gb230, 0, none⟩ (.int .i64 ((rd_T82 ((rd_T41 l0_3 x12_1).f2) x36_2).f0))).setCell ⟨gb230, 1, none⟩ (.string ((rd_T82 ((rd_T41 l0_3 x12_1).f2) x36_2).f1))) = w39 at n0_ n1_ n2_ n3_ n4_ ⊢
                  have HO_3 := n0_
                  have BK218 := n1_
                  have BK220 := n2_
                  have BK230 := n3_
                  have HB := n4_
                  clear n0_ n1_ n2_ n3_ n4_
                  have n0_ := Aside0.mk (Kd.R_drew HO_3.out)
                  have n1_ := Aside0.mk (blk_drew BK218.out)
                  have n2_ := Aside0.mk (blk_drew BK220.out)
                  have n3_ := Aside0.mk (blk_drew BK230.out)
                  have n4_ := Aside0.mk (below_drew1 HB.out)
                  clear HO_3
                  clear BK218
                  clear BK220
                  clear BK230
                  clear HB
                  have HO_3 := n0_
                  have BK218 := n1_
                  have BK220 := n2_
                  have BK230 := n3_
                  have HB := n4_
                  clear n0_ n1_ n2_ n3_ n4_
                  refine start_ (n := 15) (S := fun w' => w'.cell? ⟨gb230, 0, none⟩ = some (.int .i64 ((rd_T82 ((rd_T41 l0_3 x12_1).f2) x36_2).f0)) ∧ w'.cell? ⟨gb230, 1, none⟩ = some (.string ((rd_T82 ((rd_T41 l0_3 x12_1).f2) x36_2).f1))) (ds := []) #[false, false, false, false, false, false, false, false, false, false, false, false, false, false, false] (by kernel_rfl) rfl rfl ⟨(blk_cell BK230.out 0).trans rfl, (blk_cell BK230.out 1).trans rfl⟩ (fun hHeld => ?_); refine with_tabW items_uploads.tab10 items_uploads.bits10 (fun HT_ HW_ => ?_)
                  generalize w39.drew = w40 at HO_3 BK218 BK220 BK230 HB hHeld ⊢
                  refine pure_ (i := 0) (N := some 40) (v := ?_) (a' := ?_) #[true, false, false, false, false, false, false, false, false, false, false, false, false, false, false] rfl rfl (any_of HT_.out (by kernel_rfl)) (fun _ _ _ h => h) (Or.inl ⟨by rfl, ?_⟩) ?_ ?_
                  rotate_left
                  ·intro w'
                   go_simp
                   with_reducible rfl
                  rotate_left
                  ·simp only [Act.put, List.setIfInBounds_toArray, List.set_cons_zero, List.set_cons_succ, i64_w, i32_w]
                   rfl
                  refine pure_ (i := 1) (N := some 41) (v := ?_) (a' := ?_) #[true, true, false, false, false, false, false, false, false, false, false, false, false, false, false] rfl rfl (any_of HT_.out (by kernel_rfl)) (fun _ _ _ h => h) (Or.inl ⟨by rfl, ?_⟩) ?_ ?_
                  rotate_left
                  ·intro w'
                   go_simp
                   with_reducible rfl
                  rotate_left
                  ·simp only [Act.put, List.setIfInBounds_toArray, List.set_cons_zero, List.set_cons_succ, i64_w, i32_w]
                   rfl
                  refine pure_ (i := 2) (N := some 42) (v := ?_) (a' := ?_) #[true, true, true, false, false, false, false, false, false, false, false, false, false, false, false] rfl rfl (any_of HT_.out (by kernel_rfl)) (fun _ _ _ h => h) (Or.inl ⟨by rfl, ?_⟩) ?_ ?_
                  rotate_left
                  ·intro w'
                   go_simp
                   with_reducible rfl
                  rotate_left
                  ·simp only [Act.put, List.setIfInBounds_toArray, List.set_cons_zero, List.set_cons_succ, i64_w, i32_w]
                   rfl
                  refine pure_ (i := 3) (N := some 43) (v := ?_) (a' := ?_) #[true, true, true, true, false, false, false, false, false, false, false, false, false, false, false] rfl rfl (any_of HT_.out (by kernel_rfl)) (fun _ _ _ h => h) (Or.inl ⟨by rfl, ?_⟩) ?_ ?_
                  rotate_left
                  ·intro w'
                   go_simp
                   with_reducible rfl
                  rotate_left
                  ·simp only [Act.put, List.setIfInBounds_toArray, List.set_cons_zero, List.set_cons_succ, i64_w, i32_w]
                   rfl
                  refine pure_ (i := 7) (N := some 47) (v := ?_) (a' := ?_) #[true, true, true, true, false, false, false, true, false, false, false, false, false, false, false] rfl rfl (any_of HT_.out (by kernel_rfl)) (fun _ _ _ h => h) (Or.inl ⟨by rfl, ?_⟩) ?_ ?_
                  rotate_left
                  ·intro w'
                   go_simp
                   with_reducible rfl
                  rotate_left
                  ·simp only [Act.put, List.setIfInBounds_toArray, List.set_cons_zero, List.set_cons_succ, i64_w, i32_w]
                   rfl
                  refine take_ (i := 4) (N := some 44) (v := ?_) (a' := ?_) #[true, true, true, true, true, false, false, true, false, false, false, false, false, false, false] rfl rfl (take_ofW HT_.out HW_.out (by kernel_rfl)) (fun _ _ _ h => h) (Or.inl ⟨by rfl, ?_⟩) hHeld ?_ ?_
                  rotate_left
                  ·rintro w' ⟨s0, s1⟩
                   go_simp
                   with_reducible rfl
                  rotate_left
                  ·simp only [Act.put, List.setIfInBounds_toArray, List.set_cons_zero, List.set_cons_succ, i64_w, i32_w]
                   rfl
                  refine take_ (i := 8) (N := some 48) (v := ?_) (a' := ?_) #[true, true, true, true, true, false, false, true, true, false, false, false, false, false, false] rfl rfl (take_ofW HT_.out HW_.out (by kernel_rfl)) (fun _ _ _ h => h) (Or.inl ⟨by rfl, ?_⟩) hHeld ?_ ?_
                  rotate_left
                  ·rintro w' ⟨s0, s1⟩
                   go_simp
                   with_reducible rfl
                  rotate_left
                  ·simp only [Act.put, List.setIfInBounds_toArray, List.set_cons_zero, List.set_cons_succ, i64_w, i32_w]
                   rfl
                  refine join_ (σ := Value) 5 #[true, true, true, true, true, true, true, true, true, true, false, false, false, false, false] (fun s_ => [(45, .string t231), (49, s_), (46, .string (((⟨#[112]⟩ : ByteArray) ++ ((a0_0 ++ (⟨#[10]⟩ : ByteArray)) ++ t221)) ++ t231))]) (fun s_ w' => (w'.cell? ⟨gb230, 0, none⟩ = some (.int .i64 ((rd_T82 ((rd_T41 l0_3 x12_1).f2) x36_2).f0)) ∧ w'.cell? ⟨gb230, 1, none⟩ = some (.string ((rd_T82 ((rd_T41 l0_3 x12_1).f2) x36_2).f1))) ∧ (Kd.R Kd.string 9 w' w.heap.size (fun _ => True) s_ y232) ∧ (Kd.R k43 43 w' w.heap.size (fun _ => True) (.slice Ao38 x3_2.length co38) x3_2) ∧ (w'.heap[gb218]? = some (.cells #[.string a0_0, .int .i64 a0_1, .slice A0_2 l0_2.length c0_2, .slice (some ad219) l0_3.length c0_3, .int .u64 a0_4] 35 (0, 0))) ∧ (w'.heap[gb220]? = some (.cells #[.int .u64 ((rd_T41 l0_3 x12_1).f0), .string ((rd_T41 l0_3 x12_1).f1), .slice (some ad229) ((rd_T41 l0_3 x12_1).f2).length c219_2] 41 (0, 0))) ∧ (w'.heap[gb230]? = some (.cells #[.int .i64 ((rd_T82 ((rd_T41 l0_3 x12_1).f2) x36_2).f0), .string ((rd_T82 ((rd_T41 l0_3 x12_1).f2) x36_2).f1)] 82 (0, 0))) ∧ (Below w.heap.size w w')) ?_ ?_
                  rotate_left
                  ·intro hCont
                   refine two_ (i := 5) (j := 9) (Ni := some 45) (Nj := some 49) #[true, true, true, true, true, true, false, true, true, false, false, false, false, false, false] #[true, true, true, true, true, false, false, true, true, true, false, false, false, false, false] rfl rfl rfl rfl (two_of HT_.out (by kernel_rfl)) (by decide) (by decide) (fun K hK => ?_) (fun K hK => ?_)
                   ·skip
                    refine goes_ Tryz.func14 (by kernel_rfl) rfl #[.int .i64 ((rd_T82 ((rd_T41 l0_3 x12_1).f2) x36_2).f0)] (by rfl) rfl rfl (by (try simp only [List.map_toArray, List.map_cons, List.map_nil]); first | done | rfl | (simp only [List.length_drop, List.length_take]; rfl)) ?_
                    with_reducible refine (items_num.calls k2 ((rd_T82 ((rd_T41 l0_3 x12_1).f2) x36_2).f0) t231 _ A30.out).mono ?_
                    rintro e w41 ⟨rfl, hb⟩
                    refine ⟨_, rfl, ?_⟩
                    have n0_ := Aside0.mk (Kd.R_below (by (with_reducible repeat (first | apply Kd.R_alloc | apply Kd.R_drewN | apply Kd.R_drew)); exact HO_3.out) hb)
                    have n1_ := Aside0.mk (blk_below (g := gb218) (o := .cells #[.string a0_0, .int .i64 a0_1, .slice A0_2 l0_2.length c0_2, .slice (some ad219) l0_3.length c0_3, .int .u64 a0_4] 35 (0, 0)) (by (with_reducible repeat (first | refine blk_drewN ?_ _ | refine blk_drew ?_ | refine blk_alloc ?_ _)); exact BK218.out) hb)
                    have n2_ := Aside0.mk (blk_below (g := gb220) (o := .cells #[.int .u64 ((rd_T41 l0_3 x12_1).f0), .string ((rd_T41 l0_3 x12_1).f1), .slice (some ad229) ((rd_T41 l0_3 x12_1).f2).length c219_2] 41 (0, 0)) (by (with_reducible repeat (first | refine blk_drewN ?_ _ | refine blk_drew ?_ | refine blk_alloc ?_ _)); exact BK220.out) hb)
                    have n3_ := Aside0.mk (blk_below (g := gb230) (o := .cells #[.int .i64 ((rd_T82 ((rd_T41 l0_3 x12_1).f2) x36_2).f0), .string ((rd_T82 ((rd_T41 l0_3 x12_1).f2) x36_2).f1)] 82 (0, 0)) (by (with_reducible repeat (first | refine blk_drewN ?_ _ | refine blk_drew ?_ | refine blk_alloc ?_ _)); exact BK230.out) hb)
                    have n4_ := Aside0.mk (below_step (by repeat (first | (with_reducible first | exact HB.out | apply below_alloc | apply pw_below_drewN | apply below_drew1 | refine below_set ?_ GE218.out | refine below_set ?_ GE220.out | refine below_set ?_ GE230.out) | exact HB.out)) hb)
                    clear HO_3
                    clear BK218
                    clear BK220
                    clear BK230
                    clear HB
                    have HO_3 := n0_
                    have BK218 := n1_
                    have BK220 := n2_
                    have BK230 := n3_
                    have HB := n4_
                    clear n0_ n1_ n2_ n3_ n4_
                    (try clear hb)
                    (try clear hb2)
                    (try clear hk)
                    (try clear hi)
                    refine hK.out _ _ ⟨(blk_cell BK230.out 0).trans rfl, (blk_cell BK230.out 1).trans rfl⟩ (fun hHeld => ?_)
                    clear hK K
                    refine norm_ (a' := ?_) ?_ ?_
                    rotate_left
                    ·show Act.put _ (some 45) _ = _
                     simp only [Act.put, List.setIfInBounds_toArray, List.set_cons_zero, List.set_cons_succ, i64_w, i32_w]
                     rfl
                    refine pure_ (i := 6) (N := some 46) (v := ?_) (a' := ?_) #[true, true, true, true, true, true, true, true, true, false, false, false, false, false, false] rfl rfl (any_of HT_.out (by kernel_rfl)) (fun _ _ _ h => h) (Or.inl ⟨by rfl, ?_⟩) ?_ ?_
                    rotate_left
                    ·intro w'
                     go_simp
                     with_reducible rfl
                    rotate_left
                    ·simp only [Act.put, List.setIfInBounds_toArray, List.set_cons_zero, List.set_cons_succ, i64_w, i32_w]
                     rfl
                    refine one_ (i := 9) (N := some 49) #[true, true, true, true, true, true, true, true, true, true, false, false, false, false, false] rfl rfl (one_of HT_.out (by kernel_rfl)) (by decide) (fun K hK => ?_)
                    refine Kd.R_lit_step Kd.string _ 9 ?hg (N := 49) ?hd (xs := ([(rd_T82 ((rd_T41 l0_3 x12_1).f2) x36_2).f1] : List ByteArray)) (inner := [.string ((rd_T82 ((rd_T41 l0_3 x12_1).f2) x36_2).f1)]) (ok := fun _ => True) (okp := fun _ => True) ?hr ?hp (fun _ hk => hk) trivial (Below.refl _ _) (Nat.le_refl _) (by simp) ?_; (case hd => rfl); (case hg => rfl); (case hr => first | (go_simp; done) | (go_simp; rfl)); (case hp => exact (Reps.one (show Kd.M Kd.string _ _ _ ((rd_T82 ((rd_T41 l0_3 x12_1).f2) x36_2).f1) [.string ((rd_T82 ((rd_T41 l0_3 x12_1).f2) x36_2).f1)] from rfl) (Reps.none _ _)))
                    intro v233 w42 ho43 hb hg_ hnew_
                    clear hg_ hnew_
                    (first | rw [← Ny232.out] at ho43 | (simp only [Int.reduceToNat] at ho43; rw [← Ny232.out] at ho43))
                    have n0_ := Aside0.mk (Kd.R_below (by (with_reducible repeat (first | apply Kd.R_alloc | apply Kd.R_drewN | apply Kd.R_drew)); exact HO_3.out) hb)
                    have n1_ := Aside0.mk (Kd.R_lower ho43 (below_size (by repeat (first | (with_reducible first | exact HB.out | apply below_alloc | apply pw_below_drewN | apply below_drew1 | refine below_set ?_ GE218.out | refine below_set ?_ GE220.out | refine below_set ?_ GE230.out) | exact HB.out))))
                    have n2_ := Aside0.mk (blk_below (g := gb218) (o := .cells #[.string a0_0, .int .i64 a0_1, .slice A0_2 l0_2.length c0_2, .slice (some ad219) l0_3.length c0_3, .int .u64 a0_4] 35 (0, 0)) (by (with_reducible repeat (first | refine blk_drewN ?_ _ | refine blk_drew ?_ | refine blk_alloc ?_ _)); exact BK218.out) hb)
                    have n3_ := Aside0.mk (blk_below (g := gb220) (o := .cells #[.int .u64 ((rd_T41 l0_3 x12_1).f0), .string ((rd_T41 l0_3 x12_1).f1), .slice (some ad229) ((rd_T41 l0_3 x12_1).f2).length c219_2] 41 (0, 0)) (by (with_reducible repeat (first | refine blk_drewN ?_ _ | refine blk_drew ?_ | refine blk_alloc ?_ _)); exact BK220.out) hb)
                    have n4_ := Aside0.mk (blk_below (g := gb230) (o := .cells #[.int .i64 ((rd_T82 ((rd_T41 l0_3 x12_1).f2) x36_2).f0), .string ((rd_T82 ((rd_T41 l0_3 x12_1).f2) x36_2).f1)] 82 (0, 0)) (by (with_reducible repeat (first | refine blk_drewN ?_ _ | refine blk_drew ?_ | refine blk_alloc ?_ _)); exact BK230.out) hb)
                    have n5_ := Aside0.mk (below_step (by repeat (first | (with_reducible first | exact HB.out | apply below_alloc | apply pw_below_drewN | apply below_drew1 | refine below_set ?_ GE218.out | refine below_set ?_ GE220.out | refine below_set ?_ GE230.out) | exact HB.out)) hb)
                    clear HO_3
                    clear BK218
                    clear BK220
                    clear BK230
                    clear HB
                    have HO_3 := n0_
                    have HO234 := n1_
                    have BK218 := n2_
                    have BK220 := n3_
                    have BK230 := n4_
                    have HB := n5_
                    clear n0_ n1_ n2_ n3_ n4_ n5_
                    clear hb ho43
                    refine hK.out _ _ ⟨(blk_cell BK230.out 0).trans rfl, (blk_cell BK230.out 1).trans rfl⟩ (fun hHeld => ?_)
                    clear hK K
                    refine norm_ (a' := ?_) ?_ ?_
                    rotate_left
                    ·show Act.put _ (some 49) _ = _
                     simp only [Act.put, List.setIfInBounds_toArray, List.set_cons_zero, List.set_cons_succ, i64_w, i32_w]
                     rfl
                    exact norm_ (by simp only [putAll, Act.put, List.setIfInBounds_toArray, List.set_cons_zero, List.set_cons_succ]) (hCont (v233) _ ⟨hHeld, (by (with_reducible repeat (first | apply Kd.R_alloc | apply Kd.R_drewN | apply Kd.R_drew)); exact HO234.out), (by (with_reducible repeat (first | apply Kd.R_alloc | apply Kd.R_drewN | apply Kd.R_drew)); exact HO_3.out), (by (with_reducible repeat (first | refine blk_drewN ?_ _ | refine blk_drew ?_ | refine blk_alloc ?_ _)); exact BK218.out), (by (with_reducible repeat (first | refine blk_drewN ?_ _ | refine blk_drew ?_ | refine blk_alloc ?_ _)); exact BK220.out), (by (with_reducible repeat (first | refine blk_drewN ?_ _ | refine blk_drew ?_ | refine blk_alloc ?_ _)); exact BK230.out), (by repeat (first | (with_reducible first | exact HB.out | apply below_alloc | apply pw_below_drewN | apply below_drew1 | refine below_set ?_ GE218.out | refine below_set ?_ GE220.out | refine below_set ?_ GE230.out) | exact HB.out))⟩)
                   ·skip
                    refine Kd.R_lit_step Kd.string _ 9 ?hg (N := 49) ?hd (xs := ([(rd_T82 ((rd_T41 l0_3 x12_1).f2) x36_2).f1] : List ByteArray)) (inner := [.string ((rd_T82 ((rd_T41 l0_3 x12_1).f2) x36_2).f1)]) (ok := fun _ => True) (okp := fun _ => True) ?hr ?hp (fun _ hk => hk) trivial (Below.refl _ _) (Nat.le_refl _) (by simp) ?_; (case hd => rfl); (case hg => rfl); (case hr => first | (go_simp; done) | (go_simp; rfl)); (case hp => exact (Reps.one (show Kd.M Kd.string _ _ _ ((rd_T82 ((rd_T41 l0_3 x12_1).f2) x36_2).f1) [.string ((rd_T82 ((rd_T41 l0_3 x12_1).f2) x36_2).f1)] from rfl) (Reps.none _ _)))
                    intro v233 w41 ho42 hb hg_ hnew_
                    clear hg_ hnew_
                    (first | rw [← Ny232.out] at ho42 | (simp only [Int.reduceToNat] at ho42; rw [← Ny232.out] at ho42))
                    have n0_ := Aside0.mk (Kd.R_below (by (with_reducible repeat (first | apply Kd.R_alloc | apply Kd.R_drewN | apply Kd.R_drew)); exact HO_3.out) hb)
                    have n1_ := Aside0.mk (Kd.R_lower ho42 (below_size (by repeat (first | (with_reducible first | exact HB.out | apply below_alloc | apply pw_below_drewN | apply below_drew1 | refine below_set ?_ GE218.out | refine below_set ?_ GE220.out | refine below_set ?_ GE230.out) | exact HB.out))))
                    have n2_ := Aside0.mk (blk_below (g := gb218) (o := .cells #[.string a0_0, .int .i64 a0_1, .slice A0_2 l0_2.length c0_2, .slice (some ad219) l0_3.length c0_3, .int .u64 a0_4] 35 (0, 0)) (by (with_reducible repeat (first | refine blk_drewN ?_ _ | refine blk_drew ?_ | refine blk_alloc ?_ _)); exact BK218.out) hb)
                    have n3_ := Aside0.mk (blk_below (g := gb220) (o := .cells #[.int .u64 ((rd_T41 l0_3 x12_1).f0), .string ((rd_T41 l0_3 x12_1).f1), .slice (some ad229) ((rd_T41 l0_3 x12_1).f2).length c219_2] 41 (0, 0)) (by (with_reducible repeat (first | refine blk_drewN ?_ _ | refine blk_drew ?_ | refine blk_alloc ?_ _)); exact BK220.out) hb)
                    have n4_ := Aside0.mk (blk_below (g := gb230) (o := .cells #[.int .i64 ((rd_T82 ((rd_T41 l0_3 x12_1).f2) x36_2).f0), .string ((rd_T82 ((rd_T41 l0_3 x12_1).f2) x36_2).f1)] 82 (0, 0)) (by (with_reducible repeat (first | refine blk_drewN ?_ _ | refine blk_drew ?_ | refine blk_alloc ?_ _)); exact BK230.out) hb)
                    have n5_ := Aside0.mk (below_step (by repeat (first | (with_reducible first | exact HB.out | apply below_alloc | apply pw_below_drewN | apply below_drew1 | refine below_set ?_ GE218.out | refine below_set ?_ GE220.out | refine below_set ?_ GE230.out) | exact HB.out)) hb)
                    clear HO_3
                    clear BK218
                    clear BK220
                    clear BK230
                    clear HB
                    have HO_3 := n0_
                    have HO234 := n1_
                    have BK218 := n2_
                    have BK220 := n3_
                    have BK230 := n4_
                    have HB := n5_
                    clear n0_ n1_ n2_ n3_ n4_ n5_
                    clear hb ho42
                    refine hK.out _ _ ⟨(blk_cell BK230.out 0).trans rfl, (blk_cell BK230.out 1).trans rfl⟩ (fun hHeld => ?_)
                    clear hK K
                    refine norm_ (a' := ?_) ?_ ?_
                    rotate_left
                    ·show Act.put _ (some 49) _ = _
                     simp only [Act.put, List.setIfInBounds_toArray, List.set_cons_zero, List.set_cons_succ, i64_w, i32_w]
                     rfl
                    refine one_ (i := 5) (N := some 45) #[true, true, true, true, true, true, false, true, true, true, false, false, false, false, false] rfl rfl (one_of HT_.out (by kernel_rfl)) (by decide) (fun K hK => ?_)
                    refine goes_ Tryz.func14 (by kernel_rfl) rfl #[.int .i64 ((rd_T82 ((rd_T41 l0_3 x12_1).f2) x36_2).f0)] (by rfl) rfl rfl (by (try simp only [List.map_toArray, List.map_cons, List.map_nil]); first | done | rfl | (simp only [List.length_drop, List.length_take]; rfl)) ?_
                    with_reducible refine (items_num.calls k2 ((rd_T82 ((rd_T41 l0_3 x12_1).f2) x36_2).f0) t231 _ A30.out).mono ?_
                    rintro e w43 ⟨rfl, hb⟩
                    refine ⟨_, rfl, ?_⟩
                    have n0_ := Aside0.mk (Kd.R_below (by (with_reducible repeat (first | apply Kd.R_alloc | apply Kd.R_drewN | apply Kd.R_drew)); exact HO_3.out) hb)
                    have n1_ := Aside0.mk (Kd.R_below (by (with_reducible repeat (first | apply Kd.R_alloc | apply Kd.R_drewN | apply Kd.R_drew)); exact HO234.out) hb)
                    have n2_ := Aside0.mk (blk_below (g := gb218) (o := .cells #[.string a0_0, .int .i64 a0_1, .slice A0_2 l0_2.length c0_2, .slice (some ad219) l0_3.length c0_3, .int .u64 a0_4] 35 (0, 0)) (by (with_reducible repeat (first | refine blk_drewN ?_ _ | refine blk_drew ?_ | refine blk_alloc ?_ _)); exact BK218.out) hb)
                    have n3_ := Aside0.mk (blk_below (g := gb220) (o := .cells #[.int .u64 ((rd_T41 l0_3 x12_1).f0), .string ((rd_T41 l0_3 x12_1).f1), .slice (some ad229) ((rd_T41 l0_3 x12_1).f2).length c219_2] 41 (0, 0)) (by (with_reducible repeat (first | refine blk_drewN ?_ _ | refine blk_drew ?_ | refine blk_alloc ?_ _)); exact BK220.out) hb)
                    have n4_ := Aside0.mk (blk_below (g := gb230) (o := .cells #[.int .i64 ((rd_T82 ((rd_T41 l0_3 x12_1).f2) x36_2).f0), .string ((rd_T82 ((rd_T41 l0_3 x12_1).f2) x36_2).f1)] 82 (0, 0)) (by (with_reducible repeat (first | refine blk_drewN ?_ _ | refine blk_drew ?_ | refine blk_alloc ?_ _)); exact BK230.out) hb)
                    have n5_ := Aside0.mk (below_step (by repeat (first | (with_reducible first | exact HB.out | apply below_alloc | apply pw_below_drewN | apply below_drew1 | refine below_set ?_ GE218.out | refine below_set ?_ GE220.out | refine below_set ?_ GE230.out) | exact HB.out)) hb)
                    clear HO_3
                    clear HO234
                    clear BK218
                    clear BK220
                    clear BK230
                    clear HB
                    have HO_3 := n0_
                    have HO234 := n1_
                    have BK218 := n2_
                    have BK220 := n3_
                    have BK230 := n4_
                    have HB := n5_
                    clear n0_ n1_ n2_ n3_ n4_ n5_
                    (try clear hb)
                    (try clear hb2)
                    (try clear hk)
                    (try clear hi)
                    refine hK.out _ _ ⟨(blk_cell BK230.out 0).trans rfl, (blk_cell BK230.out 1).trans rfl⟩ (fun hHeld => ?_)
                    clear hK K
                    refine norm_ (a' := ?_) ?_ ?_
                    rotate_left
                    ·show Act.put _ (some 45) _ = _
                     simp only [Act.put, List.setIfInBounds_toArray, List.set_cons_zero, List.set_cons_succ, i64_w, i32_w]
                     rfl
                    refine pure_ (i := 6) (N := some 46) (v := ?_) (a' := ?_) #[true, true, true, true, true, true, true, true, true, true, false, false, false, false, false] rfl rfl (any_of HT_.out (by kernel_rfl)) (fun _ _ _ h => h) (Or.inl ⟨by rfl, ?_⟩) ?_ ?_
                    rotate_left
                    ·intro w'
                     go_simp
                     with_reducible rfl
                    rotate_left
                    ·simp only [Act.put, List.setIfInBounds_toArray, List.set_cons_zero, List.set_cons_succ, i64_w, i32_w]
                     rfl
                    exact norm_ (by simp only [putAll, Act.put, List.setIfInBounds_toArray, List.set_cons_zero, List.set_cons_succ]) (hCont (v233) _ ⟨hHeld, (by (with_reducible repeat (first | apply Kd.R_alloc | apply Kd.R_drewN | apply Kd.R_drew)); exact HO234.out), (by (with_reducible repeat (first | apply Kd.R_alloc | apply Kd.R_drewN | apply Kd.R_drew)); exact HO_3.out), (by (with_reducible repeat (first | refine blk_drewN ?_ _ | refine blk_drew ?_ | refine blk_alloc ?_ _)); exact BK218.out), (by (with_reducible repeat (first | refine blk_drewN ?_ _ | refine blk_drew ?_ | refine blk_alloc ?_ _)); exact BK220.out), (by (with_reducible repeat (first | refine blk_drewN ?_ _ | refine blk_drew ?_ | refine blk_alloc ?_ _)); exact BK230.out), (by repeat (first | (with_reducible first | exact HB.out | apply below_alloc | apply pw_below_drewN | apply below_drew1 | refine below_set ?_ GE218.out | refine below_set ?_ GE220.out | refine below_set ?_ GE230.out) | exact HB.out))⟩)
                  rintro v233 w44 ⟨hS_, h0_, h1_, h2_, h3_, h4_, h5_⟩
                  have n0_ : Aside0 (Kd.R Kd.string 9 w44 w.heap.size (fun _ => True) v233 y232) := ⟨h0_⟩
                  have n1_ : Aside0 (Kd.R k43 43 w44 w.heap.size (fun _ => True) (.slice Ao38 x3_2.length co38) x3_2) := ⟨h1_⟩
                  have n2_ : Aside0 (w44.heap[gb218]? = some (.cells #[.string a0_0, .int .i64 a0_1, .slice A0_2 l0_2.length c0_2, .slice (some ad219) l0_3.length c0_3, .int .u64 a0_4] 35 (0, 0))) := ⟨h2_⟩
                  have n3_ : Aside0 (w44.heap[gb220]? = some (.cells #[.int .u64 ((rd_T41 l0_3 x12_1).f0), .string ((rd_T41 l0_3 x12_1).f1), .slice (some ad229) ((rd_T41 l0_3 x12_1).f2).length c219_2] 41 (0, 0))) := ⟨h3_⟩
                  have n4_ : Aside0 (w44.heap[gb230]? = some (.cells #[.int .i64 ((rd_T82 ((rd_T41 l0_3 x12_1).f2) x36_2).f0), .string ((rd_T82 ((rd_T41 l0_3 x12_1).f2) x36_2).f1)] 82 (0, 0))) := ⟨h4_⟩
                  have n5_ : Aside0 (Below w.heap.size w w44) := ⟨h5_⟩
                  clear HO_3
                  clear BK218
                  clear BK220
                  clear BK230
                  clear HB
                  clear h0_ h1_ h2_ h3_ h4_ h5_
                  have HO234 := n0_
                  have HO_3 := n1_
                  have BK218 := n2_
                  have BK220 := n3_
                  have BK230 := n4_
                  have HB := n5_
                  clear n0_ n1_ n2_ n3_ n4_ n5_
                  have hHeld : w44.cell? ⟨gb230, 0, none⟩ = some (.int .i64 ((rd_T82 ((rd_T41 l0_3 x12_1).f2) x36_2).f0)) ∧ w44.cell? ⟨gb230, 1, none⟩ = some (.string ((rd_T82 ((rd_T41 l0_3 x12_1).f2) x36_2).f1)) := hS_
                  obtain ⟨Ao45, co45, eo45⟩ := Kd.R_slice HO234.out
                  (first | subst eo45 | (injection eo45 with f1_ f2_ f3_; have f4_ := f1_.symm; have f5_ := f3_.symm; clear f1_ f2_ f3_; subst f4_; subst f5_))
                  refine norm_ (a' := ?_) ?_ ?_
                  rotate_left
                  ·simp only [putAll, Act.put, List.setIfInBounds_toArray, List.set_cons_zero, List.set_cons_succ]
                   rfl
                  refine one_ (i := 10) (N := some 50) #[true, true, true, true, true, true, true, true, true, true, true, false, false, false, false] rfl rfl (one_of HT_.out (by kernel_rfl)) (by decide) (fun K hK => ?_)
                  refine goes_ Tryz.func13 (by kernel_rfl) rfl #[.slice Ao45 y232.length co45] (by rfl) rfl rfl (by (try simp only [List.map_toArray, List.map_cons, List.map_nil]); first | done | rfl | (simp only [List.length_drop, List.length_take]; rfl)) ?_
                  with_reducible refine (items_val.calls _ _ y232 t235 _ ?side1 ?side2 A32.out).mono ?_
                  (case side1 => repeat (first | exact (Kd.R_reads' HO234.out).2.2 | (with_reducible refine Kd.C_alloc ?_ _) | (with_reducible refine Kd.C_drewN ?_ _) | (with_reducible refine Kd.C_drew ?_)))
                  (case side2 => exact (Kd.R_reads' HO234.out).2.1)
                  rintro e w46 ⟨rfl, hb⟩
                  refine ⟨_, rfl, ?_⟩
                  have n0_ := Aside0.mk (Kd.R_below (by (with_reducible repeat (first | apply Kd.R_alloc | apply Kd.R_drewN | apply Kd.R_drew)); exact HO_3.out) hb)
                  have n1_ := Aside0.mk (Kd.R_below (by (with_reducible repeat (first | apply Kd.R_alloc | apply Kd.R_drewN | apply Kd.R_drew)); exact HO234.out) hb)
                  have n2_ := Aside0.mk (blk_below (g := gb218) (o := .cells #[.string a0_0, .int .i64 a0_1, .slice A0_2 l0_2.length c0_2, .slice (some ad219) l0_3.length c0_3, .int .u64 a0_4] 35 (0, 0)) (by (with_reducible repeat (first | refine blk_drewN ?_ _ | refine blk_drew ?_ | refine blk_alloc ?_ _)); exact BK218.out) hb)
                  have n3_ := Aside0.mk (blk_below (g := gb220) (o := .cells #[.int .u64 ((rd_T41 l0_3 x12_1).f0), .string ((rd_T41 l0_3 x12_1).f1), .slice (some ad229) ((rd_T41 l0_3 x12_1).f2).length c219_2] 41 (0, 0)) (by (with_reducible repeat (first | refine blk_drewN ?_ _ | refine blk_drew ?_ | refine blk_alloc ?_ _)); exact BK220.out) hb)
                  have n4_ := Aside0.mk (blk_below (g := gb230) (o := .cells #[.int .i64 ((rd_T82 ((rd_T41 l0_3 x12_1).f2) x36_2).f0), .string ((rd_T82 ((rd_T41 l0_3 x12_1).f2) x36_2).f1)] 82 (0, 0)) (by (with_reducible repeat (first | refine blk_drewN ?_ _ | refine blk_drew ?_ | refine blk_alloc ?_ _)); exact BK230.out) hb)
                  have n5_ := Aside0.mk (below_step (by repeat (first | (with_reducible first | exact HB.out | apply below_alloc | apply pw_below_drewN | apply below_drew1 | refine below_set ?_ GE218.out | refine below_set ?_ GE220.out | refine below_set ?_ GE230.out) | exact HB.out)) hb)
                  clear HO_3
                  clear HO234
                  clear BK218
                  clear BK220
                  clear BK230
                  clear HB
                  have HO_3 := n0_
                  have HO234 := n1_
                  have BK218 := n2_
                  have BK220 := n3_
                  have BK230 := n4_
                  have HB := n5_
                  clear n0_ n1_ n2_ n3_ n4_ n5_
                  (try clear hb)
                  (try clear hb2)
                  (try clear hk)
                  (try clear hi)
                  refine hK.out _ _ ⟨(blk_cell BK230.out 0).trans rfl, (blk_cell BK230.out 1).trans rfl⟩ (fun hHeld => ?_)
                  clear hK K
                  refine norm_ (a' := ?_) ?_ ?_
                  rotate_left
                  ·show Act.put _ (some 50) _ = _
                   simp only [Act.put, List.setIfInBounds_toArray, List.set_cons_zero, List.set_cons_succ, i64_w, i32_w]
                   rfl
                  refine pure_ (i := 11) (N := some 51) (v := ?_) (a' := ?_) #[true, true, true, true, true, true, true, true, true, true, true, true, false, false, false] rfl rfl (any_of HT_.out (by kernel_rfl)) (fun _ _ _ h => h) (Or.inl ⟨by rfl, ?_⟩) ?_ ?_
                  rotate_left
                  ·intro w'
                   go_simp
                   with_reducible rfl
                  rotate_left
                  ·simp only [Act.put, List.setIfInBounds_toArray, List.set_cons_zero, List.set_cons_succ, i64_w, i32_w]
                   rfl
                  refine one_ (i := 12) (N := some 52) #[true, true, true, true, true, true, true, true, true, true, true, true, true, false, false] rfl rfl (one_of HT_.out (by kernel_rfl)) (by decide) (fun K hK => ?_)
                  refine value_ (w1 := ?_) (v := ?_) (by rfl) rfl ?_ ?_
                  rotate_left 2
                  ·go_simp
                   constructor
                   ·rfl
                   ·rfl
                  refine hK.out _ _ ⟨(blk_cell (blk_alloc BK230.out _) 0).trans rfl, (blk_cell (blk_alloc BK230.out _) 1).trans rfl⟩ (fun hHeld => ?_)
                  clear hK K
                  refine norm_ (a' := ?_) ?_ ?_
                  rotate_left
                  ·show Act.put _ (some 52) _ = _
                   simp only [Act.put, List.setIfInBounds_toArray, List.set_cons_zero, List.set_cons_succ, i64_w, i32_w]
                   rfl
                  refine one_ (i := 13) (N := some 53) #[true, true, true, true, true, true, true, true, true, true, true, true, true, true, false] rfl rfl (one_of HT_.out (by kernel_rfl)) (by decide) (fun K hK => ?_)
                  refine Kd.R_append_step k43 (w0 := w) w.heap.size (by rfl) (.tmp 40) (.tmp 52) 26 43 (.agg #[(.string ⟨#[]⟩), (.string ⟨#[]⟩)]) 32 rfl Tryz.underlying26 info43 rfl (by decide) (by omega) (.slice Ao38 x3_2.length co38) x3_2 (⟨((⟨#[112]⟩ : ByteArray) ++ ((a0_0 ++ (⟨#[10]⟩ : ByteArray)) ++ t221)) ++ t231, t235⟩ : S43) [.string (((⟨#[112]⟩ : ByteArray) ++ ((a0_0 ++ (⟨#[10]⟩ : ByteArray)) ++ t221)) ++ t231), .string t235] (fun _ => True) (fun _ => False) rfl rfl ?aP (fun _ hk => hk.elim) ?aF ?aO ?aB ?aS ?aL ?_
                  (case aP => exact k43_mkM _ _ _ (⟨((⟨#[112]⟩ : ByteArray) ++ ((a0_0 ++ (⟨#[10]⟩ : ByteArray)) ++ t221)) ++ t231, t235⟩ : S43))
                  (case aB => exact (by repeat (first | (with_reducible first | exact HB.out | apply below_alloc | apply pw_below_drewN | apply below_drew1 | refine below_set ?_ GE218.out | refine below_set ?_ GE220.out | refine below_set ?_ GE230.out) | exact HB.out)))
                  (case aF => exact (fun _ _ => trivial))
                  (case aO => exact (by (with_reducible repeat (first | apply Kd.R_alloc | apply Kd.R_drewN | apply Kd.R_drew)); exact HO_3.out))
                  (case aS => exact (below_size (by repeat (first | (with_reducible first | exact HB.out | apply below_alloc | apply pw_below_drewN | apply below_drew1 | refine below_set ?_ GE218.out | refine below_set ?_ GE220.out | refine below_set ?_ GE230.out) | exact HB.out))))
                  (case aL => have := LMc33.out; omega)
                  intro v237 w47 ho hb hg hat
                  rw [← Ny236.out] at ho
                  have n0_ := Aside0.mk (blk_grown (g := gb218) (o := .cells #[.string a0_0, .int .i64 a0_1, .slice A0_2 l0_2.length c0_2, .slice (some ad219) l0_3.length c0_3, .int .u64 a0_4] 35 (0, 0)) (by (with_reducible repeat (first | refine blk_drewN ?_ _ | refine blk_drew ?_ | refine blk_alloc ?_ _)); exact BK218.out) hg (Kd.R_ne HO_3.out BK218.out (by decide)))
                  have n1_ := Aside0.mk (blk_grown (g := gb220) (o := .cells #[.int .u64 ((rd_T41 l0_3 x12_1).f0), .string ((rd_T41 l0_3 x12_1).f1), .slice (some ad229) ((rd_T41 l0_3 x12_1).f2).length c219_2] 41 (0, 0)) (by (with_reducible repeat (first | refine blk_drewN ?_ _ | refine blk_drew ?_ | refine blk_alloc ?_ _)); exact BK220.out) hg (Kd.R_ne HO_3.out BK220.out (by decide)))
                  have n2_ := Aside0.mk (blk_grown (g := gb230) (o := .cells #[.int .i64 ((rd_T82 ((rd_T41 l0_3 x12_1).f2) x36_2).f0), .string ((rd_T82 ((rd_T41 l0_3 x12_1).f2) x36_2).f1)] 82 (0, 0)) (by (with_reducible repeat (first | refine blk_drewN ?_ _ | refine blk_drew ?_ | refine blk_alloc ?_ _)); exact BK230.out) hg (Kd.R_ne HO_3.out BK230.out (by decide)))
                  have n3_ := Aside0.mk (Kd.R_over' (by (with_reducible repeat (first | apply Kd.R_alloc | apply Kd.R_drewN | apply Kd.R_drew)); exact HO234.out) (Kd.R_typed (by (with_reducible repeat (first | apply Kd.R_alloc | apply Kd.R_drewN | apply Kd.R_drew)); exact HO_3.out)) (by decide) hg)
                  have n4_ := Aside0.mk (hb)
                  have n5_ := Aside0.mk (ho)
                  clear BK218
                  clear BK220
                  clear BK230
                  clear HO234
                  clear HB
                  clear HO_3
                  have BK218 := n0_
                  have BK220 := n1_
                  have BK230 := n2_
                  have HO234 := n3_
                  have HB := n4_
                  have HO238 := n5_
                  clear n0_ n1_ n2_ n3_ n4_ n5_
                  clear ho hb hg hat
                  refine hK.out _ _ ⟨(blk_cell BK230.out 0).trans rfl, (blk_cell BK230.out 1).trans rfl⟩ (fun hHeld => ?_)
                  clear hK K
                  refine norm_ (a' := ?_) ?_ ?_
                  rotate_left
                  ·show Act.put _ (some 53) _ = _
                   simp only [Act.put, List.setIfInBounds_toArray, List.set_cons_zero, List.set_cons_succ, i64_w, i32_w]
                   rfl
                  refine pure_ (i := 14) (N := some 3) (v := ?_) (a' := ?_) #[true, true, true, true, true, true, true, true, true, true, true, true, true, true, true] rfl rfl (any_of HT_.out (by kernel_rfl)) (fun _ _ _ h => h) (Or.inl ⟨by rfl, ?_⟩) ?_ ?_
                  rotate_left
                  ·intro w'
                   go_simp
                   with_reducible rfl
                  rotate_left
                  ·simp only [Act.put, List.setIfInBounds_toArray, List.set_cons_zero, List.set_cons_succ, i64_w, i32_w]
                   rfl
                  refine done_ (done_of HT_.out (by kernel_rfl)) ?_
                  try go_wp2
                  go_roundg k2
                  case measure => have := HK1.out; have := HK2.out; omega
                  case rel => exact ⟨(y236), (wrap64 (x36_2 + 1)), (by first | rfl | (simp; done) | (simp [*]; done)), H', ⟨by have := HK1.out; have := HK2.out; omega⟩, ⟨by (with_reducible repeat (first | apply Kd.R_alloc | apply Kd.R_drewN | apply Kd.R_drew)); exact HO238.out⟩, ⟨by (with_reducible repeat (first | refine blk_drewN ?_ _ | refine blk_drew ?_ | refine blk_alloc ?_ _)); exact BK218.out⟩, ⟨by (with_reducible repeat (first | refine blk_drewN ?_ _ | refine blk_drew ?_ | refine blk_alloc ?_ _)); exact BK220.out⟩, ⟨by repeat (first | (with_reducible first | exact HB.out | apply below_alloc | apply pw_below_drewN | apply below_drew1 | refine below_set ?_ GE218.out | refine below_set ?_ GE220.out | refine below_set ?_ GE230.out) | exact HB.out)⟩⟩
                 ·rw [if_neg c33] at H
                  exact absurd H (by simp)
                ·rw [if_neg c31] at H
                 exact absurd H (by simp)
               ·rw [if_neg c29] at H
                exact absurd H (by simp)
              ·rw [if_neg c28] at H
               exact absurd H (by simp)
             ·rw [if_neg c27] at H
              exact absurd H (by simp)
            ·rw [if_neg c26] at H
             have c26b0 : decide (x36_2 < (((rd_T41 l0_3 x12_1).f2).length : Int)) = false := decide_eq_false c26
             clear c26
             have H' := Aside0.mk H
             clear H
             go_wp2
             go_roundg k2
             case measure => have := HK1.out; have := HK2.out; omega
             case rel => exact ⟨(x3_2), (wrap64 (x12_1 + 1)), (by first | rfl | (simp; done) | (simp [*]; done)), H', ⟨by have := HK1.out; have := HK2.out; omega⟩, ⟨by (with_reducible repeat (first | apply Kd.R_alloc | apply Kd.R_drewN | apply Kd.R_drew)); exact HO_3.out⟩, ⟨by (with_reducible repeat (first | refine blk_drewN ?_ _ | refine blk_drew ?_ | refine blk_alloc ?_ _)); exact BK218.out⟩, ⟨by repeat (first | (with_reducible first | exact HB.out | apply below_alloc | apply pw_below_drewN | apply below_drew1 | refine below_set ?_ GE218.out | refine below_set ?_ GE220.out) | exact HB.out)⟩⟩
         ·rw [if_neg c12] at H
          exact absurd H (by simp)
        ·rw [if_neg c10] at H
         exact absurd H (by simp)
       ·rw [if_neg c9] at H
        exact absurd H (by simp)
      ·rw [if_neg c7] at H
       exact absurd H (by simp)
     ·rw [if_neg c6] at H
      exact absurd H (by simp)
    ·rw [if_neg c5] at H
     exact absurd H (by simp)
   ·rw [if_neg c4] at H
    have c4b0 : decide (x12_1 < (l0_3.length : Int)) = false := decide_eq_false c4
    clear c4
    obtain rfl := Option.some.inj H
    go_wp2
    go_ret
    exact ⟨_, by first | rfl | (simp [errW_none, errW_some] <;> rfl) | (simp [*, errW_none, errW_some] <;> rfl), by (with_reducible repeat (first | apply Kd.R_alloc | apply Kd.R_drewN | apply Kd.R_drew)); exact HO_3.out, by repeat (first | (with_reducible first | exact HB.out | apply below_alloc | apply pw_below_drewN | apply below_drew1 | refine below_set ?_ GE218.out) | exact HB.out)⟩












































end Go.Proofs.YtafeepdlcilicaaGreat.Q

-- I1
namespace Go.Proofs.YtafeepdlcilicaaGreat.Q
open Go.WideMaps Go.RowKit Go.Proofs.YtafeepdlcilicaaGreatW.PrintWords Go.Proofs.YtafeepdlcilicaaGreatW.PrintLast Go.Proofs.YtafeepdlcilicaaGreatW.PrintMore Go.Maps
set_option linter.unusedVariables false
set_option linter.unusedSimpArgs false

/-! ### a depot's items in plain words -/
def numB8 (n : Int) : ByteArray := num8 (IntKind.u64.wrap n)
def markI (m : Bool) : Int := if m = true then 1 else 0
def verName (nm key : ByteArray) (id : Int) : ByteArray := (((((⟨#[118]⟩ : ByteArray) ++ nm) ++ (⟨#[10]⟩ : ByteArray)) ++ key) ++ (⟨#[10]⟩ : ByteArray)) ++ num8 id
def verItem (nm key : ByteArray) (n i : Nat) (v : S80) : S43 := ⟨verName nm key v.f0, listB [numB8 ((n : Int) - 1 - i), numB8 v.f3, numB8 (markI v.f2), v.f1]⟩
def verFrom (nm key : ByteArray) (n : Nat) : Nat → List S80 → List S43
 | _, [] => []
 | i, v :: vs => verItem nm key n i v :: verFrom nm key n (i + 1) vs
def versL (nm : ByteArray) (x : S38) : List S43 := verFrom nm x.f0 x.f1.length 0 x.f1
def upId (nm : ByteArray) (id : Int) : ByteArray := (nm ++ (⟨#[10]⟩ : ByteArray)) ++ num8 id
def partItem (id : ByteArray) (p : S82) : S43 := ⟨((⟨#[112]⟩ : ByteArray) ++ id) ++ numB8 p.f0, listB [p.f1]⟩
def upItems (nm : ByteArray) (u : S41) : List S43 := ⟨(⟨#[117]⟩ : ByteArray) ++ upId nm u.f0, listB [u.f1]⟩ :: u.f2.map (partItem (upId nm u.f0))
def upsL (nm : ByteArray) (l : List S41) : List S43 := l.flatMap (upItems nm)
def bItem (b : S35) : S43 := ⟨(⟨#[98]⟩ : ByteArray) ++ b.f0, listB [numB8 b.f1, num8 b.f4]⟩
def bItems (b : S35) : List S43 := bItem b :: (b.f2.flatMap (versL b.f0) ++ upsL b.f0 b.f3)
def tItem (now : Int) : S43 := ⟨⟨#[116]⟩, listB [numB8 now]⟩
def depL (now : Int) (l : List S35) : List S43 := tItem now :: l.flatMap bItems

theorem num_ge (n : Int) (k : Nat) (hk : 9 ≤ k) : wire_Num.f k n = some (num8 n) := by
 obtain ⟨d, rfl⟩ : ∃ d, k = 9 + d := ⟨k - 9, by omega⟩
 exact fuel_up (fun k => wire_Num.mono n k) (num8_eq n) d
theorem inum_ge (n : Int) (k : Nat) (hk : 9 ≤ k) : items_num.f k n = some (numB8 n) := by
 unfold items_num.f
 rw [num_ge _ k hk]
 rfl
theorem okL_1 {s : ByteArray} (h : s.size ≤ 4000) : items_val.f [s] = some (listB [s]) := by
 unfold items_val.f okL
 rw [if_pos (by simp [h])]
theorem okL_2 {a b : ByteArray} (h : a.size ≤ 4000) (h2 : b.size ≤ 4000) : items_val.f [a, b] = some (listB [a, b]) := by
 unfold items_val.f okL
 rw [if_pos (by simp [h, h2])]
theorem okL_4 {a b c d : ByteArray} (h : a.size ≤ 4000) (h2 : b.size ≤ 4000) (h3 : c.size ≤ 4000) (h4 : d.size ≤ 4000) : items_val.f [a, b, c, d] = some (listB [a, b, c, d]) := by
 unfold items_val.f okL
 rw [if_pos (by simp [h, h2, h3, h4])]
theorem numB8_size (n : Int) : (numB8 n).size = 8 := rfl
theorem verFrom_len (nm key : ByteArray) (n : Nat) : ∀ (vs : List S80) (i : Nat), (verFrom nm key n i vs).length = vs.length
 | [], _ => rfl
 | v :: vs, i => by show (_ :: _).length = _; rw [List.length_cons, verFrom_len nm key n vs (i + 1), List.length_cons]
theorem ver_j1 (nm key : ByteArray) (hn : nm.size ≤ 20) (hk : key.size ≤ 60) (st la : Int) (L : List S38) (U : List S41) (vs : List S80) (hl : vs.length ≤ 20) (i : Nat) (hi : i < vs.length) (acc : List S43) (ha : acc.length ≤ 20) (v : S80) (hv : v.f1.size ≤ 2000) (m : Int) (K : Nat) (hK : 9 ≤ K) :
  items_versions.j1 (K + 1) acc i m vs (vs.length : Int) i nm st L U la key vs v.f0 v.f1 v.f2 v.f3 = items_versions.l0 K (acc ++ [⟨verName nm key v.f0, listB [numB8 ((vs.length : Int) - 1 - i), numB8 v.f3, numB8 m, v.f1]⟩]) vs (vs.length : Int) ((i + 1 : Nat) : Int) nm st L U la key vs := by
 simp only [items_versions.j1]
 have e0 : wrap64 ((wrap64 ((vs.length : Int) - 1)) - (i : Int)) = (vs.length : Int) - 1 - i := by rw [wrap64_of (x := (vs.length : Int) - 1) (by omega) (by omega), wrap64_of (by omega) (by omega)]
 rw [if_pos (by omega), if_pos (by simp only [ByteArray.size_append, sz118]; omega), if_pos (by simp only [ByteArray.size_append, sz118, sz10]; omega), if_pos (by simp only [ByteArray.size_append, sz118, sz10]; omega), num_ge _ K hK, Option.bind_some,
  if_pos (by simp only [ByteArray.size_append, sz118, sz10, num8_size]; omega), e0, inum_ge _ K hK, Option.bind_some, inum_ge _ K hK, Option.bind_some, inum_ge _ K hK, Option.bind_some,
  okL_4 (by rw [numB8_size]; decide) (by rw [numB8_size]; decide) (by rw [numB8_size]; decide) (by omega), Option.bind_some, if_pos (by omega), succ_w i (by unfold bigN; omega)]
 rfl
theorem ver_l0 (nm key : ByteArray) (hn : nm.size ≤ 20) (hk : key.size ≤ 60) (st la : Int) (L : List S38) (U : List S41) (vs : List S80) (hl : vs.length ≤ 20) (hv : ∀ v ∈ vs, v.f1.size ≤ 2000) : ∀ (d i : Nat) (acc : List S43), i + d = vs.length → acc.length = i →
  items_versions.l0 (2 * d + 12) acc vs (vs.length : Int) (i : Int) nm st L U la key vs = some (acc ++ verFrom nm key vs.length i (vs.drop i)) := by
 intro d
 induction d with
 | zero =>
  intro i acc hi ha
  show items_versions.l0 (11 + 1) _ _ _ _ _ _ _ _ _ _ _ = _
  simp only [items_versions.l0]
  rw [if_neg (by omega), List.drop_eq_nil_of_le (by omega)]
  simp [verFrom]
 | succ d ih =>
  intro i acc hi ha
  have hi' : i < vs.length := by omega
  show items_versions.l0 (2 * d + 13 + 1) _ _ _ _ _ _ _ _ _ _ _ = _
  generalize hK : 2 * d + 13 = K
  simp only [items_versions.l0]
  subst hK
  rw [if_pos (by omega), if_pos (by omega), if_pos (by omega), rdV' vs i hi', List.drop_eq_getElem_cons hi']
  have hvi := hv vs[i] (List.getElem_mem hi')
  show _ = some (acc ++ (verItem nm key vs.length i vs[i] :: verFrom nm key vs.length (i + 1) (vs.drop (i + 1))))
  have hj := fun m => ver_j1 nm key hn hk st la L U vs hl i hi' acc (by omega) vs[i] hvi m (2 * d + 12) (by omega)
  have hih := fun x => ih (i + 1) (acc ++ [x]) (by omega) (by simp [ha])
  cases hm : vs[i].f2
  ·rw [if_neg (by simp)]
   have := hj 0
   rw [hm] at this
   rw [this, hih, List.append_assoc]
   unfold verItem markI
   rw [hm]; rfl
  ·rw [if_pos rfl]
   have := hj 1
   rw [hm] at this
   rw [this, hih, List.append_assoc]
   unfold verItem markI
   rw [hm]; rfl
theorem versions_f (nm key : ByteArray) (hn : nm.size ≤ 20) (hk : key.size ≤ 60) (st la : Int) (L : List S38) (U : List S41) (vs : List S80) (hl : vs.length ≤ 20) (hv : ∀ v ∈ vs, v.f1.size ≤ 2000) :
  items_versions.f (2 * vs.length + 12) nm st L U la key vs = some (verFrom nm key vs.length 0 vs) := by
 unfold items_versions.f
 have := ver_l0 nm key hn hk st la L U vs hl hv vs.length 0 [] (by omega) rfl
 rw [List.drop_zero, List.nil_append] at this
 exact this
theorem up_l1 (nm : ByteArray) (hn : nm.size ≤ 20) (st la : Int) (L : List S38) (U : List S41) (i : Nat) (hi : (i : Int) < bigN) (id : ByteArray) (hid : id.size ≤ 100) (ps : List S82) (hp : ps.length ≤ 30) (hs : ∀ p ∈ ps, p.f1.size ≤ 2000) (K : Nat) (hK : 9 ≤ K) : ∀ (d j : Nat) (acc : List S43), j + d = ps.length → acc.length + d ≤ 1000 →
  items_uploads.l1 (K + d + 1) acc id U (U.length : Int) i ps (ps.length : Int) (j : Int) nm st L U la = items_uploads.l0 K (acc ++ (ps.drop j).map (partItem id)) U (U.length : Int) ((i + 1 : Nat) : Int) nm st L U la := by
 intro d
 induction d with
 | zero =>
  intro j acc hj ha
  rw [show K + 0 + 1 = K + 1 from rfl]
  simp only [items_uploads.l1]
  rw [if_neg (by omega), succ_w i hi, List.drop_eq_nil_of_le (by omega), List.map_nil, List.append_nil]
 | succ d ih =>
  intro j acc hj ha
  have hj' : j < ps.length := by omega
  rw [show K + (d + 1) + 1 = (K + d + 1) + 1 from rfl]
  generalize hM : K + d + 1 = M
  simp only [items_uploads.l1]
  subst hM
  have hpj := hs ps[j] (List.getElem_mem hj')
  rw [if_pos (by omega), if_pos (by omega), if_pos (by omega), if_pos (by omega), rdP' ps j hj', inum_ge _ _ (by omega), Option.bind_some, if_pos (by simp only [ByteArray.size_append, sz112, numB8_size]; omega), okL_1 (by omega), Option.bind_some, if_pos (by omega), succ_w j (by unfold bigN; omega),
   ih (j + 1) _ (by omega) (by rw [List.length_append, List.length_singleton]; omega), List.drop_eq_getElem_cons hj', List.map_cons, List.append_assoc]
  rfl
def needU : List S41 → Nat
 | [] => 10
 | u :: us => needU us + u.f2.length + 2
theorem needU_ge : ∀ us : List S41, 10 ≤ needU us
 | [] => Nat.le_refl _
 | u :: us => by have := needU_ge us; show 10 ≤ _ + _ + 2; omega
theorem upItems_len (nm : ByteArray) (u : S41) : (upItems nm u).length = u.f2.length + 1 := by unfold upItems; rw [List.length_cons, List.length_map]
theorem up_l0 (nm : ByteArray) (hn : nm.size ≤ 20) (st la : Int) (L : List S38) (U : List S41) (hU : U.length ≤ 10) (h1 : ∀ u ∈ U, u.f1.size ≤ 60 ∧ u.f2.length ≤ 30 ∧ ∀ p ∈ u.f2, p.f1.size ≤ 2000) : ∀ (us : List S41) (i : Nat) (acc : List S43), us = U.drop i → i ≤ U.length → acc.length ≤ 31 * i →
  items_uploads.l0 (needU us) acc U (U.length : Int) (i : Int) nm st L U la = some (acc ++ upsL nm us) := by
 intro us
 induction us with
 | nil =>
  intro i acc hu hi ha
  have : U.length ≤ i := by
   have := congrArg List.length hu
   rw [List.length_drop] at this; simp at this; omega
  show items_uploads.l0 (9 + 1) _ _ _ _ _ _ _ _ _ = _
  simp only [items_uploads.l0]
  rw [if_neg (by omega)]
  simp [upsL]
 | cons u us ih =>
  intro i acc hu hi ha
  have hlen : i < U.length := by
   have := congrArg List.length hu
   rw [List.length_drop] at this; simp only [List.length_cons] at this; omega
  rw [List.drop_eq_getElem_cons hlen] at hu
  injection hu with hu1 hu2
  obtain ⟨g1, g2, g3⟩ := h1 U[i] (List.getElem_mem hlen)
  rw [← hu1] at g1 g2 g3
  have hge := needU_ge us
  show items_uploads.l0 (needU us + u.f2.length + 1 + 1) _ _ _ _ _ _ _ _ _ = _
  generalize hK : needU us + u.f2.length + 1 = K
  simp only [items_uploads.l0]
  subst hK
  rw [if_pos (by omega), if_pos (by omega), if_pos (by omega), rdU' U i hlen, ← hu1, if_pos (by omega), num_ge _ _ (by omega), Option.bind_some, if_pos (by simp only [ByteArray.size_append, sz10, num8_size]; omega), if_pos (by simp only [ByteArray.size_append, sz10, num8_size]; omega), okL_1 (by omega), Option.bind_some, if_pos (by omega)]
  have := up_l1 nm hn st la L U i (by unfold bigN; omega) (upId nm u.f0) (by unfold upId; simp only [ByteArray.size_append, sz10, num8_size]; omega) u.f2 g2 g3 (needU us) (by omega) u.f2.length 0 (acc ++ [⟨(⟨#[117]⟩ : ByteArray) ++ upId nm u.f0, listB [u.f1]⟩]) (by omega) (by rw [List.length_append, List.length_singleton]; omega)
  rw [show ((0 : Nat) : Int) = 0 from rfl, List.drop_zero] at this
  refine this.trans ?_
  have e : acc ++ [⟨(⟨#[117]⟩ : ByteArray) ++ upId nm u.f0, listB [u.f1]⟩] ++ u.f2.map (partItem (upId nm u.f0)) = acc ++ upItems nm u := by rw [List.append_assoc]; rfl
  rw [e, ih (i + 1) _ hu2 (by omega) (by rw [List.length_append, upItems_len]; omega), List.append_assoc]
  unfold upsL
  rw [List.flatMap_cons]
theorem uploads_f (nm : ByteArray) (hn : nm.size ≤ 20) (st la : Int) (L : List S38) (U : List S41) (hU : U.length ≤ 10) (h1 : ∀ u ∈ U, u.f1.size ≤ 60 ∧ u.f2.length ≤ 30 ∧ ∀ p ∈ u.f2, p.f1.size ≤ 2000) :
  items_uploads.f (needU U) nm st L U la = some (upsL nm U) := by
 unfold items_uploads.f
 have := up_l0 nm hn st la L U hU h1 U 0 [] rfl (Nat.zero_le _) (Nat.zero_le _)
 rw [List.nil_append] at this
 exact this
end Go.Proofs.YtafeepdlcilicaaGreat.Q

-- I2
namespace Go.Proofs.YtafeepdlcilicaaGreat.Q
open Go.WideMaps Go.RowKit Go.Proofs.YtafeepdlcilicaaGreatW.PrintWords Go.Proofs.YtafeepdlcilicaaGreatW.PrintLast Go.Proofs.YtafeepdlcilicaaGreatW.PrintMore Go.Maps
set_option linter.unusedVariables false
set_option linter.unusedSimpArgs false
open List (getElem_toArray getElem_cons_zero getElem_cons_succ setIfInBounds_toArray set_cons_zero set_cons_succ)

/-! ### items.Of -/
attribute [local go_sem] Oper.semAt_some
theorem strs_new (W : World) (l : List ByteArray) (hn : l.length ≤ 1000) : Kd.C Kd.string (W.alloc (.cells (l.map Value.string).toArray 9)) (some ⟨W.heap.size, 0, none⟩) l.length l := by
 refine ⟨rfl, by omega, fun _ => ⟨_, rfl, fun j x hx => ⟨[.string x], rfl, rfl, fun i u hu => ?_⟩⟩⟩
 have hi : i = 0 := by
  have := (List.getElem?_eq_some_iff.1 hu).1
  simpa using this
 subst hi
 have := raw_new W (l.map Value.string).toArray 9 W.heap.size rfl j (.string x) (by simp [hx])
 have hu' : u = .string x := by simpa using hu.symm
 subst hu'
 show (W.alloc _).cell? (Addr.add ⟨W.heap.size, 0, none⟩ (j * 1 + 0)) = _
 rw [Nat.mul_one]
 exact this
theorem NRow35.of_R {w : World} {base : Nat} {ok : Nat → Prop} {v : Value} {l : List S43} (h : Kd.R k43 43 w base ok v l) : NRow35 w base v l := by
 obtain ⟨_, inner, hown, hr⟩ := h
 have e : inner = fl35 l := by
  apply List.ext_getElem?
  intro t
  have e1 : t = t / 2 * 2 + t % 2 := by omega
  have hm : t % 2 < 2 := Nat.mod_lt _ (by decide)
  have hl : inner.length = l.length * 2 := hr.1
  by_cases hj : t / 2 < l.length
  ·have hM := hr.2 (t / 2) l[t / 2] (List.getElem?_eq_getElem hj)
   have hO : List.take 2 (List.drop (t / 2 * 2) inner) = [.string l[t / 2].f0, .string l[t / 2].f1] := k43_openM hM
   rw [e1, fl35_at l _ _ hm, List.getElem?_eq_getElem hj, Option.bind_some, show enc35 l[t / 2] = [.string l[t / 2].f0, .string l[t / 2].f1] from rfl, ← hO, List.getElem?_take_of_lt hm, List.getElem?_drop]
  ·rw [List.getElem?_eq_none (by omega), List.getElem?_eq_none (by rw [fl35_len]; omega)]
 subst e
 exact hown
theorem appI {ops : Array Oper} {rest : List Oper} {o : Oper} {a : Act} {Q : Exit → Act → World → Prop} {w0 W : World} (base : Nat) (hgd : o.guard = none) (s x : Operand) (ho : o.op = .call { callee := .builtin .append, args := #[s, x], argTypes := #[26, 26] })
  (v : Value) (xs ys : List S43) (A : Option Addr) (m c : Nat) (ok : Nat → Prop) (hs : a.eval s = v) (hx : a.eval x = .slice A m c) (HO : Kd.R k43 43 W base ok v xs) (HR : Kd.C k43 W A m ys) (hfresh : ∀ k, W.heap.size ≤ k → ok k) (HB : Below base w0 W) (hbase : base ≤ W.heap.size) (hl : xs.length + m ≤ 1000000)
  (h : ∀ v1 w1, Kd.R k43 43 w1 base ok v1 (xs ++ ys) → Below base w0 w1 → W.grownBy w1 v.ownBlock → (v1.ownBlock = v.ownBlock ∨ ∃ b, v1.ownBlock = some b ∧ W.heap.size ≤ b) → wpList Tryz.prog ops Q rest (a.put o.dst v1) w1) :
  wpList Tryz.prog ops Q (o :: rest) a W :=
 Kd.R_append_rows k43 base hgd s x 26 43 (.agg #[(.string ⟨#[]⟩), (.string ⟨#[]⟩)]) 32 ho Tryz.underlying26 info43 rfl (by decide) (by decide) v xs ys A m c ok (fun _ => False) hs hx HO HR (fun _ _ h => h) (fun _ h => h.elim) hfresh HB hbase (by omega) h
theorem depot_at {now : Int} {l : List S35} (h : depotB now l = true) : 0 ≤ now ∧ now ≤ 1099511627775 ∧ l.length ≤ 6 ∧ ∀ j (hj : j < l.length), bucketB l[j] = true ∧ l[j].f2.any (lateE now) = false ∧ upD l j = true := by
 unfold depotB at h
 simp only [Bool.and_eq_true, decide_eq_true_eq] at h
 refine ⟨h.1, h.2.1, h.2.2.1, fun j hj => ?_⟩
 have := allFrom_at h.2.2.2 j (Nat.zero_le _) (by omega)
 unfold depAt at this
 rw [getD_at l j _ hj] at this
 simp only [Bool.and_eq_true, Bool.not_eq_true'] at this
 exact this
theorem bucket_at {b : S35} (h : bucketB b = true) : headB b = true ∧ indexB b.f2 = true ∧ checkB b.f3 = true ∧ octB b.f2 b.f3 ≤ 20000 ∧ b.f2.all (nearB b.f4 b.f1) = true ∧ b.f3.any (updB b.f4) = false := by
 unfold bucketB at h
 simp only [Bool.and_eq_true, decide_eq_true_eq, Bool.not_eq_true'] at h
 exact ⟨h.1, h.2.1, h.2.2.1, h.2.2.2.1, h.2.2.2.2.1, h.2.2.2.2.2⟩
theorem head_at {b : S35} (h : headB b = true) : bnameB b.f0 = true ∧ 0 ≤ b.f1 ∧ b.f1 ≤ 2 ∧ b.f4 ≤ 281474976710655 := by
 unfold headB at h
 simp only [Bool.and_eq_true, decide_eq_true_eq] at h
 exact h
theorem bname_size {s : ByteArray} (h : bnameB s = true) : s.size ≤ 20 := by
 unfold bnameB wordB at h
 simp only [Bool.and_eq_true, decide_eq_true_eq] at h
 exact h.1.2.1
theorem key_size {s : ByteArray} (h : keyB s = true) : s.size ≤ 60 := by
 unfold keyB at h
 simp only [Bool.and_eq_true, decide_eq_true_eq] at h
 exact h.2.1
theorem versL_len (nm : ByteArray) (x : S38) : (versL nm x).length = x.f1.length := verFrom_len _ _ _ _ _
theorem flat_le {α β : Type} (f : α → List β) (m : Nat) : ∀ l : List α, (∀ x ∈ l, (f x).length ≤ m) → (l.flatMap f).length ≤ m * l.length
 | [], _ => by simp
 | x :: l, h => by
  rw [List.flatMap_cons, List.length_append, List.length_cons, Nat.mul_succ]
  have h1 := h x List.mem_cons_self
  have h2 := flat_le f m l (fun y hy => h y (List.mem_cons_of_mem _ hy))
  omega
theorem bItems_len {b : S35} (h : bucketB b = true) : (bItems b).length ≤ 2000 := by
 obtain ⟨_, h2, h3, _⟩ := bucket_at h
 have a := flat_le (versL b.f0) 20 b.f2 (fun x hx => by rw [versL_len]; exact (chain_small (index_mem h2 x hx).2.2).1)
 have a1 := (index_at h2).1
 have c := flat_le (upItems b.f0) 31 b.f3 (fun u hu => by rw [upItems_len]; have := (fine_small ((check_mem h3).2 u hu)).2.2.1; omega)
 have c1 := (check_mem h3).1
 unfold bItems upsL
 rw [List.length_cons, List.length_append]
 omega
theorem flat_snoc {α β : Type} (f : α → List β) (l : List α) (k : Nat) (h : k < l.length) : (l.take (k + 1)).flatMap f = (l.take k).flatMap f ++ f l[k] := by
 rw [List.take_succ_eq_append_getElem h, List.flatMap_append]; simp
set_option maxHeartbeats 16000000 in
set_option maxRecDepth 100000 in
theorem of_yes.walk (now : Int) (A : Option Addr) (c : Nat) (l : List S35) (w : World) (hr : Kd.C k35 w A l.length l) (hd : depotB now l = true) :
  Calls Tryz.prog 6 #[.agg #[.int .i64 now, .slice A l.length c]] w fun e w' => ∃ v zs, e = .returned (.tuple #[v, .int .i64 0]) ∧ NRow35 w' w.heap.size v zs ∧ zs.Perm (depL now l) ∧ zs.Pairwise (fun a b => ¬ ltN b.f0 a.f0) ∧ Below w.heap.size w w' := by
 have HCK := Lib.hid (fun (W : World) (h : Below w.heap.size w W) => depot.walk now A c l W (Kd.C_below hr h))
 rw [hd, show errB true = 0 from rfl] at HCK
 have HR := Lib.hid hr
 have HD := Lib.hid hd
 have hlen : (l.length : Int) ≤ 9223372036854775807 := by have := hr.2.1; omega
 clear hr hd
 have HB0 := Lib.hid ((Below.refl w.heap.size w).alloc (Nat.le_refl _) (.cells #[.int .i64 now, .slice A l.length c] 24))
 have K0 := Lib.hid (blk_new w (.cells #[.int .i64 now, .slice A l.length c] 24))
 go_enter Tryz.func6, Tryz.ntmps6
 go_wp2_with (first
  | (go_at_call 12; refine (HCK.out _ HB0.out).mono ?_; rintro e w2 ⟨rfl, hb⟩; have HB2 := keepB HB0 hb; have K2 := Lib.hid (blk_below K0.out hb); have q0 := (blk_cell K2.out 0).trans (rfl : _ = some (Value.int .i64 now)); have q1 := (blk_cell K2.out 1).trans (rfl : _ = some (Value.slice A l.length c)); clear hb)
  | (go_at_call 14; refine (items_num.calls 9 now _ _ (inum_ge now 9 (Nat.le_refl _))).mono ?_; rintro e w3 ⟨rfl, hb⟩; have HB3 := keepB HB2 hb; have K3 := Lib.hid (blk_below K2.out hb); clear hb)
  | ((with_reducible refine gate_dst (N := 15) rfl ?_); go_must (refine Kd.R_lit Kd.string w3.heap.size 9 ?hg (N := 15) ?hd (w0 := w3) (xs := [numB8 now]) (inner := [.string (numB8 now)]) (ok := fun _ => True) (okp := fun _ => True) ?hr ?hp (fun _ hk => hk) trivial ?hB ?hS (by show (1 : Nat) ≤ _; decide) ?_; (case hd => rfl); (case hg => rfl); (case hr => first | (go_simp; done) | (go_simp; rfl)); (case hp => exact str_lit1); (case hB => exact Below.refl _ _); (case hS => exact Nat.le_refl _); intro v4 w4 ho hb _ _; have HB4 := keepB HB3 hb; have K4 := Lib.hid (blk_below K3.out hb); obtain ⟨A4, c4, rfl⟩ := Kd.R_slice ho; have HO4 := Lib.hid ho; clear ho hb))
  | (go_at_call 13; refine (items_val.calls A4 c4 [numB8 now] _ _ (Kd.R_reads' HO4.out).2.2 (Kd.R_reads' HO4.out).2.1 (okL_1 (by rw [numB8_size]; decide))).mono ?_; rintro e w5 ⟨rfl, hb⟩; have HB5 := keepB HB4 hb; have K5 := Lib.hid (blk_below K4.out hb); clear hb)
  | ((with_reducible refine gate_dst (N := 18) rfl ?_); go_must (refine lit35 ?hg (N := 18) ?hd (tItem now) ?hr ?_; (case hd => rfl); (case hg => rfl); (case hr => first | (go_simp; done) | (go_simp; rfl)); intro v6 w6 ho hb; have HO6 := Lib.hid (NRow35.R (ho.mono HB5.out.size)); have HB6 := keepB HB5 hb; have K6 := Lib.hid (blk_below K5.out hb); have r1 := (blk_cell K6.out 1).trans (rfl : _ = some (Value.slice A l.length c)); clear ho hb)))
 go_loopw [4, 22] (fun v i wr => ∃ (k : Nat), i = .int .i64 k ∧ k ≤ l.length ∧ Hid (Kd.R k43 43 wr w.heap.size (fun _ => True) v (tItem now :: (l.take k).flatMap bItems)) ∧ Hid (Below w.heap.size w wr)) (fun _ i _ => l.length - (intOf i).toNat)
 case atStart => exact ⟨0, rfl, Nat.zero_le _, HO6, HB6⟩
 case round =>
  obtain ⟨k, rfl, hk, ho, hb⟩ := hrel
  by_cases hlt : k < l.length
  ·obtain ⟨g1, g2, g3, g4⟩ := depot_at HD.out
   obtain ⟨gb, _, _⟩ := g4 k hlt
   obtain ⟨gh, gi, gc, _, _, _⟩ := bucket_at gb
   obtain ⟨gn, _, _, _⟩ := head_at gh
   have gs := bname_size gn
   have HSN := Lib.hid (flat_snoc bItems l k hlt)
   have HLN : Hid ((tItem now :: (l.take k).flatMap bItems).length ≤ 12001) := by
    unfold Hid
    have := flat_le bItems 2000 (l.take k) (fun x hx => by
     obtain ⟨j, hj, rfl⟩ := List.getElem_of_mem (List.mem_of_mem_take hx)
     exact bItems_len (g4 j hj).1)
    rw [List.length_cons]
    rw [List.length_take] at this
    omega
   have HBL : Hid ((bItems l[k]).length ≤ 2000) := bItems_len gb
   obtain ⟨ad, A2, c2, A3, c3, e', hc0, hc1, hc2, hc3, hc4, hl2, hC2, hl3, hC3⟩ := atBucket HR.out hb.out k hlt
   subst e'
   clear g4 gb gh hC2 hC3
   have HCE : Hid (Kd.C k38 w A2 l[k].f2.length l[k].f2 ∧ Kd.C k41 w A3 l[k].f3.length l[k].f3) := by
    obtain ⟨ad', A2', c2', A3', c3', e2, _, _, x2, x3, _, _, y2, _, y3⟩ := atBucket HR.out (Below.refl _ _) k hlt
    injection e2 with e2; subst e2
    have t2 := keepc hb.out x2
    have t3 := keepc hb.out x3
    rw [t2] at hc2; rw [t3] at hc3
    injection hc2 with hc2; injection hc2 with hc2
    injection hc3 with hc3; injection hc3 with hc3
    subst hc2; subst hc3
    exact ⟨y2, y3⟩
   generalize hbk : l[k] = b at *
   have gst : (9223372036854775807 < 1 + b.f0.size) = False := eq_false (by omega)
   have HGI := Lib.hid gi; have HGC := Lib.hid gc; have HGS := Lib.hid gs
   clear gi gc gs gn
   have HOX := Lib.hid (Kd.R_below (Kd.R_below ho.out (belowA wr (.cells #[.string b.f0, .int .i64 b.f1, .slice A2 b.f2.length c2, .slice A3 b.f3.length c3, .int .u64 b.f4] 35))) (below_drew (Below.refl _ _)))
   have KX := Lib.hid (blk_drew (blk_new wr (.cells #[.string b.f0, .int .i64 b.f1, .slice A2 b.f2.length c2, .slice A3 b.f3.length c3, .int .u64 b.f4] 35)))
   have HBX := Lib.hid ((hb.out.alloc hb.out.size (.cells #[.string b.f0, .int .i64 b.f1, .slice A2 b.f2.length c2, .slice A3 b.f3.length c3, .int .u64 b.f4] 35)).drew)
   go_wp2
   skip
   refine wp_region_held_drew (S := fun W => W.cell? ⟨wr.heap.size, 0, none⟩ = some (.string b.f0) ∧ W.cell? ⟨wr.heap.size, 1, none⟩ = some (.int .i64 b.f1) ∧ W.cell? ⟨wr.heap.size, 4, none⟩ = some (.int .u64 b.f4)) (by kernel_rfl) ?_ (fun hHeld => ?_)
   ·exact ⟨by simp [go_sem], by simp [go_sem], by simp [go_sem]⟩
   generalize (wr.alloc (.cells #[.string b.f0, .int .i64 b.f1, .slice A2 b.f2.length c2, .slice A3 b.f3.length c3, .int .u64 b.f4] 35)).drew = w7 at HOX KX HBX hHeld ⊢
   refine tk (i := 0) (v := ?v0g1) rfl hHeld (Or.inl ⟨rfl, ?y0g1⟩) ?r0g1
   case y0g1 => (intro w h; obtain ⟨s0, s1, s2⟩ := h; go_simp; try with_reducible rfl)
   try simp only [getElem_toArray, getElem_cons_zero, getElem_cons_succ, Act.put, setIfInBounds_toArray, set_cons_zero, set_cons_succ]
   refine tk (i := 1) (v := ?v1g1) rfl hHeld (Or.inl ⟨rfl, ?y1g1⟩) ?r1g1
   case y1g1 => (intro w h; obtain ⟨s0, s1, s2⟩ := h; go_simp; try with_reducible rfl)
   try simp only [getElem_toArray, getElem_cons_zero, getElem_cons_succ, Act.put, setIfInBounds_toArray, set_cons_zero, set_cons_succ]
   refine tk (i := 2) (v := ?v2g1) rfl hHeld (Or.inl ⟨rfl, ?y2g1⟩) ?r2g1
   case y2g1 => (intro w h; obtain ⟨s0, s1, s2⟩ := h; go_simp; try with_reducible rfl)
   try simp only [getElem_toArray, getElem_cons_zero, getElem_cons_succ, Act.put, setIfInBounds_toArray, set_cons_zero, set_cons_succ]
   refine tk (i := 3) (v := ?v3g1) rfl hHeld (Or.inl ⟨rfl, ?y3g1⟩) ?r3g1
   case y3g1 => (intro w h; obtain ⟨s0, s1, s2⟩ := h; go_simp; try with_reducible rfl)
   try simp only [getElem_toArray, getElem_cons_zero, getElem_cons_succ, Act.put, setIfInBounds_toArray, set_cons_zero, set_cons_succ]
   refine tk (i := 4) (v := ?v4g1) rfl hHeld (Or.inl ⟨rfl, ?y4g1⟩) ?r4g1
   case y4g1 => (intro w h; obtain ⟨s0, s1, s2⟩ := h; go_simp; try with_reducible rfl)
   try simp only [getElem_toArray, getElem_cons_zero, getElem_cons_succ, Act.put, setIfInBounds_toArray, set_cons_zero, set_cons_succ]
   refine tk (i := 5) (v := ?v5g1) rfl hHeld (Or.inl ⟨rfl, ?y5g1⟩) ?r5g1
   case y5g1 => (intro w h; obtain ⟨s0, s1, s2⟩ := h; go_simp; try with_reducible rfl)
   try simp only [getElem_toArray, getElem_cons_zero, getElem_cons_succ, Act.put, setIfInBounds_toArray, set_cons_zero, set_cons_succ]
   refine tk (i := 7) (v := ?v7g1) rfl hHeld (Or.inl ⟨rfl, ?y7g1⟩) ?r7g1
   case y7g1 => (intro w h; obtain ⟨s0, s1, s2⟩ := h; go_simp; try with_reducible rfl)
   try simp only [getElem_toArray, getElem_cons_zero, getElem_cons_succ, Act.put, setIfInBounds_toArray, set_cons_zero, set_cons_succ]
   refine tk (i := 8) (v := ?v8g1) rfl hHeld (Or.inl ⟨rfl, ?y8g1⟩) ?r8g1
   case y8g1 => (intro w h; obtain ⟨s0, s1, s2⟩ := h; go_simp; try with_reducible rfl)
   try simp only [getElem_toArray, getElem_cons_zero, getElem_cons_succ, Act.put, setIfInBounds_toArray, set_cons_zero, set_cons_succ]
   refine wpAnyH_ready (rs := [6]) (by kernel_rfl) (by simp) ?_
   refine AllReadyH.cons (o := _) rfl (fun K hK => ?_) AllReadyH.nil
   rw [if_pos (by rfl)]
   go_simp
   obtain ⟨s0, s1, s2⟩ := hHeld
   refine (items_num.calls 9 _ _ _ (inum_ge b.f1 9 (Nat.le_refl _))).mono ?_
   rintro e8 w8 ⟨rfl, hb8⟩
   replace HOX := Lib.hid (Kd.R_below HOX.out hb8)
   replace KX := Lib.hid (blk_below KX.out hb8)
   replace HBX := keepB HBX hb8
   refine hK.out _ _ ⟨keepc hb8 s0, keepc hb8 s1, keepc hb8 s2⟩ (fun hHeld => ?_)
   clear hK K hb8 s0 s1 s2
   try simp only [getElem_toArray, getElem_cons_zero, getElem_cons_succ, Act.put, setIfInBounds_toArray, set_cons_zero, set_cons_succ]
   refine wpAnyH_ready (rs := [9]) (by kernel_rfl) (by simp) ?_
   refine AllReadyH.cons (o := _) rfl (fun K hK => ?_) AllReadyH.nil
   rw [if_pos (by rfl)]
   go_simp
   obtain ⟨s0, s1, s2⟩ := hHeld
   refine (wire_Num.calls 9 _ _ _ (num_ge b.f4 9 (Nat.le_refl _))).mono ?_
   rintro e8 w8 ⟨rfl, hb8⟩
   replace HOX := Lib.hid (Kd.R_below HOX.out hb8)
   replace KX := Lib.hid (blk_below KX.out hb8)
   replace HBX := keepB HBX hb8
   refine hK.out _ _ ⟨keepc hb8 s0, keepc hb8 s1, keepc hb8 s2⟩ (fun hHeld => ?_)
   clear hK K hb8 s0 s1 s2
   try simp only [getElem_toArray, getElem_cons_zero, getElem_cons_succ, Act.put, setIfInBounds_toArray, set_cons_zero, set_cons_succ]
   refine wpAnyH_ready (rs := [10]) (by kernel_rfl) (by simp) ?_
   refine AllReadyH.cons (o := _) rfl (fun K hK => ?_) AllReadyH.nil
   rw [if_pos (by rfl)]
   go_simp
   obtain ⟨s0, s1, s2⟩ := hHeld
   have hb8 := belowA w8 (.cells #[.string (numB8 b.f1), .string (num8 b.f4)] 9)
   have HST := Lib.hid (strs_new w8 [numB8 b.f1, num8 b.f4] (by simp))
   replace HOX := Lib.hid (Kd.R_below HOX.out hb8)
   replace KX := Lib.hid (blk_below KX.out hb8)
   replace HBX := keepB HBX hb8
   have HSS := Lib.hid (⟨keepc hb8 s0, keepc hb8 s1, keepc hb8 s2⟩ : (_ ∧ _ ∧ _))
   clear hb8 s0 s1 s2
   generalize hw9 : w8.alloc (.cells #[.string (numB8 b.f1), .string (num8 b.f4)] 9) = w9 at HST HOX KX HBX HSS ⊢
   generalize hg9 : w8.heap.size = g9 at HST ⊢
   have HST2 : Hid (Kd.C Kd.string w9 (some ⟨g9, 0, none⟩) 2 [numB8 b.f1, num8 b.f4]) := Lib.hid (by have := HST.out; rw [← hw9]; simpa using this)
   refine hK.out _ _ HSS.out (fun hHeld => ?_)
   clear hK K HSS HST hw9 hg9
   try simp only [getElem_toArray, getElem_cons_zero, getElem_cons_succ, Act.put, setIfInBounds_toArray, set_cons_zero, set_cons_succ]
   refine wpAnyH_ready (rs := [11]) (by kernel_rfl) (by simp) ?_
   refine AllReadyH.cons (o := _) rfl (fun K hK => ?_) AllReadyH.nil
   rw [if_pos (by rfl)]
   go_simp
   obtain ⟨s0, s1, s2⟩ := hHeld
   refine (items_val.calls _ _ [numB8 b.f1, num8 b.f4] _ _ HST2.out (Nat.le_refl _) (okL_2 (by rw [numB8_size]; decide) (by rw [num8_size]; decide))).mono ?_
   rintro e8 w8 ⟨rfl, hb8⟩
   replace HOX := Lib.hid (Kd.R_below HOX.out hb8)
   replace KX := Lib.hid (blk_below KX.out hb8)
   replace HBX := keepB HBX hb8
   clear HST2
   refine hK.out _ _ ⟨keepc hb8 s0, keepc hb8 s1, keepc hb8 s2⟩ (fun hHeld => ?_)
   clear hK K hb8 s0 s1 s2
   try simp only [getElem_toArray, getElem_cons_zero, getElem_cons_succ, Act.put, setIfInBounds_toArray, set_cons_zero, set_cons_succ]
   refine tk (i := 12) (v := ?v12g1) rfl hHeld (Or.inl ⟨rfl, ?y12g1⟩) ?r12g1
   case y12g1 => (intro w h; obtain ⟨s0, s1, s2⟩ := h; go_simp; try with_reducible rfl)
   try simp only [getElem_toArray, getElem_cons_zero, getElem_cons_succ, Act.put, setIfInBounds_toArray, set_cons_zero, set_cons_succ]
   refine wpAnyH_ready (rs := [13]) (by kernel_rfl) (by simp) ?_
   refine AllReadyH.cons (o := _) rfl (fun K hK => ?_) AllReadyH.nil
   rw [if_pos (by rfl)]
   go_simp
   have hHeld0 := hHeld
   obtain ⟨s0, s1, s2⟩ := hHeld
   refine hK.out _ _ ⟨keepc (belowA _ _) s0, keepc (belowA _ _) s1, keepc (belowA _ _) s2⟩ (fun hHeld => ?_)
   clear hK K s0 s1 s2
   try simp only [getElem_toArray, getElem_cons_zero, getElem_cons_succ, Act.put, setIfInBounds_toArray, set_cons_zero, set_cons_succ]
   refine wpAnyH_ready (rs := [14]) (by kernel_rfl) (by simp) ?_
   refine AllReadyH.cons (o := _) rfl (fun K hK => ?_) AllReadyH.nil
   refine Kd.R_append_step k43 (w0 := w) w.heap.size (by rfl) (.tmp 26) (.tmp 39) 26 43 (.agg #[(.string ⟨#[]⟩), (.string ⟨#[]⟩)]) 32 rfl Tryz.underlying26 info43 rfl (by decide) (by decide) u4 (tItem now :: (l.take k).flatMap bItems) (bItem b) [.string ((⟨#[98]⟩ : ByteArray) ++ b.f0), .string (listB [numB8 b.f1, num8 b.f4])] (fun _ => True) (fun _ => False) rfl rfl (k43_mkM _ _ _ (bItem b)) (fun _ hk => hk.elim) (fun _ _ => trivial) HOX.out HBX.out HBX.out.size (by have := HLN.out; omega) ?_
   intro v1 w10 ho hb hg hat
   have KY := Lib.hid (blk_grown KX.out hg (Kd.R_ne HOX.out KX.out (by decide)))
   clear hHeld0
   refine hK.out _ _ ⟨blk_cell KY.out 0, blk_cell KY.out 1, blk_cell KY.out 4⟩ (fun hHeld => ?_)
   replace HOX := Lib.hid ho
   replace HBX := Lib.hid hb
   clear hK K ho hb hg hat KX
   try simp only [getElem_toArray, getElem_cons_zero, getElem_cons_succ, Act.put, setIfInBounds_toArray, set_cons_zero, set_cons_succ]
   refine tk (i := 15) (v := ?v15g1) rfl hHeld (Or.inl ⟨rfl, ?y15g1⟩) ?r15g1
   case y15g1 => (intro w h; obtain ⟨s0, s1, s2⟩ := h; go_simp; try with_reducible rfl)
   try simp only [getElem_toArray, getElem_cons_zero, getElem_cons_succ, Act.put, setIfInBounds_toArray, set_cons_zero, set_cons_succ]
   refine wpAnyH_done (by kernel_rfl) ?_ _

   clear hHeld
   have gne0 := Lib.hid (blk_lt KY.out)
   generalize hgb : wr.heap.size = gb at *
   generalize hXS : (tItem now :: (l.take k).flatMap bItems) = XS at *
   have hlb : (b.f2.length : Int) ≤ 9223372036854775807 := by have := (index_at HGI.out).1; omega
   have dk_2 := (blk_cell KY.out 2).trans rfl
   go_wp2
   clear dk_2
   go_loopw [4, 44] (fun v j wz => ∃ (m : Nat), j = .int .i64 m ∧ m ≤ b.f2.length ∧ Hid (Kd.R k43 43 wz w.heap.size (fun _ => True) v ((XS ++ [bItem b]) ++ (b.f2.take m).flatMap (versL b.f0))) ∧ Hid (wz.heap[gb]? = some (.cells #[.string b.f0, .int .i64 b.f1, .slice A2 b.f2.length c2, .slice A3 b.f3.length c3, .int .u64 b.f4] 35 (0, 0))) ∧ Hid (Below w.heap.size w wz)) (fun _ j _ => b.f2.length - (intOf j).toNat)
   case atStart => exact ⟨0, rfl, Nat.zero_le _, Lib.hid (by rw [List.take_zero, List.flatMap_nil, List.append_nil]; exact HOX.out), KY, HBX⟩
   case round =>
    obtain ⟨m, rfl, hm, hoz, hkz, hbz⟩ := hrel
    have dz_0 := (blk_cell hkz.out 0).trans rfl; have dz_1 := (blk_cell hkz.out 1).trans rfl; have dz_2 := (blk_cell hkz.out 2).trans rfl; have dz_3 := (blk_cell hkz.out 3).trans rfl; have dz_4 := (blk_cell hkz.out 4).trans rfl
    have HLM : Hid (((XS ++ [bItem b]) ++ (b.f2.take m).flatMap (versL b.f0)).length ≤ 15000) := by
     unfold Hid
     have a := flat_le (versL b.f0) 20 (b.f2.take m) (fun x hx => by rw [versL_len]; exact (chain_small (index_mem HGI.out x (List.mem_of_mem_take hx)).2.2).1)
     have a1 := (index_at HGI.out).1
     have a2 := HLN.out
     rw [List.length_take] at a
     rw [List.length_append, List.length_append, List.length_singleton]
     omega
    by_cases hmt : m < b.f2.length
    ·obtain ⟨ae, A1, c1, e9, hx0, hx1, hl1, hC1⟩ := atEntry HCE.out.1 hbz.out m hmt
     obtain ⟨gk, _, gch⟩ := index_mem HGI.out _ (List.getElem_mem hmt)
     have gks := key_size gk
     have gcs := chain_small gch
     have hHC := HCE.out.1
     subst e9
     have HVC : Hid (∀ W, Below w.heap.size w W → Kd.C k80 W A1 b.f2[m].f1.length b.f2[m].f1 → Calls Tryz.prog 16 #[.agg #[.string b.f0, .int .i64 b.f1, .slice (some ae) b.f2.length c2, .slice A3 b.f3.length c3, .int .u64 b.f4], .agg #[.string b.f2[m].f0, .slice A1 b.f2[m].f1.length c1]] W fun e w' => ∃ v0_ : Value, e = .returned v0_ ∧ Kd.R k43 43 w' W.heap.size (fun _ => True) v0_ (versL b.f0 b.f2[m]) ∧ Below W.heap.size W w') := fun W h hx => items_versions.calls _ b.f0 b.f1 (some ae) c2 b.f2 A3 c3 b.f3 b.f4 b.f2[m].f0 A1 c1 b.f2[m].f1 _ W (Kd.C_below hHC h) hl2 (Kd.C_below HCE.out.2 h) hl3 hx hl1 (versions_f b.f0 b.f2[m].f0 HGS.out gks b.f1 b.f4 b.f2 b.f3 b.f2[m].f1 gcs.1 (fun v hv => (mayV_small (gcs.2.1 v hv)).2.1))
     have HRL : Hid ((versL b.f0 b.f2[m]).length ≤ 20) := by unfold Hid; rw [versL_len]; exact gcs.1
     have HS2 := Lib.hid (flat_snoc (versL b.f0) b.f2 m hmt)
     have HC1 := Lib.hid hC1
     clear gk gch gks gcs hHC hC1
     generalize versL b.f0 b.f2[m] = r at HVC HRL HS2
     generalize b.f2[m] = x at *
     have HKA := Lib.hid (blk_alloc hkz.out (.cells #[.string x.f0, .slice A1 x.f1.length c1] 38))
     have HBA := Lib.hid (hbz.out.alloc hbz.out.size (.cells #[.string x.f0, .slice A1 x.f1.length c1] 38))
     have hltz := blk_lt hkz.out
     have gne : wr.heap.size ≠ gb := by omega
     have gne2 : gb ≠ wr.heap.size := by omega
     have gne3 : (gb = wr.heap.size) = False := eq_false gne2
     have HLX : Hid (((XS ++ [bItem b]) ++ (b.f2.take m).flatMap (versL b.f0)).length + r.length ≤ 1000000) := by have := HLM.out; have := HRL.out; unfold Hid; omega
     generalize hX2 : (XS ++ [bItem b]) ++ (b.f2.take m).flatMap (versL b.f0) = X2 at *
     go_wp2_with (first
      | (go_at_call 16; go_must (refine (HVC.out _ HBA.out (Kd.C_below HC1.out (belowA _ _))).mono ?_; rintro e w11 ⟨v11, rfl, hv, hb11⟩; obtain ⟨Av, cv, rfl⟩ := Kd.R_slice hv; have HV11 := Lib.hid hv; have HO11 := Lib.hid (Kd.R_below (Kd.R_below hoz.out (belowA _ _)) hb11); have KB11 := Lib.hid (blk_below HKA.out hb11); have HB11 := keepB HBA hb11; clear hv hb11))
      | ((with_reducible refine gate_builtin (b := .append) (xs := #[.tmp 48, .tmp 51]) rfl ?_); at_builtin; go_must (refine appI (w0 := w) w.heap.size rfl (.tmp 48) (.tmp 51) rfl _ X2 r Av _ cv (fun _ => True) rfl rfl HO11.out (Kd.R_reads' HV11.out).2.2 (fun _ _ => trivial) HB11.out HB11.out.size HLX.out ?_; intro v52 w12 ho hb hg hat; have HO12 := Lib.hid ho; have HB12 := Lib.hid hb; have KB12 := Lib.hid (blk_grown KB11.out hg (Kd.R_ne HO11.out KB11.out (by decide))); clear ho hb hg hat)))
     go_roundw
     case rel => exact ⟨m + 1, by go_num, by omega, Lib.hid (by rw [HS2.out, ← List.append_assoc, hX2]; exact HO12.out), KB12, HB12⟩
     case measure => simp [intOf]; omega
    ·obtain rfl : m = b.f2.length := by omega
     have HUC : Hid (∀ W, Below w.heap.size w W → Calls Tryz.prog 17 #[.agg #[.string b.f0, .int .i64 b.f1, .slice A2 b.f2.length c2, .slice A3 b.f3.length c3, .int .u64 b.f4]] W fun e w' => ∃ v0_ : Value, e = .returned v0_ ∧ Kd.R k43 43 w' W.heap.size (fun _ => True) v0_ (upsL b.f0 b.f3) ∧ Below W.heap.size W w') := fun W h => items_uploads.calls _ b.f0 b.f1 A2 c2 b.f2 A3 c3 b.f3 b.f4 _ W (Kd.C_below HCE.out.1 h) hl2 (Kd.C_below HCE.out.2 h) hl3 (uploads_f b.f0 HGS.out b.f1 b.f4 b.f2 b.f3 (check_mem HGC.out).1 (fun u hu => by
      obtain ⟨_, y2, y3, y4⟩ := fine_small ((check_mem HGC.out).2 u hu)
      exact ⟨key_size y2, y3, fun p hp => (mayB_small (y4 p hp)).2.2⟩))
     have HRL : Hid ((upsL b.f0 b.f3).length ≤ 310) := by
      have c0 := flat_le (upItems b.f0) 31 b.f3 (fun u hu => by rw [upItems_len]; have := (fine_small ((check_mem HGC.out).2 u hu)).2.2.1; omega)
      have c1 := (check_mem HGC.out).1
      unfold Hid upsL; omega
     have HLX : Hid (((XS ++ [bItem b]) ++ (b.f2.take b.f2.length).flatMap (versL b.f0)).length + (upsL b.f0 b.f3).length ≤ 1000000) := by have := HLM.out; have := HRL.out; unfold Hid; omega
     have HEND : Hid ((((XS ++ [bItem b]) ++ (b.f2.take b.f2.length).flatMap (versL b.f0)) ++ upsL b.f0 b.f3) = tItem now :: (l.take (k + 1)).flatMap bItems) := by
      unfold Hid
      rw [List.take_length, HSN.out, ← List.cons_append, hXS]
      unfold bItems
      simp
     generalize hr : upsL b.f0 b.f3 = r at HUC HRL HLX HEND
     generalize hX2 : (XS ++ [bItem b]) ++ (b.f2.take b.f2.length).flatMap (versL b.f0) = X2 at *
     clear hr hX2
     go_wp2_with (first
      | (go_at_call 17; go_must (refine (HUC.out _ hbz.out).mono ?_; rintro e w11 ⟨v11, rfl, hv, hb11⟩; obtain ⟨Av, cv, rfl⟩ := Kd.R_slice hv; have HV11 := Lib.hid hv; have HO11 := Lib.hid (Kd.R_below hoz.out hb11); have HB11 := keepB hbz hb11; clear hv hb11))
      | ((with_reducible refine gate_builtin (b := .append) (xs := #[.tmp 54, .tmp 56]) rfl ?_); at_builtin; go_must (refine appI (w0 := w) w.heap.size rfl (.tmp 54) (.tmp 56) rfl _ X2 r Av _ cv (fun _ => True) rfl rfl HO11.out (Kd.R_reads' HV11.out).2.2 (fun _ _ => trivial) HB11.out HB11.out.size HLX.out ?_; intro v57 w12 ho hb hg hat; rw [HEND.out] at ho; have HO12 := Lib.hid ho; have HB12 := Lib.hid hb; clear ho hb hg hat)))
     go_roundw
     case rel => exact ⟨k + 1, by go_num, by omega, HO12, HB12⟩
     case measure => simp [intOf]; omega
  ·obtain rfl : k = l.length := by omega
   have HN : Hid (NRow35 wr w.heap.size u4 (depL now l)) := by
    have := NRow35.of_R ho.out
    rw [List.take_length] at this
    exact this
   have HLD : Hid ((depL now l).length ≤ 1000000) := by
    obtain ⟨g1, g2, g3, g4⟩ := depot_at HD.out
    have := flat_le bItems 2000 l (fun x hx => by
     obtain ⟨j, hj, rfl⟩ := List.getElem_of_mem hx
     exact bItems_len (g4 j hj).1)
    unfold Hid depL
    rw [List.length_cons]
    omega
   clear ho
   generalize hys : depL now l = ys at HN HLD
   have HYS := Lib.hid hys; clear hys
   go_wp2_with (first
    | (go_at_call 18; refine (sort_notes35 w.heap.size u4 ys _ HN.out HLD.out).mono ?_; rintro e w7 ⟨rfl, zs, hz, hp, hs, hg⟩; have HZ := Lib.hid hz; have HP := Lib.hid hp; have HS := Lib.hid hs; have HB7 := Lib.hid (hb.out.grown hg hb.out.size (own_base HN.out)); clear hz hp hs hg))
   go_ret2
   exact ⟨_, zs, rfl, HZ.out, by rw [HYS.out]; exact HP.out, HS.out, HB7.out⟩
theorem of_no.walk (now : Int) (A : Option Addr) (c : Nat) (l : List S35) (w : World) (hr : Kd.C k35 w A l.length l) (hd : depotB now l = false) :
  Calls Tryz.prog 6 #[.agg #[.int .i64 now, .slice A l.length c]] w fun e w' => e = .returned (.tuple #[.slice none 0 0, .int .i64 1]) ∧ Below w.heap.size w w' := by
 have HCK := Lib.hid (fun (W : World) (h : Below w.heap.size w W) => depot.walk now A c l W (Kd.C_below hr h))
 rw [hd, show errB false = 1 from rfl] at HCK
 have HB0 := Lib.hid ((Below.refl w.heap.size w).alloc (Nat.le_refl _) (.cells #[.int .i64 now, .slice A l.length c] 24))
 clear hr hd
 go_enter Tryz.func6, Tryz.ntmps6
 go_wp2_with (go_at_call 12; refine (HCK.out _ HB0.out).mono ?_; rintro e w2 ⟨rfl, hb⟩; have HB2 := keepB HB0 hb; clear hb)
 go_ret2
 exact ⟨rfl, HB2.out⟩
end Go.Proofs.YtafeepdlcilicaaGreat.Q

-- J0
namespace Go.Proofs.YtafeepdlcilicaaGreat.Q
open Go.WideMaps Go.RowKit Go.Proofs.YtafeepdlcilicaaGreatW.PrintWords Go.Proofs.YtafeepdlcilicaaGreatW.PrintLast Go.Proofs.YtafeepdlcilicaaGreatW.PrintMore Go.Maps
set_option linter.unusedVariables false
set_option linter.unusedSimpArgs false

/-! ### the laws' Few in plain words -/

/-! law08.Few in plain words. -/
def fewKey (s : ByteArray) : ByteArray := if (s.size : Int) > 80 then s.extract 0 80 else s
def cutP (p : S82) : S82 := ⟨p.f0, if (p.f1.size : Int) > 2001 then p.f1.extract 0 2001 else p.f1⟩
def cutU (u : S41) : S41 := ⟨u.f0, fewKey u.f1, (u.f2.take 31).map cutP⟩
def fewUs (l : List S41) : List S41 := (l.take 11).map cutU
theorem few_key (s : ByteArray) : cellarerlaw01_Few.f s = some (fewKey s) := by
 unfold cellarerlaw01_Few.f fewKey
 by_cases h : (s.size : Int) > 80
 ·rw [if_pos h, if_pos (by decide), if_pos (by omega), if_pos h]
 ·rw [if_neg h, if_neg h]
theorem one_part (p : S82) : cellarerlaw08_One.f p.f0 p.f1 = some ((cutP p).f0, (cutP p).f1) := by
 unfold cellarerlaw08_One.f cutP
 by_cases h : (p.f1.size : Int) > 2001
 ·rw [if_pos h, if_pos (by decide), if_pos (by omega)]; simp only [if_pos h]
 ·rw [if_neg h]; simp only [if_neg h]
theorem fewU_l1 (l : List S41) (out : List S41) (i : Nat) (hi : i < l.length) (hi2 : i < 11) (hout : out.length ≤ i) (a : Int) (b : ByteArray) (k : Nat) :
  ∀ (d j : Nat) (acc : List S82), j + d = min 31 (l.getD i z41).f2.length → acc.length ≤ j →
  cellarerlaw08_Few.l1 (k + d + 1) l out (i : Int) (j : Int) a b acc = cellarerlaw08_Few.l0 k l (out ++ [⟨a, b, acc ++ ((((l.getD i z41).f2.take 31).drop j).map cutP)⟩]) ((i + 1 : Nat) : Int) := by
 have er : rd_T41 l (i : Int) = l.getD i z41 := by unfold rd_T41; rw [Int.toNat_natCast]
 have ew : wrap64 ((i : Int) + 1) = ((i + 1 : Nat) : Int) := by rw [wrap64_of (by omega) (by omega)]; omega
 intro d
 induction d with
 | zero =>
  intro j acc hj hacc
  rw [show k + 0 + 1 = k + 1 from rfl]
  simp only [cellarerlaw08_Few.l1]
  rw [if_pos (by omega), if_pos (by omega), er, ew]
  have hd : (((l.getD i z41).f2.take 31).drop j) = [] := List.drop_eq_nil_of_le (by rw [List.length_take]; omega)
  rw [hd, List.map_nil, List.append_nil]
  by_cases h1 : (j : Int) < ((l.getD i z41).f2.length : Int)
  ·rw [if_pos h1, if_neg (by omega), if_pos (by omega)]
  ·rw [if_neg h1, if_pos (by omega)]
 | succ d ih =>
  intro j acc hj hacc
  rw [show k + (d + 1) + 1 = (k + d + 1) + 1 from rfl]
  generalize hK : k + d + 1 = K
  simp only [cellarerlaw08_Few.l1]
  subst hK
  rw [if_pos (by omega), if_pos (by omega), er, if_pos (by omega), if_pos (by omega), if_pos (by omega)]
  have e2 : rd_T82 (l.getD i z41).f2 (j : Int) = (l.getD i z41).f2.getD j z82 := by unfold rd_T82; rw [Int.toNat_natCast]
  rw [e2, one_part, Option.bind_some, if_pos (by omega), show wrap64 ((j : Int) + 1) = ((j + 1 : Nat) : Int) by rw [wrap64_of (by omega) (by omega)]; omega,
   ih (j + 1) _ (by omega) (by rw [List.length_append, List.length_singleton]; omega)]
  have hj1 : j < ((l.getD i z41).f2.take 31).length := by rw [List.length_take]; omega
  rw [List.drop_eq_getElem_cons hj1, List.map_cons, List.append_assoc, List.singleton_append]
  have : ((l.getD i z41).f2.take 31)[j] = (l.getD i z41).f2.getD j z82 := by
   rw [List.getElem_take, List.getD_eq_getElem?_getD (l := (l.getD i z41).f2), List.getElem?_eq_getElem (l := (l.getD i z41).f2) (by rw [List.length_take] at hj1; omega)]; rfl
  rw [this]
def needFU : List S41 → Nat
 | [] => 2
 | u :: us => needFU us + min 31 u.f2.length + 3
theorem fewU_l0 (l : List S41) (hn : (l.length : Int) ≤ 9223372036854775807) : ∀ (us : List S41) (i : Nat) (out : List S41), us = (l.take 11).drop i → out.length = i → i ≤ min 11 l.length →
  cellarerlaw08_Few.l0 (needFU us) l out (i : Int) = some (out ++ us.map cutU) := by
 intro us
 induction us with
 | nil =>
  intro i out hu ho hi
  have hl : min 11 l.length ≤ i := by
   have := congrArg List.length hu
   rw [List.length_drop, List.length_take] at this
   simp at this; omega
  show cellarerlaw08_Few.l0 (1 + 1) l out (i : Int) = _
  simp only [cellarerlaw08_Few.l0]
  by_cases h : (i : Int) < (l.length : Int)
  ·rw [if_pos h, show decide ((i : Int) < 11) = false by simp; omega]
   simp [cellarerlaw08_Few.j1]
  ·rw [if_neg h]; simp [cellarerlaw08_Few.j1]
 | cons u us ih =>
  intro i out hu ho hi
  have hlen : i < (l.take 11).length := by
   have := congrArg List.length hu
   rw [List.length_drop] at this
   simp only [List.length_cons] at this; omega
  rw [List.drop_eq_getElem_cons hlen] at hu
  injection hu with hu1 hu2
  rw [List.length_take] at hlen
  have hu3 : l.getD i z41 = u := by rw [hu1, List.getElem_take, List.getD_eq_getElem?_getD, List.getElem?_eq_getElem (by omega)]; rfl
  have er : rd_T41 l (i : Int) = u := by unfold rd_T41; rw [Int.toNat_natCast, hu3]
  show cellarerlaw08_Few.l0 (needFU us + min 31 u.f2.length + 1 + 1 + 1) l out (i : Int) = _
  generalize hK : needFU us + min 31 u.f2.length + 1 = K
  simp only [cellarerlaw08_Few.l0]
  rw [if_pos (by omega), show decide ((i : Int) < 11) = true by simp; omega]
  simp only [cellarerlaw08_Few.j1]
  subst hK
  rw [if_pos trivial, if_pos (by omega), if_pos (by omega), er, few_key, Option.bind_some]
  have := fewU_l1 l out i (by omega) (by omega) (by omega) u.f0 (fewKey u.f1) (needFU us) (min 31 u.f2.length) 0 [] (by rw [hu3]; omega) (by simp)
  rw [show ((0 : Nat) : Int) = 0 from rfl] at this
  rw [this, hu3, List.drop_zero, List.nil_append, ih (i + 1) _ hu2 (by simp [ho]) (by omega), List.map_cons, List.append_assoc]
  rfl
theorem needFU_le : ∀ us : List S41, needFU us ≤ 34 * us.length + 2
 | [] => by simp [needFU]
 | u :: us => by
  have := needFU_le us
  show needFU us + min 31 u.f2.length + 3 ≤ _
  rw [List.length_cons]; omega
theorem fewUs_ge (l : List S41) (hn : (l.length : Int) ≤ 9223372036854775807) (k : Nat) (hk : 400 ≤ k) : cellarerlaw08_Few.f k l = some (fewUs l) := by
 have h := fewU_l0 l hn (l.take 11) 0 [] rfl rfl (by omega)
 have hl := needFU_le (l.take 11)
 rw [List.length_take] at hl
 obtain ⟨d, rfl⟩ : ∃ d, k = needFU (l.take 11) + d := ⟨k - needFU (l.take 11), by omega⟩
 refine fuel_up (fun k => cellarerlaw08_Few.mono l k) ?_ d
 unfold cellarerlaw08_Few.f
 exact h
def cutV (v : S80) : S80 := ⟨v.f0, if (v.f1.size : Int) > 2001 then v.f1.extract 0 2001 else v.f1, v.f2, v.f3⟩
def fewV (l : List S80) : List S80 := (l.take 21).map cutV
def cutE (x : S38) : S38 := ⟨fewKey x.f0, fewV x.f1⟩
def fewE (l : List S38) : List S38 := (l.take 61).map cutE
def cutB (b : S35) : S35 := ⟨fewKey b.f0, b.f1, fewE b.f2, fewUs b.f3, b.f4⟩
def fewD (l : List S35) : List S35 := (l.take 7).map cutB
theorem one_v (v : S80) : cellarerlaw05_One.f v.f0 v.f1 v.f2 v.f3 = some ((cutV v).f0, (cutV v).f1, (cutV v).f2, (cutV v).f3) := by
 unfold cellarerlaw05_One.f cutV
 by_cases h : (v.f1.size : Int) > 2001
 ·rw [if_pos h, if_pos (by decide), if_pos (by omega)]; simp only [if_pos h]
 ·rw [if_neg h]; simp only [if_neg h]
theorem drop_take_map {α β : Type} (f : α → β) (l : List α) (m i : Nat) (hi : i < l.length) (hm : i < m) : ((l.take m).drop i).map f = f l[i] :: ((l.take m).drop (i + 1)).map f := by
 have h : i < (l.take m).length := by rw [List.length_take]; omega
 rw [List.drop_eq_getElem_cons h, List.map_cons, List.getElem_take]
theorem drop_take_nil {α β : Type} (f : α → β) (l : List α) (m i : Nat) (h : min m l.length ≤ i) : ((l.take m).drop i).map f = [] := by
 rw [List.drop_eq_nil_of_le (by rw [List.length_take]; omega)]; rfl
theorem few5_l0 (l : List S80) (K : Nat) : ∀ (d i : Nat) (acc : List S80), i + d = min 21 l.length → acc.length = i →
  cellarerlaw05_Few.l0 (K + d + 1) l acc (i : Int) = some (acc ++ ((l.take 21).drop i).map cutV) := by
 intro d
 induction d with
 | zero =>
  intro i acc hi ha
  rw [show K + 0 + 1 = K + 1 from rfl]
  simp only [cellarerlaw05_Few.l0]
  rw [drop_take_nil _ _ _ _ (by omega), List.append_nil]
  by_cases h : (i : Int) < (l.length : Int)
  ·rw [if_pos h, if_neg (by omega)]
  ·rw [if_neg h]
 | succ d ih =>
  intro i acc hi ha
  have hi' : i < l.length := by omega
  rw [show K + (d + 1) + 1 = (K + d + 1) + 1 from rfl]
  generalize hM : K + d + 1 = M
  simp only [cellarerlaw05_Few.l0]
  subst hM
  rw [if_pos (by omega), if_pos (by omega), if_pos (by omega), rdV' l i hi', one_v, Option.bind_some, if_pos (by omega), succ_w i (by unfold bigN; omega), ih (i + 1) _ (by omega) (by simp [ha]), drop_take_map cutV l 21 i hi' (by omega), List.append_assoc]
  rfl
theorem few5_ge (l : List S80) (k : Nat) (hk : 30 ≤ k) : cellarerlaw05_Few.f k l = some (fewV l) := by
 obtain ⟨K, rfl⟩ : ∃ K, k = K + min 21 l.length + 1 := ⟨k - (min 21 l.length + 1), by omega⟩
 unfold cellarerlaw05_Few.f
 have := few5_l0 l K (min 21 l.length) 0 [] (by omega) rfl
 rw [List.drop_zero, List.nil_append] at this
 exact this
theorem few6_l0 (l : List S38) (K : Nat) (hK : 30 ≤ K) : ∀ (d i : Nat) (acc : List S38), i + d = min 61 l.length → acc.length = i →
  cellarerlaw06_Few.l0 (K + 2 * d + 2) l acc (i : Int) = some (acc ++ ((l.take 61).drop i).map cutE) := by
 intro d
 induction d with
 | zero =>
  intro i acc hi ha
  rw [show K + 2 * 0 + 2 = (K + 1) + 1 from rfl]
  generalize hM : K + 1 = M
  simp only [cellarerlaw06_Few.l0]
  subst hM
  rw [drop_take_nil _ _ _ _ (by omega), List.append_nil]
  by_cases h : (i : Int) < (l.length : Int)
  ·rw [if_pos h, show decide ((i : Int) < 61) = false by simp; omega]; simp [cellarerlaw06_Few.j1]
  ·rw [if_neg h]; simp [cellarerlaw06_Few.j1]
 | succ d ih =>
  intro i acc hi ha
  have hi' : i < l.length := by omega
  rw [show K + 2 * (d + 1) + 2 = (K + 2 * d + 2 + 1) + 1 by omega]
  generalize hM : K + 2 * d + 2 + 1 = M
  simp only [cellarerlaw06_Few.l0]
  subst hM
  rw [if_pos (by omega), show decide ((i : Int) < 61) = true by simp; omega]
  generalize hM : K + 2 * d + 2 = M
  simp only [cellarerlaw06_Few.j1]
  subst hM
  rw [if_pos trivial, if_pos (by omega), if_pos (by omega), rdE' l i hi', few_key, Option.bind_some, few5_ge _ _ (by omega), Option.bind_some, if_pos (by omega), succ_w i (by unfold bigN; omega), ih (i + 1) _ (by omega) (by simp [ha]), drop_take_map cutE l 61 i hi' (by omega), List.append_assoc]
  rfl
theorem few6_ge (l : List S38) (k : Nat) (hk : 200 ≤ k) : cellarerlaw06_Few.f k l = some (fewE l) := by
 obtain ⟨K, rfl⟩ : ∃ K, k = K + 2 * min 61 l.length + 2 := ⟨k - (2 * min 61 l.length + 2), by omega⟩
 unfold cellarerlaw06_Few.f
 have := few6_l0 l K (by omega) (min 61 l.length) 0 [] (by omega) rfl
 rw [List.drop_zero, List.nil_append] at this
 exact this
theorem few9_ge (b : S35) (hn : (b.f3.length : Int) ≤ 9223372036854775807) (k : Nat) (hk : 400 ≤ k) : cellarerlaw09_Few.f k b.f0 b.f1 b.f2 b.f3 b.f4 = some ((cutB b).f0, (cutB b).f1, (cutB b).f2, (cutB b).f3, (cutB b).f4) := by
 unfold cellarerlaw09_Few.f
 rw [few_key, Option.bind_some, few6_ge _ _ (by omega), Option.bind_some, fewUs_ge _ hn _ hk, Option.bind_some]
 rfl
theorem rdB' (l : List S35) (i : Nat) (h : i < l.length) : rd_T35 l (i : Int) = l[i] := rdBucket l i h
theorem few10_l0 (now : Int) (l : List S35) (hn : ∀ b ∈ l, (b.f3.length : Int) ≤ 9223372036854775807) (K : Nat) (hK : 400 ≤ K) : ∀ (d i : Nat) (acc : List S35), i + d = min 7 l.length → acc.length = i →
  cellarerlaw10_Few.l0 (K + d + 1) (i : Int) now l now acc = some (now, acc ++ ((l.take 7).drop i).map cutB) := by
 intro d
 induction d with
 | zero =>
  intro i acc hi ha
  rw [show K + 0 + 1 = K + 1 from rfl]
  simp only [cellarerlaw10_Few.l0]
  rw [drop_take_nil _ _ _ _ (by omega), List.append_nil]
  by_cases h : (i : Int) < (l.length : Int)
  ·rw [if_pos h, if_neg (by omega)]
  ·rw [if_neg h]
 | succ d ih =>
  intro i acc hi ha
  have hi' : i < l.length := by omega
  rw [show K + (d + 1) + 1 = (K + d + 1) + 1 from rfl]
  generalize hM : K + d + 1 = M
  simp only [cellarerlaw10_Few.l0]
  subst hM
  rw [if_pos (by omega), if_pos (by omega), if_pos (by omega), rdB' l i hi', few9_ge _ (hn _ (List.getElem_mem hi')) _ (by omega), Option.bind_some, if_pos (by omega), succ_w i (by unfold bigN; omega), ih (i + 1) _ (by omega) (by simp [ha]), drop_take_map cutB l 7 i hi' (by omega), List.append_assoc]
  rfl
theorem few10_ge (now : Int) (l : List S35) (hn : ∀ b ∈ l, (b.f3.length : Int) ≤ 9223372036854775807) (k : Nat) (hk : 500 ≤ k) : cellarerlaw10_Few.f k now l = some (now, fewD l) := by
 obtain ⟨K, rfl⟩ : ∃ K, k = K + min 7 l.length + 1 := ⟨k - (min 7 l.length + 1), by omega⟩
 unfold cellarerlaw10_Few.f
 have := few10_l0 now l hn K (by omega) (min 7 l.length) 0 [] (by omega) rfl
 rw [List.drop_zero, List.nil_append] at this
 exact this
/-- The lists inside of buckets that are read are no longer than a number may be. -/
theorem inner_buckets {w : World} {A : Option Addr} {l : List S35} (hr : Kd.C k35 w A l.length l) : ∀ b ∈ l, (b.f3.length : Int) ≤ 9223372036854775807 := by
 intro b hb
 obtain ⟨k, hk, rfl⟩ := List.getElem_of_mem hb
 obtain ⟨ad, A2, c2, A3, c3, _, _, _, _, _, _, _, _, _, h⟩ := atBucket hr (Below.refl _ _) k hk
 have := h.2.1
 omega
end Go.Proofs.YtafeepdlcilicaaGreat.Q

-- J1
namespace Go.Proofs.YtafeepdlcilicaaGreat.Q
open Go.WideMaps Go.RowKit Go.Proofs.YtafeepdlcilicaaGreatW.PrintWords Go.Proofs.YtafeepdlcilicaaGreatW.PrintLast Go.Proofs.YtafeepdlcilicaaGreatW.PrintMore Go.Maps
set_option linter.unusedVariables false
set_option linter.unusedSimpArgs false

/-! ### no two items of one name -/
def LB8 (a : ByteArray) : List UInt8 := a.data.toList
theorem LB8_inj {a b : ByteArray} (h : LB8 a = LB8 b) : a = b := bytes_inj h
theorem LB8_app (a b : ByteArray) : LB8 (a ++ b) = LB8 a ++ LB8 b := by unfold LB8; simp [ByteArray.data_append]
theorem LB8_one (c : UInt8) : LB8 ⟨#[c]⟩ = [c] := rfl
theorem LB8_len (a : ByteArray) : (LB8 a).length = a.size := by unfold LB8; rw [Array.length_toList]; rfl
theorem split10 : ∀ {a b x y : List UInt8}, (10 : UInt8) ∉ a → (10 : UInt8) ∉ b → a ++ 10 :: x = b ++ 10 :: y → a = b ∧ x = y
 | [], [], x, y, _, _, h => by simpa using h
 | [], c :: b, x, y, _, hb, h => by
  rw [List.nil_append, List.cons_append] at h
  injection h with h1 h2
  subst h1
  exact absurd List.mem_cons_self hb
 | c :: a, [], x, y, ha, _, h => by
  rw [List.nil_append, List.cons_append] at h
  injection h with h1 h2
  subst h1
  exact absurd List.mem_cons_self ha
 | c :: a, d :: b, x, y, ha, hb, h => by
  rw [List.cons_append, List.cons_append] at h
  injection h with h1 h2
  obtain ⟨h3, h4⟩ := split10 (fun q => ha (List.mem_cons_of_mem _ q)) (fun q => hb (List.mem_cons_of_mem _ q)) h2
  exact ⟨by rw [h1, h3], h4⟩
theorem bname_no10 {s : ByteArray} (h : bnameB s = true) : (10 : UInt8) ∉ LB8 s := by
 unfold bnameB wordB at h
 simp only [Bool.and_eq_true, List.all_eq_true] at h
 intro hm
 have := h.1.2.2 10 hm
 exact absurd this (by decide)
theorem key_no10 {s : ByteArray} (h : keyB s = true) : (10 : UInt8) ∉ LB8 s := by
 unfold keyB at h
 simp only [Bool.and_eq_true, List.all_eq_true] at h
 intro hm
 have := h.2.2 10 hm
 exact absurd this (by decide)
theorem num8_inj {a b : Int} (ha : wfu a) (hb : wfu b) (h : num8 a = num8 b) : a = b := by
 unfold wfu at ha hb
 obtain ⟨n, rfl⟩ := Int.eq_ofNat_of_zero_le ha.1
 obtain ⟨m, rfl⟩ := Int.eq_ofNat_of_zero_le hb.1
 have h1 := num_laid n (by omega)
 have h2 := num_laid m (by omega)
 rw [h, h2] at h1
 injection h1 with h1
 exact h1.symm
theorem pw_of_step {α : Type} (R : α → α → Prop) (htr : ∀ a b c, R a b → R b c → R a c) : ∀ (l : List α), (∀ j (h1 : j + 1 < l.length), R l[j] l[j + 1]) → l.Pairwise R
 | [], _ => List.Pairwise.nil
 | x :: l, h => by
  have ih := pw_of_step R htr l (fun j h1 => h (j + 1) (by simp only [List.length_cons]; omega))
  refine List.Pairwise.cons (fun y hy => ?_) ih
  match l, h, ih, hy with
  | z :: l, h, ih, hy =>
   have h0 : R x z := h 0 (by simp)
   rcases List.mem_cons.1 hy with rfl | hy
   ·exact h0
   ·exact htr _ _ _ h0 (List.rel_of_pairwise_cons ih hy)
def NeI (a b : S43) : Prop := a.f0 ≠ b.f0
theorem hd_ne {a b : S43} {c d : UInt8} {x y : List UInt8} (ha : LB8 a.f0 = c :: x) (hb : LB8 b.f0 = d :: y) (h : c ≠ d) : NeI a b := fun e => by
 rw [e, hb] at ha
 injection ha with h1 _
 exact h h1.symm
theorem verName_L (nm key : ByteArray) (id : Int) : LB8 (verName nm key id) = 118 :: (LB8 nm ++ 10 :: (LB8 key ++ 10 :: LB8 (num8 id))) := by
 unfold verName
 simp only [LB8_app, LB8_one, List.append_assoc, List.singleton_append, List.cons_append, List.nil_append]
theorem upId_L (nm : ByteArray) (id : Int) : LB8 (upId nm id) = LB8 nm ++ 10 :: LB8 (num8 id) := by
 unfold upId
 simp only [LB8_app, LB8_one, List.append_assoc, List.singleton_append, List.cons_append, List.nil_append]
theorem mem_verFrom {nm key : ByteArray} {n : Nat} {x : S43} : ∀ {vs : List S80} {i : Nat}, x ∈ verFrom nm key n i vs → ∃ v ∈ vs, x.f0 = verName nm key v.f0
 | [], _, h => by cases h
 | v :: vs, i, h => by
  rcases List.mem_cons.1 h with rfl | h
  ·exact ⟨v, List.mem_cons_self, rfl⟩
  ·obtain ⟨u, hu, e⟩ := mem_verFrom h
   exact ⟨u, List.mem_cons_of_mem _ hu, e⟩
theorem verFrom_pw (nm key : ByteArray) (n : Nat) : ∀ (vs : List S80) (i : Nat), (∀ v ∈ vs, wfVersion v) → vs.Pairwise (fun a b => a.f0 ≠ b.f0) → (verFrom nm key n i vs).Pairwise NeI
 | [], _, _, _ => List.Pairwise.nil
 | v :: vs, i, hw, hp => by
  rw [List.pairwise_cons] at hp
  refine List.Pairwise.cons (fun y hy => ?_) (verFrom_pw nm key n vs (i + 1) (fun u hu => hw u (List.mem_cons_of_mem _ hu)) hp.2)
  obtain ⟨u, hu, e⟩ := mem_verFrom hy
  intro e2
  have e3 : verName nm key v.f0 = verName nm key u.f0 := by rw [← e]; exact e2
  have e4 := congrArg LB8 e3
  rw [verName_L, verName_L] at e4
  injection e4 with _ e4
  have e5 := List.append_cancel_left e4
  injection e5 with _ e5
  have e6 := List.append_cancel_left e5
  injection e6 with _ e6
  exact hp.1 u hu (num8_inj (hw v List.mem_cons_self).1 (hw u (List.mem_cons_of_mem _ hu)).1 (LB8_inj e6))
theorem ch_ids : ∀ (vs : List S80) (pa last : Int) (null : Bool), chFrom vs pa last null = true →
  (∀ v ∈ vs, v.f0 ≠ 0 → v.f0 < last) ∧ (null = true → ∀ v ∈ vs, v.f0 ≠ 0) ∧ vs.Pairwise (fun a b => a.f0 ≠ b.f0)
 | [], _, _, _, _ => ⟨fun _ h => (by cases h), fun _ _ h => (by cases h), List.Pairwise.nil⟩
 | v :: vs, pa, last, null, h => by
  unfold chFrom at h
  simp only [Bool.and_eq_true, Bool.not_eq_true'] at h
  obtain ⟨_, h2, h3, h4⟩ := h
  have h3' : v.f0 < last := by simpa using h3
  cases hz : (v.f0 == 0)
  ·rw [hz, if_neg (by simp)] at h4
   have hz' : v.f0 ≠ 0 := by simpa using hz
   obtain ⟨i1, i2, i3⟩ := ch_ids vs _ _ _ h4
   refine ⟨fun u hu hn => ?_, fun hn u hu => ?_, List.Pairwise.cons (fun u hu e => ?_) i3⟩
   ·rcases List.mem_cons.1 hu with rfl | hu
    ·exact h3'
    ·have := i1 u hu hn; omega
   ·rcases List.mem_cons.1 hu with rfl | hu
    ·exact hz'
    ·exact i2 hn u hu
   ·have := i1 u hu (by rw [← e]; exact hz')
    rw [← e] at this
    exact absurd this (by omega)
  ·rw [hz, if_pos rfl] at h4
   have hz' : v.f0 = 0 := by simpa using hz
   rw [hz, Bool.true_and] at h2
   obtain ⟨i1, i2, i3⟩ := ch_ids vs _ _ _ h4
   refine ⟨fun u hu hn => ?_, fun hn u hu => ?_, List.Pairwise.cons (fun u hu e => ?_) i3⟩
   ·rcases List.mem_cons.1 hu with rfl | hu
    ·exact absurd hz' hn
    ·exact i1 u hu hn
   ·rw [hn] at h2; cases h2
   ·exact i2 rfl u hu (by rw [← e]; exact hz')
theorem versL_pw {nm : ByteArray} {x : S38} (h : chainB x.f1 = true) (hw : wfEntry x) : (versL nm x).Pairwise NeI := by
 obtain ⟨_, _, h3⟩ := chain_small h
 exact verFrom_pw nm x.f0 _ _ _ hw (ch_ids _ _ _ _ h3).2.2
theorem vers_ne {nm : ByteArray} {x y : S38} (hx : keyB x.f0 = true) (hy : keyB y.f0 = true) (hne : x.f0 ≠ y.f0) : ∀ a ∈ versL nm x, ∀ b ∈ versL nm y, NeI a b := by
 intro a ha b hb e
 obtain ⟨u, _, e1⟩ := mem_verFrom ha
 obtain ⟨v, _, e2⟩ := mem_verFrom hb
 have e3 : verName nm x.f0 u.f0 = verName nm y.f0 v.f0 := by rw [← e1, ← e2]; exact e
 have e4 := congrArg LB8 e3
 rw [verName_L, verName_L] at e4
 injection e4 with _ e4
 have e5 := List.append_cancel_left e4
 injection e5 with _ e5
 exact hne (LB8_inj (split10 (key_no10 hx) (key_no10 hy) e5).1)
theorem index_pw {l : List S38} (h : indexB l = true) : l.Pairwise (fun a b => a.f0 ≠ b.f0) := by
 have hp : l.Pairwise (fun a b => ltN a.f0 b.f0) := pw_of_step (fun a b : S38 => ltN a.f0 b.f0) (fun _ _ _ => ltN_trans) l (fun j h1 => by
  obtain ⟨_, h2, _⟩ := (index_at h).2 (j + 1) h1
  unfold upB at h2
  rw [getD_at l (j + 1) _ h1, Nat.add_sub_cancel, getD_at l j _ (by omega), decide_eq_false (Nat.succ_ne_zero j), Bool.false_or] at h2
  exact bless_ltN.1 h2)
 refine hp.imp ?_
 intro a b h e
 rw [e] at h
 exact ltN_irrefl _ h
theorem parts_pw {u : Int} {key : ByteArray} {l : List S82} (h : fineB u key l = true) : l.Pairwise (fun a b => a.f0 < b.f0) := by
 refine pw_of_step (fun a b : S82 => a.f0 < b.f0) (fun _ _ _ => Int.lt_trans) l (fun j h1 => ?_)
 unfold fineB at h
 simp only [Bool.and_eq_true, decide_eq_true_eq] at h
 have := allFrom_at h.2.2.2 (j + 1) (Nat.zero_le _) (by omega)
 unfold adjB at this
 rw [getD_at l (j + 1) _ h1, Nat.add_sub_cancel, getD_at l j _ (by omega), decide_eq_false (Nat.succ_ne_zero j), Bool.false_or] at this
 simp only [Bool.and_eq_true, decide_eq_true_eq] at this
 exact this.2
theorem ups_pw {l : List S41} (h : checkB l = true) : l.Pairwise (fun a b => a.f0 < b.f0) := by
 refine pw_of_step (fun a b : S41 => a.f0 < b.f0) (fun _ _ _ => Int.lt_trans) l (fun j h1 => ?_)
 unfold checkB at h
 simp only [Bool.and_eq_true, decide_eq_true_eq] at h
 have := allFrom_at h.2 (j + 1) (Nat.zero_le _) (by omega)
 unfold adjU at this
 rw [getD_at l (j + 1) _ h1, Nat.add_sub_cancel, getD_at l j _ (by omega), decide_eq_false (Nat.succ_ne_zero j), Bool.false_or] at this
 simp only [Bool.and_eq_true, decide_eq_true_eq] at this
 exact this.2
theorem depots_pw {now : Int} {l : List S35} (h : depotB now l = true) : l.Pairwise (fun a b => ltN a.f0 b.f0) := by
 refine pw_of_step (fun a b : S35 => ltN a.f0 b.f0) (fun _ _ _ => ltN_trans) l (fun j h1 => ?_)
 obtain ⟨_, _, h2⟩ := (depot_at h).2.2.2 (j + 1) h1
 unfold upD at h2
 rw [getD_at l (j + 1) _ h1, Nat.add_sub_cancel, getD_at l j _ (by omega), decide_eq_false (Nat.succ_ne_zero j), Bool.false_or] at h2
 exact bless_ltN.1 h2
theorem numB_wf {i : Int} (h : numB i = true) : wfu i := by
 unfold numB at h
 simp only [Bool.and_eq_true, decide_eq_true_eq] at h
 unfold wfu; omega
theorem numB8_of {n : Int} (h0 : 0 ≤ n) (h1 : n ≤ 9223372036854775807) : numB8 n = num8 n := by
 unfold numB8
 rw [show IntKind.u64.wrap n = n by simp [IntKind.wrap, IntKind.bits, IntKind.signed]; omega]
theorem partItem_L (id : ByteArray) (p : S82) : LB8 (partItem id p).f0 = 112 :: (LB8 id ++ LB8 (numB8 p.f0)) := by
 unfold partItem
 simp only [LB8_app, LB8_one, List.append_assoc, List.singleton_append, List.cons_append, List.nil_append]
theorem mem_upItems {nm : ByteArray} {u : S41} {x : S43} (h : x ∈ upItems nm u) : LB8 x.f0 = 117 :: LB8 (upId nm u.f0) ∨ ∃ p ∈ u.f2, LB8 x.f0 = 112 :: (LB8 (upId nm u.f0) ++ LB8 (numB8 p.f0)) := by
 unfold upItems at h
 rcases List.mem_cons.1 h with rfl | h
 ·left
  simp only [LB8_app, LB8_one, List.singleton_append]
 ·obtain ⟨p, hp, rfl⟩ := List.mem_map.1 h
  exact Or.inr ⟨p, hp, partItem_L _ _⟩
theorem app8 {a b x y : List UInt8} (ha : a.length = b.length) (h : a ++ x = b ++ y) : a = b ∧ x = y := List.append_inj h ha
theorem upItems_pw {nm : ByteArray} {u : S41} (h : fineB u.f0 u.f1 u.f2 = true) : (upItems nm u).Pairwise NeI := by
 unfold upItems
 refine List.Pairwise.cons (fun y hy => ?_) ?_
 ·obtain ⟨p, _, rfl⟩ := List.mem_map.1 hy
  exact hd_ne (c := 117) (d := 112) (x := LB8 (upId nm u.f0)) (by simp only [LB8_app, LB8_one, List.singleton_append]) (partItem_L _ _) (by decide)
 ·rw [List.pairwise_map]
  refine List.Pairwise.imp_of_mem ?_ (parts_pw h)
  intro a b ha hb hlt e
  have e4 := congrArg LB8 e
  rw [partItem_L, partItem_L] at e4
  injection e4 with _ e4
  have e5 := LB8_inj (List.append_cancel_left e4)
  obtain ⟨_, _, _, hm⟩ := fine_small h
  obtain ⟨a1, a2, _⟩ := mayB_small (hm a ha)
  obtain ⟨b1, b2, _⟩ := mayB_small (hm b hb)
  rw [numB8_of (by omega) (by omega), numB8_of (by omega) (by omega)] at e5
  have := num8_inj (by unfold wfu; omega) (by unfold wfu; omega) e5
  omega
theorem ups_ne {nm : ByteArray} {u v : S41} (hu : fineB u.f0 u.f1 u.f2 = true) (hv : fineB v.f0 v.f1 v.f2 = true) (hlt : u.f0 < v.f0) : ∀ a ∈ upItems nm u, ∀ b ∈ upItems nm v, NeI a b := by
 have key : LB8 (upId nm u.f0) ≠ LB8 (upId nm v.f0) := fun e => by
  rw [upId_L, upId_L] at e
  have e1 := List.append_cancel_left e
  injection e1 with _ e1
  have := num8_inj (numB_wf (fine_small hu).1) (numB_wf (fine_small hv).1) (LB8_inj e1)
  omega
 have hlen : (LB8 (upId nm u.f0)).length = (LB8 (upId nm v.f0)).length := by
  rw [upId_L, upId_L, List.length_append, List.length_append, List.length_cons, List.length_cons, LB8_len (num8 _), LB8_len (num8 _), num8_size, num8_size]
 intro a ha b hb
 rcases mem_upItems ha with e1 | ⟨p, _, e1⟩ <;> rcases mem_upItems hb with e2 | ⟨q, _, e2⟩
 ·intro e
  rw [e, e2] at e1
  injection e1 with _ e1
  exact key e1.symm
 ·exact hd_ne e1 e2 (by decide)
 ·exact hd_ne e1 e2 (by decide)
 ·intro e
  rw [e, e2] at e1
  injection e1 with _ e1
  exact key (app8 hlen.symm e1).1.symm
theorem mem_bItems {b : S35} {x : S43} (h : x ∈ bItems b) : LB8 x.f0 = 98 :: LB8 b.f0 ∨ ∃ c r, (c = 118 ∨ c = 117 ∨ c = 112) ∧ LB8 x.f0 = c :: (LB8 b.f0 ++ 10 :: r) := by
 unfold bItems at h
 rcases List.mem_cons.1 h with rfl | h
 ·left
  unfold bItem
  simp only [LB8_app, LB8_one, List.singleton_append]
 ·rcases List.mem_append.1 h with h | h
  ·obtain ⟨e, _, h⟩ := List.mem_flatMap.1 h
   obtain ⟨v, _, e1⟩ := mem_verFrom h
   exact Or.inr ⟨118, _, Or.inl rfl, by rw [e1, verName_L]⟩
  ·unfold upsL at h
   obtain ⟨u, _, h⟩ := List.mem_flatMap.1 h
   rcases mem_upItems h with e1 | ⟨p, _, e1⟩
   ·exact Or.inr ⟨117, _, Or.inr (Or.inl rfl), by rw [e1, upId_L]⟩
   ·exact Or.inr ⟨112, LB8 (num8 u.f0) ++ LB8 (numB8 p.f0), Or.inr (Or.inr rfl), by rw [e1, upId_L]; simp⟩
theorem bItems_pw {b : S35} (h : bucketB b = true) (hw : wfBucket b) : (bItems b).Pairwise NeI := by
 obtain ⟨_, hi, hc, _⟩ := bucket_at h
 have hb98 : LB8 (bItem b).f0 = 98 :: LB8 b.f0 := by unfold bItem; simp only [LB8_app, LB8_one, List.singleton_append]
 have hver : ∀ x ∈ b.f2.flatMap (versL b.f0), ∃ r, LB8 x.f0 = 118 :: r := fun x hx => by
  obtain ⟨e, _, hx⟩ := List.mem_flatMap.1 hx
  obtain ⟨v, _, e1⟩ := mem_verFrom hx
  exact ⟨_, by rw [e1, verName_L]⟩
 have hup : ∀ x ∈ upsL b.f0 b.f3, ∃ c r, (c = 117 ∨ c = 112) ∧ LB8 x.f0 = c :: r := fun x hx => by
  unfold upsL at hx
  obtain ⟨u, _, hx⟩ := List.mem_flatMap.1 hx
  rcases mem_upItems hx with e1 | ⟨p, _, e1⟩
  ·exact ⟨117, _, Or.inl rfl, e1⟩
  ·exact ⟨112, _, Or.inr rfl, e1⟩
 unfold bItems
 refine List.Pairwise.cons (fun y hy => ?_) ?_
 ·rcases List.mem_append.1 hy with hy | hy
  ·obtain ⟨r, e⟩ := hver y hy
   exact hd_ne hb98 e (by decide)
  ·obtain ⟨c, r, hcc, e⟩ := hup y hy
   exact hd_ne hb98 e (by rcases hcc with rfl | rfl <;> decide)
 ·rw [List.pairwise_append]
  refine ⟨?_, ?_, fun x hx y hy => ?_⟩
  ·rw [List.pairwise_flatMap]
   refine ⟨fun x hx => versL_pw (index_mem hi x hx).2.2 (hw.2.1 x hx), ?_⟩
   refine List.Pairwise.imp_of_mem ?_ (index_pw hi)
   intro x y hx hy hne
   exact vers_ne (index_mem hi x hx).1 (index_mem hi y hy).1 hne
  ·unfold upsL
   rw [List.pairwise_flatMap]
   refine ⟨fun u hu => upItems_pw ((check_mem hc).2 u hu), ?_⟩
   refine List.Pairwise.imp_of_mem ?_ (ups_pw hc)
   intro u v hu hv hlt
   exact ups_ne ((check_mem hc).2 u hu) ((check_mem hc).2 v hv) hlt
  ·obtain ⟨r, e1⟩ := hver x hx
   obtain ⟨c, r2, hcc, e2⟩ := hup y hy
   exact hd_ne e1 e2 (by rcases hcc with rfl | rfl <;> decide)
theorem buckets_ne {a b : S35} (ha : bnameB a.f0 = true) (hb : bnameB b.f0 = true) (hne : a.f0 ≠ b.f0) : ∀ x ∈ bItems a, ∀ y ∈ bItems b, NeI x y := by
 intro x hx y hy
 rcases mem_bItems hx with e1 | ⟨c, r, hc, e1⟩ <;> rcases mem_bItems hy with e2 | ⟨d, s, hd, e2⟩
 ·intro e
  rw [e, e2] at e1
  injection e1 with _ e1
  exact hne (LB8_inj e1).symm
 ·exact hd_ne e1 e2 (by rcases hd with rfl | rfl | rfl <;> decide)
 ·exact hd_ne e1 e2 (by rcases hc with rfl | rfl | rfl <;> decide)
 ·intro e
  rw [e, e2] at e1
  injection e1 with _ e1
  exact hne (LB8_inj (split10 (bname_no10 hb) (bname_no10 ha) e1).1).symm
theorem depL_pw {now : Int} {l : List S35} (h : depotB now l = true) (hw : ∀ b ∈ l, wfBucket b) : (depL now l).Pairwise NeI := by
 obtain ⟨_, _, _, h4⟩ := depot_at h
 have hb : ∀ b ∈ l, bucketB b = true := fun b hb => by
  obtain ⟨j, hj, rfl⟩ := List.getElem_of_mem hb
  exact (h4 j hj).1
 have ht : LB8 (tItem now).f0 = [116] := rfl
 unfold depL
 refine List.Pairwise.cons (fun y hy => ?_) ?_
 ·obtain ⟨b, _, hy⟩ := List.mem_flatMap.1 hy
  rcases mem_bItems hy with e2 | ⟨d, s, hd, e2⟩
  ·exact hd_ne ht e2 (by decide)
  ·exact hd_ne ht e2 (by rcases hd with rfl | rfl | rfl <;> decide)
 ·rw [List.pairwise_flatMap]
  refine ⟨fun b hbm => bItems_pw (hb b hbm) (hw b hbm), ?_⟩
  refine List.Pairwise.imp_of_mem ?_ (depots_pw h)
  intro a b ha hbm hlt
  exact buckets_ne (head_at (bucket_at (hb a ha)).1).1 (head_at (bucket_at (hb b hbm)).1).1 (fun e => ltN_irrefl _ (by rw [e] at hlt; exact hlt))
/-- Sorted by names, and no name twice: rising. -/
theorem si_of {zs ys : List S43} (hp : zs.Perm ys) (hd : ys.Pairwise NeI) (hs : zs.Pairwise (fun a b => ¬ ltN b.f0 a.f0)) : SI zs := by
 have hz : zs.Pairwise NeI := (hp.pairwise_iff (fun {a b} h => Ne.symm h)).2 hd
 exact (hz.and hs).imp (fun ⟨h1, h2⟩ => ltN_of h1 h2)
end Go.Proofs.YtafeepdlcilicaaGreat.Q

-- J3
namespace Go.Proofs.YtafeepdlcilicaaGreat.Q
open Go.WideMaps Go.RowKit Go.Proofs.YtafeepdlcilicaaGreatW.PrintWords Go.Proofs.YtafeepdlcilicaaGreatW.PrintLast Go.Proofs.YtafeepdlcilicaaGreatW.PrintMore Go.Maps
set_option linter.unusedVariables false
set_option linter.unusedSimpArgs false

/-! ### items.Of in the print's form -/
theorem valF_ne : ∀ (l : List S43) (f : ByteArray → Option ByteArray), l.Pairwise NeI → (∀ x ∈ l, valF f l x.f0 = some x.f1) ∧ (∀ nm, (∀ x ∈ l, x.f0 ≠ nm) → valF f l nm = f nm)
 | [], f, _ => ⟨fun _ h => (by cases h), fun _ _ => rfl⟩
 | x :: l, f, h => by
  rw [List.pairwise_cons] at h
  obtain ⟨i1, i2⟩ := valF_ne l (putF f x.f0 x.f1) h.2
  have e : valF f (x :: l) = valF (putF f x.f0 x.f1) l := rfl
  rw [e]
  refine ⟨fun y hy => ?_, fun nm hn => ?_⟩
  ·rcases List.mem_cons.1 hy with rfl | hy
   ·rw [i2 _ (fun z hz => Ne.symm (h.1 z hz))]
    unfold putF; rw [if_pos rfl]
   ·exact i1 y hy
  ·rw [i2 nm (fun z hz => hn z (List.mem_cons_of_mem _ hz))]
   unfold putF; rw [if_neg (Ne.symm (hn x List.mem_cons_self))]
theorem repF_ne {l : List S43} (h : l.Pairwise NeI) : RepF l (valL l) := by
 obtain ⟨i1, i2⟩ := valF_ne l (fun _ => none) h
 intro it
 refine ⟨fun hm => i1 it hm, fun hv => ?_⟩
 by_cases hx : ∃ x ∈ l, x.f0 = it.f0
 ·obtain ⟨x, hxm, e⟩ := hx
  have := i1 x hxm
  rw [e] at this
  have h2 : valF (fun _ => none) l it.f0 = some it.f1 := hv
  rw [this] at h2
  injection h2 with h2
  obtain ⟨a, b⟩ := x; obtain ⟨c, d⟩ := it
  simp only at e h2
  subst e h2
  exact hxm
 ·have := i2 it.f0 (fun x hxm e => hx ⟨x, hxm, e⟩)
  have h2 : valF (fun _ => none) l it.f0 = some it.f1 := hv
  rw [this] at h2
  cases h2
theorem sorted_norm {zs ys : List S43} (hp : zs.Perm ys) (hd : ys.Pairwise NeI) (hs : zs.Pairwise (fun a b => ¬ ltN b.f0 a.f0)) : zs = normL ys := by
 refine sortedI_ext (si_of hp hd hs) (normL_ok ys).1 (fun n => ?_)
 rw [(normL_ok ys).2 n, ← repF_ne hd n]
 exact hp.mem_iff
def ofL (now : Int) (l : List S35) : List S43 := normL (depL now l)
theorem ofL_perm {now : Int} {l : List S35} (h : depotB now l = true) (hw : ∀ b ∈ l, wfBucket b) : ∀ x, x ∈ ofL now l ↔ x ∈ depL now l := fun x => by
 unfold ofL
 rw [(normL_ok _).2 x, ← repF_ne (depL_pw h hw) x]
theorem ofL_SI (now : Int) (l : List S35) : SI (ofL now l) := (normL_ok _).1
theorem si_nodup {l : List S43} (h : SI l) : l.Nodup := h.imp (fun h e => by rw [e] at h; exact ltN_irrefl _ h)
theorem ne_nodup {l : List S43} (h : l.Pairwise NeI) : l.Nodup := h.imp (fun h e => h (by rw [e]))
theorem ofL_is_perm {now : Int} {l : List S35} (h : depotB now l = true) (hw : ∀ b ∈ l, wfBucket b) : (ofL now l).Perm (depL now l) :=
 (List.perm_ext_iff_of_nodup (si_nodup (ofL_SI now l)) (ne_nodup (depL_pw h hw))).2 (ofL_perm h hw)
open Classical in
noncomputable def items_Of.f (a0_0 : Int) (l0_1 : List S35) : Option (List S43 × Int) := if depotB a0_0 l0_1 = true then (if ∀ b ∈ l0_1, wfBucket b then some (ofL a0_0 l0_1, 0) else none) else some ([], 1)
theorem items_Of.calls (a0_0 : Int) (A0_1 : Option Addr) (c0_1 : Nat) (l0_1 : List S35) (r1 : List S43) (r2 : Int) (w : World) (hr0_1 : Kd.C k35 w A0_1 l0_1.length l0_1) (hc0_1 : l0_1.length ≤ c0_1) (h : items_Of.f a0_0 l0_1 = some (r1, r2)) :
  Calls Tryz.prog 6 #[.agg #[.int .i64 a0_0, .slice A0_1 l0_1.length c0_1]] w fun e w' => ∃ v1_ : Value, e = .returned (.tuple #[v1_, .int .i64 r2]) ∧ Kd.R k43 43 w' w.heap.size (fun _ => True) v1_ r1 ∧ Below w.heap.size w w' := by
 unfold items_Of.f at h
 split at h
 ·rename_i hd
  split at h
  ·rename_i hw
   injection h with h; injection h with h1 h2
   subst h1 h2
   refine (of_yes.walk a0_0 A0_1 c0_1 l0_1 w hr0_1 hd).mono ?_
   rintro e w' ⟨v, zs, rfl, hz, hp, hs, hb⟩
   rw [sorted_norm hp (depL_pw hd hw) hs] at hz
   exact ⟨v, rfl, NRow35.R hz, hb⟩
  ·cases h
 ·rename_i hd
  injection h with h; injection h with h1 h2
  subst h1 h2
  refine (of_no.walk a0_0 A0_1 c0_1 l0_1 w hr0_1 (by simpa using hd)).mono ?_
  rintro e w' ⟨rfl, hb⟩
  exact ⟨_, rfl, NRow35.R (NRow35.nil _ _), hb⟩
end Go.Proofs.YtafeepdlcilicaaGreat.Q

-- Ln
namespace Go.Proofs.YtafeepdlcilicaaGreat.Q
open Go.RowKit Go.Proofs.YtafeepdlcilicaaGreatW.PrintWords Go.Proofs.YtafeepdlcilicaaGreatW.PrintLast Go.Proofs.YtafeepdlcilicaaGreatW.PrintMore
attribute [local go_sem] binOp_string_geq2
attribute [local go_sem] max2_int min2_int max_two min_two max_three min_three max_four min_four
set_option linter.unusedVariables false
set_option linter.unusedSimpArgs false

/-! ### cellarerlaw11_ItemsNames: function 3 -/
mutual
noncomputable def cellarerlaw11_ItemsNames.l0 : Nat → List (S43) → Int → Int → Int → List (S35) → Option (Bool)
 | 0, _, _, _, _, _ => none
 | k + 1, x3, x5, x6, x265000, x265001 => if x6 < (x265001.length : Int) then (cellarerlaw11_ItemsNames.l1 k x3 x5 x6 0 x265000 x265001) else (cellarerlaw11_ItemsNames.l3 k x3 x5 1)
noncomputable def cellarerlaw11_ItemsNames.l1 : Nat → List (S43) → Int → Int → Int → Int → List (S35) → Option (Bool)
 | 0, _, _, _, _, _, _ => none
 | k + 1, x3, x5, x6, x7, x265000, x265001 => if 0 ≤ x6 then (if x6 < (x265001.length : Int) then (if x7 < (((rd_T35 x265001 x6).f2).length : Int) then (if 0 ≤ x7 then (cellarerlaw11_ItemsNames.l1 k x3 (wrap64 (x5 + (((rd_T38 ((rd_T35 x265001 x6).f2) x7).f1).length : Int))) x6 (wrap64 (x7 + 1)) x265000 x265001) else (none)) else (cellarerlaw11_ItemsNames.l2 k x3 x5 x6 0 x265000 x265001)) else (none)) else (none)
noncomputable def cellarerlaw11_ItemsNames.l2 : Nat → List (S43) → Int → Int → Int → Int → List (S35) → Option (Bool)
 | 0, _, _, _, _, _, _ => none
 | k + 1, x3, x5, x6, x8, x265000, x265001 => if 0 ≤ x6 then (if x6 < (x265001.length : Int) then (if x8 < (((rd_T35 x265001 x6).f3).length : Int) then (if 0 ≤ x8 then (cellarerlaw11_ItemsNames.l2 k x3 (wrap64 (x5 + (wrap64 (1 + (((rd_T41 ((rd_T35 x265001 x6).f3) x8).f2).length : Int))))) x6 (wrap64 (x8 + 1)) x265000 x265001) else (none)) else (cellarerlaw11_ItemsNames.l0 k x3 x5 (wrap64 (x6 + 1)) x265000 x265001)) else (none)) else (none)
noncomputable def cellarerlaw11_ItemsNames.l3 : Nat → List (S43) → Int → Int → Option (Bool)
 | 0, _, _, _ => none
 | k + 1, x3, x5, x9 => if x9 < (x3.length : Int) then (if 0 ≤ (wrap64 (x9 - 1)) then (if (wrap64 (x9 - 1)) < (x3.length : Int) then (if 0 ≤ x9 then (if ((Op.bytesLess (((rd_T43 x3 (wrap64 (x9 - 1))).f0).toList) (((rd_T43 x3 x9).f0).toList)) = true) then (cellarerlaw11_ItemsNames.l3 k x3 x5 (wrap64 (x9 + 1))) else (some false)) else (none)) else (none)) else (none)) else (if (x3.length : Int) = x5 then ((cellarerlaw11_awake.f).bind fun t282 => (some t282)) else (some false))
end
noncomputable def cellarerlaw11_ItemsNames.f (k : Nat) (a0_0 : Int) (l0_1 : List (S35)) : Option (Bool) := (cellarerlaw10_Few.f k a0_0 l0_1).bind fun bt265 => ((items_Of.f bt265.1 bt265.2).bind fun bt269 => (if bt269.2 = 0 then (cellarerlaw11_ItemsNames.l0 k bt269.1 (wrap64 (1 + (bt265.2.length : Int))) 0 bt265.1 bt265.2) else ((cellarerlaw11_awake.f).bind fun t273 => (some t273))))
theorem cellarerlaw11_ItemsNames.mono_l : ∀ k, (∀ y0 y1 y2 y3 y4, LeO (cellarerlaw11_ItemsNames.l0 k y0 y1 y2 y3 y4) (cellarerlaw11_ItemsNames.l0 (k + 1) y0 y1 y2 y3 y4)) ∧ (∀ y0 y1 y2 y3 y4 y5, LeO (cellarerlaw11_ItemsNames.l1 k y0 y1 y2 y3 y4 y5) (cellarerlaw11_ItemsNames.l1 (k + 1) y0 y1 y2 y3 y4 y5)) ∧ (∀ y0 y1 y2 y3 y4 y5, LeO (cellarerlaw11_ItemsNames.l2 k y0 y1 y2 y3 y4 y5) (cellarerlaw11_ItemsNames.l2 (k + 1) y0 y1 y2 y3 y4 y5)) ∧ (∀ y0 y1 y2, LeO (cellarerlaw11_ItemsNames.l3 k y0 y1 y2) (cellarerlaw11_ItemsNames.l3 (k + 1) y0 y1 y2))
 | 0 => ⟨fun _ _ _ _ _ r h => by simp [cellarerlaw11_ItemsNames.l0] at h, fun _ _ _ _ _ _ r h => by simp [cellarerlaw11_ItemsNames.l1] at h, fun _ _ _ _ _ _ r h => by simp [cellarerlaw11_ItemsNames.l2] at h, fun _ _ _ r h => by simp [cellarerlaw11_ItemsNames.l3] at h⟩
 | k + 1 => by
  obtain ⟨ih0, ih1, ih2, ih3⟩ := cellarerlaw11_ItemsNames.mono_l k
  refine ⟨?_, ?_, ?_, ?_⟩
  ·intro y0 y1 y2 y3 y4
   unfold cellarerlaw11_ItemsNames.l0
   repeat' first
   | (with_reducible exact ih0 _ _ _ _ _)
   | (with_reducible exact ih1 _ _ _ _ _ _)
   | (with_reducible exact ih2 _ _ _ _ _ _)
   | (with_reducible exact ih3 _ _ _)
   | (with_reducible exact cellarerlaw10_Few.mono _ _ _)
   | (with_reducible exact LeO.refl _)
   | (with_reducible exact LeO.none _)
   | (with_reducible refine LeO.ite ?_ ?_)
   | (with_reducible refine LeO.bind ?_ (fun _ => ?_))
   | exact ih0 _ _ _ _ _
   | exact ih1 _ _ _ _ _ _
   | exact ih2 _ _ _ _ _ _
   | exact ih3 _ _ _
   | exact cellarerlaw10_Few.mono _ _ _
   | exact LeO.none _
   | refine LeO.ite ?_ ?_
   | refine LeO.bind ?_ (fun _ => ?_)
  ·intro y0 y1 y2 y3 y4 y5
   unfold cellarerlaw11_ItemsNames.l1
   repeat' first
   | (with_reducible exact ih0 _ _ _ _ _)
   | (with_reducible exact ih1 _ _ _ _ _ _)
   | (with_reducible exact ih2 _ _ _ _ _ _)
   | (with_reducible exact ih3 _ _ _)
   | (with_reducible exact cellarerlaw10_Few.mono _ _ _)
   | (with_reducible exact LeO.refl _)
   | (with_reducible exact LeO.none _)
   | (with_reducible refine LeO.ite ?_ ?_)
   | (with_reducible refine LeO.bind ?_ (fun _ => ?_))
   | exact ih0 _ _ _ _ _
   | exact ih1 _ _ _ _ _ _
   | exact ih2 _ _ _ _ _ _
   | exact ih3 _ _ _
   | exact cellarerlaw10_Few.mono _ _ _
   | exact LeO.none _
   | refine LeO.ite ?_ ?_
   | refine LeO.bind ?_ (fun _ => ?_)
  ·intro y0 y1 y2 y3 y4 y5
   unfold cellarerlaw11_ItemsNames.l2
   repeat' first
   | (with_reducible exact ih0 _ _ _ _ _)
   | (with_reducible exact ih1 _ _ _ _ _ _)
   | (with_reducible exact ih2 _ _ _ _ _ _)
   | (with_reducible exact ih3 _ _ _)
   | (with_reducible exact cellarerlaw10_Few.mono _ _ _)
   | (with_reducible exact LeO.refl _)
   | (with_reducible exact LeO.none _)
   | (with_reducible refine LeO.ite ?_ ?_)
   | (with_reducible refine LeO.bind ?_ (fun _ => ?_))
   | exact ih0 _ _ _ _ _
   | exact ih1 _ _ _ _ _ _
   | exact ih2 _ _ _ _ _ _
   | exact ih3 _ _ _
   | exact cellarerlaw10_Few.mono _ _ _
   | exact LeO.none _
   | refine LeO.ite ?_ ?_
   | refine LeO.bind ?_ (fun _ => ?_)
  ·intro y0 y1 y2
   unfold cellarerlaw11_ItemsNames.l3
   repeat' first
   | (with_reducible exact ih0 _ _ _ _ _)
   | (with_reducible exact ih1 _ _ _ _ _ _)
   | (with_reducible exact ih2 _ _ _ _ _ _)
   | (with_reducible exact ih3 _ _ _)
   | (with_reducible exact cellarerlaw10_Few.mono _ _ _)
   | (with_reducible exact LeO.refl _)
   | (with_reducible exact LeO.none _)
   | (with_reducible refine LeO.ite ?_ ?_)
   | (with_reducible refine LeO.bind ?_ (fun _ => ?_))
   | exact ih0 _ _ _ _ _
   | exact ih1 _ _ _ _ _ _
   | exact ih2 _ _ _ _ _ _
   | exact ih3 _ _ _
   | exact cellarerlaw10_Few.mono _ _ _
   | exact LeO.none _
   | refine LeO.ite ?_ ?_
   | refine LeO.bind ?_ (fun _ => ?_)
theorem cellarerlaw11_ItemsNames.mono : ∀ a0 a1 k, LeO (cellarerlaw11_ItemsNames.f k a0 a1) (cellarerlaw11_ItemsNames.f (k + 1) a0 a1) := by
 intro a0 a1 k
 obtain ⟨ih0, ih1, ih2, ih3⟩ := cellarerlaw11_ItemsNames.mono_l k
 unfold cellarerlaw11_ItemsNames.f
 repeat' first
   | (with_reducible exact ih0 _ _ _ _ _)
   | (with_reducible exact ih1 _ _ _ _ _ _)
   | (with_reducible exact ih2 _ _ _ _ _ _)
   | (with_reducible exact ih3 _ _ _)
   | (with_reducible exact cellarerlaw10_Few.mono _ _ _)
   | (with_reducible exact LeO.refl _)
   | (with_reducible exact LeO.none _)
   | (with_reducible refine LeO.ite ?_ ?_)
   | (with_reducible refine LeO.bind ?_ (fun _ => ?_))
   | exact ih0 _ _ _ _ _
   | exact ih1 _ _ _ _ _ _
   | exact ih2 _ _ _ _ _ _
   | exact ih3 _ _ _
   | exact cellarerlaw10_Few.mono _ _ _
   | exact LeO.none _
   | refine LeO.ite ?_ ?_
   | refine LeO.bind ?_ (fun _ => ?_)
set_option maxHeartbeats 8000000 in
set_option maxRecDepth 100000 in
theorem cellarerlaw11_ItemsNames.calls (k : Nat) (a0_0 : Int) (A0_1 : Option Addr) (c0_1 : Nat) (l0_1 : List (S35)) (r : Bool) (w : World) (hr0_1 : Kd.C k35 w A0_1 l0_1.length l0_1) (hc0_1 : l0_1.length ≤ c0_1) (h : cellarerlaw11_ItemsNames.f k a0_0 l0_1 = some r) :
  Calls Tryz.prog 3 #[.agg #[.int .i64 a0_0, .slice A0_1 l0_1.length c0_1]] w fun e w' => e = .returned (.bool r) ∧ Below w.heap.size w w' := by
 have hu24 := Tryz.underlying24
 have HR0_1 := Aside0.mk hr0_1
 have HC0_1 := Aside0.mk hc0_1
 clear hr0_1 hc0_1
 have HB := Aside0.mk (Below.refl w.heap.size w)
 have H : ((cellarerlaw10_Few.f k a0_0 l0_1).bind fun bt265 => ((items_Of.f bt265.1 bt265.2).bind fun bt269 => (if bt269.2 = 0 then (cellarerlaw11_ItemsNames.l0 k bt269.1 (wrap64 (1 + (bt265.2.length : Int))) 0 bt265.1 bt265.2) else ((cellarerlaw11_awake.f).bind fun t273 => (some t273))))) = some r := h
 clear h
 replace H := Option.bind_eq_some_iff.mp H
 obtain ⟨⟨t265, t266⟩, A20, H⟩ := H
 replace H : ((items_Of.f t265 t266).bind fun bt269 => (if bt269.2 = 0 then (cellarerlaw11_ItemsNames.l0 k bt269.1 (wrap64 (1 + (t266.length : Int))) 0 t265 t266) else ((cellarerlaw11_awake.f).bind fun t273 => (some t273)))) = some r := H
 have A2 := Aside0.mk A20
 clear A20
 replace H := Option.bind_eq_some_iff.mp H
 obtain ⟨⟨t269, t272⟩, A30, H⟩ := H
 replace H : (if t272 = 0 then (cellarerlaw11_ItemsNames.l0 k t269 (wrap64 (1 + (t266.length : Int))) 0 t265 t266) else ((cellarerlaw11_awake.f).bind fun t273 => (some t273))) = some r := H
 have A3 := Aside0.mk A30
 clear A30
 by_cases c4 : t272 = 0
 ·rw [if_pos c4] at H
  have c4b0 : (t272 == 0) = true := beq_iff_eq.mpr c4
  have c4b1 : (t272 != 0) = false := bne_eq_false_iff_eq.mpr c4
  clear c4
  have H' := Aside0.mk H
  clear H
  go_enter Tryz.func3, Tryz.ntmps3
  go_wp2_with (first | ((with_reducible refine gate_dst (N := 1) rfl ?_); refine box_event ?hg (N := 1) ?hd (cs := #[.int .i64 a0_0, .slice A0_1 l0_1.length c0_1]) (t := 24) ?hr ?_; (case hd => rfl); (case hg => rfl); (case hr => first | (go_simp; done) | (go_simp; rfl)); intro gb264 hg w5 hbox hb; have n0_ := Aside0.mk (below_step (by repeat (first | (with_reducible first | exact HB.out | apply below_alloc | apply pw_below_drewN | apply below_drew1) | exact HB.out)) hb); have n1_ := Aside0.mk (hbox); have n2_ := Aside0.mk ((by rw [hg]; exact (below_size (by repeat (first | (with_reducible first | exact HB.out | apply below_alloc | apply pw_below_drewN | apply below_drew1) | exact HB.out))) : w.heap.size ≤ gb264)); have n3_ := Aside0.mk ((by rw [hg]; exact (below_size (by repeat (first | (with_reducible first | exact HB.out | apply below_alloc | apply pw_below_drewN | apply below_drew1) | exact HB.out))) : w.heap.size ≤ gb264)); clear HB; have HB := n0_; have BK264 := n1_; have GW264 := n2_; have GE264 := n3_; clear n0_ n1_ n2_ n3_; clear hb hbox hg; have hcz6_0 : w5.cell? ⟨gb264, 0, none⟩ = some (.int .i64 a0_0) := (blk_cell BK264.out 0).trans rfl; have hcz6_1 : w5.cell? ⟨gb264, 1, none⟩ = some (.slice A0_1 l0_1.length c0_1) := (blk_cell BK264.out 1).trans rfl; have hfz6_0 := blk_frozen BK264.out 0; have hfz6_1 := blk_frozen BK264.out 1) | (go_at_call 5; (with_reducible refine (cellarerlaw10_Few.calls k a0_0 _ _ l0_1 t265 t266 _ ?side1 ?side2 A2.out).mono ?_); (case side1 => repeat (first | exact (Kd.C_below HR0_1.out HB.out) | (with_reducible refine Kd.C_alloc ?_ _) | (with_reducible refine Kd.C_drewN ?_ _) | (with_reducible refine Kd.C_drew ?_))); (case side2 => exact HC0_1.out); rintro e w7 ⟨v267, rfl, ho0, hb⟩; have n0_ := Aside0.mk (Kd.R_lower ho0 (below_size (by repeat (first | (with_reducible first | exact HB.out | apply below_alloc | apply pw_below_drewN | apply below_drew1 | refine below_set ?_ GE264.out) | exact HB.out)))); have n1_ := Aside0.mk (blk_below (g := gb264) (o := .cells #[.int .i64 a0_0, .slice A0_1 l0_1.length c0_1] 24 (0, 0)) (by (with_reducible repeat (first | refine blk_drewN ?_ _ | refine blk_drew ?_ | refine blk_alloc ?_ _)); exact BK264.out) hb); have n2_ := Aside0.mk (below_step (by repeat (first | (with_reducible first | exact HB.out | apply below_alloc | apply pw_below_drewN | apply below_drew1 | refine below_set ?_ GE264.out) | exact HB.out)) hb); clear BK264; clear HB; have HO268 := n0_; have BK264 := n1_; have HB := n2_; clear n0_ n1_ n2_; (try clear hb); (try clear hb2); (try clear hk); (try clear hi); (try clear ho0); have hcz8_0 : w7.cell? ⟨gb264, 0, none⟩ = some (.int .i64 a0_0) := (blk_cell BK264.out 0).trans rfl; have hcz8_1 : w7.cell? ⟨gb264, 1, none⟩ = some (.slice A0_1 l0_1.length c0_1) := (blk_cell BK264.out 1).trans rfl; have hfz8_0 := blk_frozen BK264.out 0; have hfz8_1 := blk_frozen BK264.out 1; obtain ⟨Ao9, co9, eo9⟩ := Kd.R_slice HO268.out; subst eo9) | (go_at_call 6; (with_reducible refine (items_Of.calls t265 _ _ t266 t269 t272 _ ?side1 ?side2 A3.out).mono ?_); (case side1 => refine (Kd.R_reads' (e := 35) (base := w.heap.size) (ok := fun k_ => True) (n := t266.length) (c := co9) ?_).2.2; exact (by (with_reducible repeat (first | apply Kd.R_alloc | apply Kd.R_drewN | apply Kd.R_drew)); exact (Kd.R_mono (Kd.R_far (p := ⟨gb264, 1, none⟩) (Kd.R_far (p := ⟨gb264, 0, none⟩) (Kd.R_types HO268.out BK264.out (by decide)) (fun _ hk => hk.2) (.int .i64 t265)) (fun _ hk => hk.2) (.slice Ao9 t266.length co9)) (fun _ h_ => h_.1)))); (case side2 => exact (Kd.R_reads' HO268.out).2.1); rintro e w10 ⟨v270, rfl, ho0, hb⟩; have n0_ := Aside0.mk (Kd.R_below (by (with_reducible repeat (first | apply Kd.R_alloc | apply Kd.R_drewN | apply Kd.R_drew)); exact (Kd.R_mono (Kd.R_far (p := ⟨gb264, 1, none⟩) (Kd.R_far (p := ⟨gb264, 0, none⟩) (Kd.R_types HO268.out BK264.out (by decide)) (fun _ hk => hk.2) (.int .i64 t265)) (fun _ hk => hk.2) (.slice Ao9 t266.length co9)) (fun _ h_ => h_.1))) hb); have n1_ := Aside0.mk (Kd.R_lower ho0 (below_size (by repeat (first | (with_reducible first | exact HB.out | apply below_alloc | apply pw_below_drewN | apply below_drew1 | refine below_set ?_ GE264.out) | exact HB.out)))); have n2_ := Aside0.mk (blk_below (g := gb264) (o := .cells #[.int .i64 t265, .slice Ao9 t266.length co9] 24 (0, 0)) (by (with_reducible repeat (first | refine blk_drewN ?_ _ | refine blk_drew ?_ | refine blk_alloc ?_ _)); refine blk_put (cs := #[.int .i64 t265, .slice A0_1 l0_1.length c0_1]) ?_ 1 _ rfl; (with_reducible repeat (first | refine blk_drewN ?_ _ | refine blk_drew ?_ | refine blk_alloc ?_ _)); refine blk_put (cs := #[.int .i64 a0_0, .slice A0_1 l0_1.length c0_1]) ?_ 0 _ rfl; (with_reducible repeat (first | refine blk_drewN ?_ _ | refine blk_drew ?_ | refine blk_alloc ?_ _)); exact BK264.out) hb); have n3_ := Aside0.mk (below_step (by repeat (first | (with_reducible first | exact HB.out | apply below_alloc | apply pw_below_drewN | apply below_drew1 | refine below_set ?_ GE264.out) | exact HB.out)) hb); clear HO268; clear BK264; clear HB; have HO268 := n0_; have HO271 := n1_; have BK264 := n2_; have HB := n3_; clear n0_ n1_ n2_ n3_; (try clear hb); (try clear hb2); (try clear hk); (try clear hi); (try clear ho0); have hcz11_0 : w10.cell? ⟨gb264, 0, none⟩ = some (.int .i64 t265) := (blk_cell BK264.out 0).trans rfl; have hcz11_1 : w10.cell? ⟨gb264, 1, none⟩ = some (.slice Ao9 t266.length co9) := (blk_cell BK264.out 1).trans rfl; have hfz11_0 := blk_frozen BK264.out 0; have hfz11_1 := blk_frozen BK264.out 1))
  repeat (go_quiet (first | ((with_reducible refine gate_dst (N := 1) rfl ?_); refine box_event ?hg (N := 1) ?hd (cs := #[.int .i64 a0_0, .slice A0_1 l0_1.length c0_1]) (t := 24) ?hr ?_; (case hd => rfl); (case hg => rfl); (case hr => first | (go_simp; done) | (go_simp; rfl)); intro gb264 hg w5 hbox hb; have n0_ := Aside0.mk (below_step (by repeat (first | (with_reducible first | exact HB.out | apply below_alloc | apply pw_below_drewN | apply below_drew1) | exact HB.out)) hb); have n1_ := Aside0.mk (hbox); have n2_ := Aside0.mk ((by rw [hg]; exact (below_size (by repeat (first | (with_reducible first | exact HB.out | apply below_alloc | apply pw_below_drewN | apply below_drew1) | exact HB.out))) : w.heap.size ≤ gb264)); have n3_ := Aside0.mk ((by rw [hg]; exact (below_size (by repeat (first | (with_reducible first | exact HB.out | apply below_alloc | apply pw_below_drewN | apply below_drew1) | exact HB.out))) : w.heap.size ≤ gb264)); clear HB; have HB := n0_; have BK264 := n1_; have GW264 := n2_; have GE264 := n3_; clear n0_ n1_ n2_ n3_; clear hb hbox hg; have hcz6_0 : w5.cell? ⟨gb264, 0, none⟩ = some (.int .i64 a0_0) := (blk_cell BK264.out 0).trans rfl; have hcz6_1 : w5.cell? ⟨gb264, 1, none⟩ = some (.slice A0_1 l0_1.length c0_1) := (blk_cell BK264.out 1).trans rfl; have hfz6_0 := blk_frozen BK264.out 0; have hfz6_1 := blk_frozen BK264.out 1) | (go_at_call 5; (with_reducible refine (cellarerlaw10_Few.calls k a0_0 _ _ l0_1 t265 t266 _ ?side1 ?side2 A2.out).mono ?_); (case side1 => repeat (first | exact (Kd.C_below HR0_1.out HB.out) | (with_reducible refine Kd.C_alloc ?_ _) | (with_reducible refine Kd.C_drewN ?_ _) | (with_reducible refine Kd.C_drew ?_))); (case side2 => exact HC0_1.out); rintro e w7 ⟨v267, rfl, ho0, hb⟩; have n0_ := Aside0.mk (Kd.R_lower ho0 (below_size (by repeat (first | (with_reducible first | exact HB.out | apply below_alloc | apply pw_below_drewN | apply below_drew1 | refine below_set ?_ GE264.out) | exact HB.out)))); have n1_ := Aside0.mk (blk_below (g := gb264) (o := .cells #[.int .i64 a0_0, .slice A0_1 l0_1.length c0_1] 24 (0, 0)) (by (with_reducible repeat (first | refine blk_drewN ?_ _ | refine blk_drew ?_ | refine blk_alloc ?_ _)); exact BK264.out) hb); have n2_ := Aside0.mk (below_step (by repeat (first | (with_reducible first | exact HB.out | apply below_alloc | apply pw_below_drewN | apply below_drew1 | refine below_set ?_ GE264.out) | exact HB.out)) hb); clear BK264; clear HB; have HO268 := n0_; have BK264 := n1_; have HB := n2_; clear n0_ n1_ n2_; (try clear hb); (try clear hb2); (try clear hk); (try clear hi); (try clear ho0); have hcz8_0 : w7.cell? ⟨gb264, 0, none⟩ = some (.int .i64 a0_0) := (blk_cell BK264.out 0).trans rfl; have hcz8_1 : w7.cell? ⟨gb264, 1, none⟩ = some (.slice A0_1 l0_1.length c0_1) := (blk_cell BK264.out 1).trans rfl; have hfz8_0 := blk_frozen BK264.out 0; have hfz8_1 := blk_frozen BK264.out 1; obtain ⟨Ao9, co9, eo9⟩ := Kd.R_slice HO268.out; subst eo9) | (go_at_call 6; (with_reducible refine (items_Of.calls t265 _ _ t266 t269 t272 _ ?side1 ?side2 A3.out).mono ?_); (case side1 => refine (Kd.R_reads' (e := 35) (base := w.heap.size) (ok := fun k_ => True) (n := t266.length) (c := co9) ?_).2.2; exact (by (with_reducible repeat (first | apply Kd.R_alloc | apply Kd.R_drewN | apply Kd.R_drew)); exact (Kd.R_mono (Kd.R_far (p := ⟨gb264, 1, none⟩) (Kd.R_far (p := ⟨gb264, 0, none⟩) (Kd.R_types HO268.out BK264.out (by decide)) (fun _ hk => hk.2) (.int .i64 t265)) (fun _ hk => hk.2) (.slice Ao9 t266.length co9)) (fun _ h_ => h_.1)))); (case side2 => exact (Kd.R_reads' HO268.out).2.1); rintro e w10 ⟨v270, rfl, ho0, hb⟩; have n0_ := Aside0.mk (Kd.R_below (by (with_reducible repeat (first | apply Kd.R_alloc | apply Kd.R_drewN | apply Kd.R_drew)); exact (Kd.R_mono (Kd.R_far (p := ⟨gb264, 1, none⟩) (Kd.R_far (p := ⟨gb264, 0, none⟩) (Kd.R_types HO268.out BK264.out (by decide)) (fun _ hk => hk.2) (.int .i64 t265)) (fun _ hk => hk.2) (.slice Ao9 t266.length co9)) (fun _ h_ => h_.1))) hb); have n1_ := Aside0.mk (Kd.R_lower ho0 (below_size (by repeat (first | (with_reducible first | exact HB.out | apply below_alloc | apply pw_below_drewN | apply below_drew1 | refine below_set ?_ GE264.out) | exact HB.out)))); have n2_ := Aside0.mk (blk_below (g := gb264) (o := .cells #[.int .i64 t265, .slice Ao9 t266.length co9] 24 (0, 0)) (by (with_reducible repeat (first | refine blk_drewN ?_ _ | refine blk_drew ?_ | refine blk_alloc ?_ _)); refine blk_put (cs := #[.int .i64 t265, .slice A0_1 l0_1.length c0_1]) ?_ 1 _ rfl; (with_reducible repeat (first | refine blk_drewN ?_ _ | refine blk_drew ?_ | refine blk_alloc ?_ _)); refine blk_put (cs := #[.int .i64 a0_0, .slice A0_1 l0_1.length c0_1]) ?_ 0 _ rfl; (with_reducible repeat (first | refine blk_drewN ?_ _ | refine blk_drew ?_ | refine blk_alloc ?_ _)); exact BK264.out) hb); have n3_ := Aside0.mk (below_step (by repeat (first | (with_reducible first | exact HB.out | apply below_alloc | apply pw_below_drewN | apply below_drew1 | refine below_set ?_ GE264.out) | exact HB.out)) hb); clear HO268; clear BK264; clear HB; have HO268 := n0_; have HO271 := n1_; have BK264 := n2_; have HB := n3_; clear n0_ n1_ n2_ n3_; (try clear hb); (try clear hb2); (try clear hk); (try clear hi); (try clear ho0); have hcz11_0 : w10.cell? ⟨gb264, 0, none⟩ = some (.int .i64 t265) := (blk_cell BK264.out 0).trans rfl; have hcz11_1 : w10.cell? ⟨gb264, 1, none⟩ = some (.slice Ao9 t266.length co9) := (blk_cell BK264.out 1).trans rfl; have hfz11_0 := blk_frozen BK264.out 0; have hfz11_1 := blk_frozen BK264.out 1)); try go_wp2_with (first | ((with_reducible refine gate_dst (N := 1) rfl ?_); refine box_event ?hg (N := 1) ?hd (cs := #[.int .i64 a0_0, .slice A0_1 l0_1.length c0_1]) (t := 24) ?hr ?_; (case hd => rfl); (case hg => rfl); (case hr => first | (go_simp; done) | (go_simp; rfl)); intro gb264 hg w5 hbox hb; have n0_ := Aside0.mk (below_step (by repeat (first | (with_reducible first | exact HB.out | apply below_alloc | apply pw_below_drewN | apply below_drew1) | exact HB.out)) hb); have n1_ := Aside0.mk (hbox); have n2_ := Aside0.mk ((by rw [hg]; exact (below_size (by repeat (first | (with_reducible first | exact HB.out | apply below_alloc | apply pw_below_drewN | apply below_drew1) | exact HB.out))) : w.heap.size ≤ gb264)); have n3_ := Aside0.mk ((by rw [hg]; exact (below_size (by repeat (first | (with_reducible first | exact HB.out | apply below_alloc | apply pw_below_drewN | apply below_drew1) | exact HB.out))) : w.heap.size ≤ gb264)); clear HB; have HB := n0_; have BK264 := n1_; have GW264 := n2_; have GE264 := n3_; clear n0_ n1_ n2_ n3_; clear hb hbox hg; have hcz6_0 : w5.cell? ⟨gb264, 0, none⟩ = some (.int .i64 a0_0) := (blk_cell BK264.out 0).trans rfl; have hcz6_1 : w5.cell? ⟨gb264, 1, none⟩ = some (.slice A0_1 l0_1.length c0_1) := (blk_cell BK264.out 1).trans rfl; have hfz6_0 := blk_frozen BK264.out 0; have hfz6_1 := blk_frozen BK264.out 1) | (go_at_call 5; (with_reducible refine (cellarerlaw10_Few.calls k a0_0 _ _ l0_1 t265 t266 _ ?side1 ?side2 A2.out).mono ?_); (case side1 => repeat (first | exact (Kd.C_below HR0_1.out HB.out) | (with_reducible refine Kd.C_alloc ?_ _) | (with_reducible refine Kd.C_drewN ?_ _) | (with_reducible refine Kd.C_drew ?_))); (case side2 => exact HC0_1.out); rintro e w7 ⟨v267, rfl, ho0, hb⟩; have n0_ := Aside0.mk (Kd.R_lower ho0 (below_size (by repeat (first | (with_reducible first | exact HB.out | apply below_alloc | apply pw_below_drewN | apply below_drew1 | refine below_set ?_ GE264.out) | exact HB.out)))); have n1_ := Aside0.mk (blk_below (g := gb264) (o := .cells #[.int .i64 a0_0, .slice A0_1 l0_1.length c0_1] 24 (0, 0)) (by (with_reducible repeat (first | refine blk_drewN ?_ _ | refine blk_drew ?_ | refine blk_alloc ?_ _)); exact BK264.out) hb); have n2_ := Aside0.mk (below_step (by repeat (first | (with_reducible first | exact HB.out | apply below_alloc | apply pw_below_drewN | apply below_drew1 | refine below_set ?_ GE264.out) | exact HB.out)) hb); clear BK264; clear HB; have HO268 := n0_; have BK264 := n1_; have HB := n2_; clear n0_ n1_ n2_; (try clear hb); (try clear hb2); (try clear hk); (try clear hi); (try clear ho0); have hcz8_0 : w7.cell? ⟨gb264, 0, none⟩ = some (.int .i64 a0_0) := (blk_cell BK264.out 0).trans rfl; have hcz8_1 : w7.cell? ⟨gb264, 1, none⟩ = some (.slice A0_1 l0_1.length c0_1) := (blk_cell BK264.out 1).trans rfl; have hfz8_0 := blk_frozen BK264.out 0; have hfz8_1 := blk_frozen BK264.out 1; obtain ⟨Ao9, co9, eo9⟩ := Kd.R_slice HO268.out; subst eo9) | (go_at_call 6; (with_reducible refine (items_Of.calls t265 _ _ t266 t269 t272 _ ?side1 ?side2 A3.out).mono ?_); (case side1 => refine (Kd.R_reads' (e := 35) (base := w.heap.size) (ok := fun k_ => True) (n := t266.length) (c := co9) ?_).2.2; exact (by (with_reducible repeat (first | apply Kd.R_alloc | apply Kd.R_drewN | apply Kd.R_drew)); exact (Kd.R_mono (Kd.R_far (p := ⟨gb264, 1, none⟩) (Kd.R_far (p := ⟨gb264, 0, none⟩) (Kd.R_types HO268.out BK264.out (by decide)) (fun _ hk => hk.2) (.int .i64 t265)) (fun _ hk => hk.2) (.slice Ao9 t266.length co9)) (fun _ h_ => h_.1)))); (case side2 => exact (Kd.R_reads' HO268.out).2.1); rintro e w10 ⟨v270, rfl, ho0, hb⟩; have n0_ := Aside0.mk (Kd.R_below (by (with_reducible repeat (first | apply Kd.R_alloc | apply Kd.R_drewN | apply Kd.R_drew)); exact (Kd.R_mono (Kd.R_far (p := ⟨gb264, 1, none⟩) (Kd.R_far (p := ⟨gb264, 0, none⟩) (Kd.R_types HO268.out BK264.out (by decide)) (fun _ hk => hk.2) (.int .i64 t265)) (fun _ hk => hk.2) (.slice Ao9 t266.length co9)) (fun _ h_ => h_.1))) hb); have n1_ := Aside0.mk (Kd.R_lower ho0 (below_size (by repeat (first | (with_reducible first | exact HB.out | apply below_alloc | apply pw_below_drewN | apply below_drew1 | refine below_set ?_ GE264.out) | exact HB.out)))); have n2_ := Aside0.mk (blk_below (g := gb264) (o := .cells #[.int .i64 t265, .slice Ao9 t266.length co9] 24 (0, 0)) (by (with_reducible repeat (first | refine blk_drewN ?_ _ | refine blk_drew ?_ | refine blk_alloc ?_ _)); refine blk_put (cs := #[.int .i64 t265, .slice A0_1 l0_1.length c0_1]) ?_ 1 _ rfl; (with_reducible repeat (first | refine blk_drewN ?_ _ | refine blk_drew ?_ | refine blk_alloc ?_ _)); refine blk_put (cs := #[.int .i64 a0_0, .slice A0_1 l0_1.length c0_1]) ?_ 0 _ rfl; (with_reducible repeat (first | refine blk_drewN ?_ _ | refine blk_drew ?_ | refine blk_alloc ?_ _)); exact BK264.out) hb); have n3_ := Aside0.mk (below_step (by repeat (first | (with_reducible first | exact HB.out | apply below_alloc | apply pw_below_drewN | apply below_drew1 | refine below_set ?_ GE264.out) | exact HB.out)) hb); clear HO268; clear BK264; clear HB; have HO268 := n0_; have HO271 := n1_; have BK264 := n2_; have HB := n3_; clear n0_ n1_ n2_ n3_; (try clear hb); (try clear hb2); (try clear hk); (try clear hi); (try clear ho0); have hcz11_0 : w10.cell? ⟨gb264, 0, none⟩ = some (.int .i64 t265) := (blk_cell BK264.out 0).trans rfl; have hcz11_1 : w10.cell? ⟨gb264, 1, none⟩ = some (.slice Ao9 t266.length co9) := (blk_cell BK264.out 1).trans rfl; have hfz11_0 := blk_frozen BK264.out 0; have hfz11_1 := blk_frozen BK264.out 1)))
  go_loopg [5, 6] k (fun kq v5 v6 w' => ∃ (x5_1 : Int) (x6_1 : Int), v5 = .int .i64 x5_1 ∧ v6 = .int .i64 x6_1 ∧ Aside0 (cellarerlaw11_ItemsNames.l0 kq t269 x5_1 x6_1 t265 t266 = some r) ∧ Aside0 (kq ≤ k) ∧ Aside0 (Kd.R k43 43 w' w.heap.size (fun _ => True) v270 t269) ∧ Aside0 (Kd.R k35 35 w' w.heap.size (fun _ => True) (.slice Ao9 t266.length co9) t266) ∧ Aside0 (w'.heap[gb264]? = some (.cells #[.int .i64 t265, (.slice Ao9 t266.length co9)] 24 (0, 0))) ∧ Aside0 (Below w.heap.size w w'))
  case atStart => exact ⟨(wrap64 (1 + (t266.length : Int))), (0), (by first | rfl | (simp; done) | (simp [*]; done)), (by first | rfl | (simp; done) | (simp [*]; done)), H', ⟨Nat.le_refl _⟩, ⟨by (with_reducible repeat (first | apply Kd.R_alloc | apply Kd.R_drewN | apply Kd.R_drew)); exact HO271.out⟩, ⟨by (with_reducible repeat (first | apply Kd.R_alloc | apply Kd.R_drewN | apply Kd.R_drew)); exact HO268.out⟩, ⟨by (with_reducible repeat (first | refine blk_drewN ?_ _ | refine blk_drew ?_ | refine blk_alloc ?_ _)); exact BK264.out⟩, ⟨by repeat (first | (with_reducible first | exact HB.out | apply below_alloc | apply pw_below_drewN | apply below_drew1 | refine below_set ?_ GE264.out) | exact HB.out)⟩⟩
  case round =>
   clear H'
   try clear p2
   try clear c3
   try clear c4
   try clear c4b0
   try clear c4b1
   try clear p6
   try clear hcz11_0
   try clear hcz11_1
   try clear hcz6_0
   try clear hcz6_1
   try clear hcz8_0
   try clear hcz8_1
   try clear hfz11_0
   try clear hfz11_1
   try clear hfz6_0
   try clear hfz6_1
   try clear hfz8_0
   try clear hfz8_1
   obtain ⟨x5_1, x6_1, rfl, rfl, HA, HK1, HO_3, HO_265001, BK264, HB⟩ := hrel
   cases gk with
   | zero => exact absurd HA.out (by simp [cellarerlaw11_ItemsNames.l0])
   | succ k1 =>
    have H := HA.out
    clear HA
    simp only [cellarerlaw11_ItemsNames.l0] at H
    by_cases c12 : x6_1 < (t266.length : Int)
    ·rw [if_pos c12] at H
     have c12b0 : decide (x6_1 < (t266.length : Int)) = true := decide_eq_true c12
     clear c12
     have H' := Aside0.mk H
     clear H
     have hcz13_0 : wr.cell? ⟨gb264, 0, none⟩ = some (.int .i64 t265) := (blk_cell BK264.out 0).trans rfl
     have hcz13_1 : wr.cell? ⟨gb264, 1, none⟩ = some (.slice Ao9 t266.length co9) := (blk_cell BK264.out 1).trans rfl
     have hfz13_0 := blk_frozen BK264.out 0
     have hfz13_1 := blk_frozen BK264.out 1
     go_wp2
     repeat (go_quiet (fail); try go_wp2)
     go_loopg [5, 7] k1 (fun kq v5 v7 w' => ∃ (x5_2 : Int) (x7_2 : Int), v5 = .int .i64 x5_2 ∧ v7 = .int .i64 x7_2 ∧ Aside0 (cellarerlaw11_ItemsNames.l1 kq t269 x5_2 x6_1 x7_2 t265 t266 = some r) ∧ Aside0 (kq ≤ k1) ∧ Aside0 (Kd.R k43 43 w' w.heap.size (fun _ => True) v270 t269) ∧ Aside0 (Kd.R k35 35 w' w.heap.size (fun _ => True) (.slice Ao9 t266.length co9) t266) ∧ Aside0 (w'.heap[gb264]? = some (.cells #[.int .i64 t265, (.slice Ao9 t266.length co9)] 24 (0, 0))) ∧ Aside0 (Below w.heap.size w w'))
     case atStart => exact ⟨(x5_1), (0), (by first | rfl | (simp; done) | (simp [*]; done)), (by first | rfl | (simp; done) | (simp [*]; done)), H', ⟨Nat.le_refl _⟩, ⟨by (with_reducible repeat (first | apply Kd.R_alloc | apply Kd.R_drewN | apply Kd.R_drew)); exact HO_3.out⟩, ⟨by (with_reducible repeat (first | apply Kd.R_alloc | apply Kd.R_drewN | apply Kd.R_drew)); exact HO_265001.out⟩, ⟨by (with_reducible repeat (first | refine blk_drewN ?_ _ | refine blk_drew ?_ | refine blk_alloc ?_ _)); exact BK264.out⟩, ⟨by repeat (first | (with_reducible first | exact HB.out | apply below_alloc | apply pw_below_drewN | apply below_drew1 | refine below_set ?_ GE264.out) | exact HB.out)⟩⟩
     case round =>
      clear H'
      try clear c1
      try clear p2
      try clear c3
      try clear c4
      try clear c4b0
      try clear c4b1
      try clear p6
      try clear c12
      try clear c12b0
      try clear hcz11_0
      try clear hcz11_1
      try clear hcz13_0
      try clear hcz13_1
      try clear hcz6_0
      try clear hcz6_1
      try clear hcz8_0
      try clear hcz8_1
      try clear hfz11_0
      try clear hfz11_1
      try clear hfz13_0
      try clear hfz13_1
      try clear hfz6_0
      try clear hfz6_1
      try clear hfz8_0
      try clear hfz8_1
      try clear p2
      try clear p6
      obtain ⟨x5_2, x7_2, rfl, rfl, HA, HK2, HO_3, HO_265001, BK264, HB⟩ := hrel
      cases gk with
      | zero => exact absurd HA.out (by simp [cellarerlaw11_ItemsNames.l1])
      | succ k2 =>
       have H := HA.out
       clear HA
       simp only [cellarerlaw11_ItemsNames.l1] at H
       by_cases c14 : 0 ≤ x6_1
       ·rw [if_pos c14] at H
        have c14b0 : decide (0 ≤ x6_1) = true := decide_eq_true c14
        clear c14
        by_cases c15 : x6_1 < (t266.length : Int)
        ·rw [if_pos c15] at H
         have c15b0 : decide (x6_1 < (t266.length : Int)) = true := decide_eq_true c15
         clear c15
         by_cases c16 : x7_2 < (((rd_T35 t266 x6_1).f2).length : Int)
         ·rw [if_pos c16] at H
          have c16b0 : decide (x7_2 < (((rd_T35 t266 x6_1).f2).length : Int)) = true := decide_eq_true c16
          clear c16
          by_cases c17 : 0 ≤ x7_2
          ·rw [if_pos c17] at H
           have c17b0 : decide (0 ≤ x7_2) = true := decide_eq_true c17
           clear c17
           have H' := Aside0.mk H
           clear H
           have hcz18_0 : wr.cell? ⟨gb264, 0, none⟩ = some (.int .i64 t265) := (blk_cell BK264.out 0).trans rfl
           have hcz18_1 : wr.cell? ⟨gb264, 1, none⟩ = some (.slice Ao9 t266.length co9) := (blk_cell BK264.out 1).trans rfl
           have hfz18_0 := blk_frozen BK264.out 0
           have hfz18_1 := blk_frozen BK264.out 1
           have p274 : 0 ≤ (x6_1 : Int) := of_decide_eq_true (by first | (with_reducible assumption) | assumption)
           have q274 : x6_1 < (t266.length : Int) := of_decide_eq_true (by first | (with_reducible assumption) | assumption)
           obtain ⟨ad274, A274_2, c274_2, A274_3, c274_3, e274, hx274_0, hx274_1, hx274_2, hx274_3, hx274_4, hl274_2, hi274_2, hl274_3, hi274_3⟩ := at_T35 (Kd.R_reads' HO_265001.out).2.2 x6_1 p274 q274
           cases e274
           obtain ⟨ce274, hce274, hMe274, hcc274⟩ := Kd.R_get HO_265001.out z35 x6_1 p274 (by first | exact q274 | exact of_decide_eq_true (by first | (with_reducible assumption) | assumption) | (have e_ := (Kd.R_reads' HO_265001.out).1; omega))
           obtain ⟨ve274_2, ve274_3, rfl, ge274_2, ge274_3⟩ := k35_openM hMe274
           have hv274_2 := hcc274 2 _ rfl
           rw [add_field _ _ 2 (by omega)] at hv274_2
           replace hv274_2 := Option.some.inj (hv274_2.symm.trans hx274_2)
           rw [hv274_2] at ge274_2
           have HL274_2 := Aside0.mk (show Kd.R k38 38 _ _ _ _ ((rd_T35 t266 x6_1).f2) from ge274_2)
           clear hv274_2 ge274_2
           have hv274_3 := hcc274 3 _ rfl
           rw [add_field _ _ 3 (by omega)] at hv274_3
           replace hv274_3 := Option.some.inj (hv274_3.symm.trans hx274_3)
           rw [hv274_3] at ge274_3
           have HL274_3 := Aside0.mk (show Kd.R k41 41 _ _ _ _ ((rd_T35 t266 x6_1).f3) from ge274_3)
           clear hv274_3 ge274_3
           clear hcc274 hce274
           have HR274_2 := Aside0.mk hi274_2
           have HC274_2 := Aside0.mk hl274_2
           clear hi274_2 hl274_2
           have HR274_3 := Aside0.mk hi274_3
           have HC274_3 := Aside0.mk hl274_3
           clear hi274_3 hl274_3
           replace p274 := eq_true p274
           replace q274 := eq_true q274
           have p275 : 0 ≤ (x6_1 : Int) := of_decide_eq_true (by first | (with_reducible assumption) | assumption)
           have q275 : x6_1 < (t266.length : Int) := of_decide_eq_true (by first | (with_reducible assumption) | assumption)
           obtain ⟨ad275, A275_2, c275_2, A275_3, c275_3, e275, hx275_0, hx275_1, hx275_2, hx275_3, hx275_4, hl275_2, hi275_2, hl275_3, hi275_3⟩ := at_T35 (Kd.R_reads' HO_265001.out).2.2 x6_1 p275 q275
           obtain rfl : ad274 = ad275 := (by injection e275)
           obtain ⟨ce275, hce275, hMe275, hcc275⟩ := Kd.R_get HO_265001.out z35 x6_1 p275 (by first | exact q275 | exact of_decide_eq_true (by first | (with_reducible assumption) | assumption) | (have e_ := (Kd.R_reads' HO_265001.out).1; omega))
           obtain ⟨ve275_2, ve275_3, rfl, ge275_2, ge275_3⟩ := k35_openM hMe275
           have hv275_2 := hcc275 2 _ rfl
           rw [add_field _ _ 2 (by omega)] at hv275_2
           replace hv275_2 := Option.some.inj (hv275_2.symm.trans hx275_2)
           rw [hv275_2] at ge275_2
           have HL275_2 := Aside0.mk (show Kd.R k38 38 _ _ _ _ ((rd_T35 t266 x6_1).f2) from ge275_2)
           clear hv275_2 ge275_2
           have hv275_3 := hcc275 3 _ rfl
           rw [add_field _ _ 3 (by omega)] at hv275_3
           replace hv275_3 := Option.some.inj (hv275_3.symm.trans hx275_3)
           rw [hv275_3] at ge275_3
           have HL275_3 := Aside0.mk (show Kd.R k41 41 _ _ _ _ ((rd_T35 t266 x6_1).f3) from ge275_3)
           clear hv275_3 ge275_3
           clear hcc275 hce275
           have HR275_2 := Aside0.mk hi275_2
           have HC275_2 := Aside0.mk hl275_2
           clear hi275_2 hl275_2
           have HR275_3 := Aside0.mk hi275_3
           have HC275_3 := Aside0.mk hl275_3
           clear hi275_3 hl275_3
           replace p275 := eq_true p275
           replace q275 := eq_true q275
           have ea_ := Option.some.inj (hx274_2.symm.trans hx275_2)
           injection ea_ with ea_ en_ ec_
           subst ea_
           subst ec_
           clear en_
           have ea_ := Option.some.inj (hx274_3.symm.trans hx275_3)
           injection ea_ with ea_ en_ ec_
           subst ea_
           subst ec_
           clear en_
           have p276 : 0 ≤ (x7_2 : Int) := of_decide_eq_true (by first | (with_reducible assumption) | assumption)
           have q276 : x7_2 < (((rd_T35 t266 x6_1).f2).length : Int) := of_decide_eq_true (by first | (with_reducible assumption) | assumption)
           obtain ⟨ad276, A276_1, c276_1, e276, hx276_0, hx276_1, hl276_1, hi276_1⟩ := at_T38 (by repeat (first | (with_reducible exact HR275_2.out) | (with_reducible refine Kd.C_alloc ?_ _) | (with_reducible refine Kd.C_drewN ?_ _) | (with_reducible refine Kd.C_drew ?_) | exact HR275_2.out)) x7_2 p276 q276
           cases e276
           obtain ⟨ce276, hce276, hMe276, hcc276⟩ := Kd.R_get HL275_2.out z38 x7_2 p276 (by first | exact q276 | exact of_decide_eq_true (by first | (with_reducible assumption) | assumption) | (have e_ := (Kd.R_reads' HL275_2.out).1; omega))
           obtain ⟨ve276_1, rfl, ge276_1⟩ := k38_openM hMe276
           have hv276_1 := hcc276 1 _ rfl
           rw [add_field _ _ 1 (by omega)] at hv276_1
           replace hv276_1 := Option.some.inj (hv276_1.symm.trans hx276_1)
           rw [hv276_1] at ge276_1
           have HL276_1 := Aside0.mk (show Kd.R k80 80 _ _ _ _ ((rd_T38 ((rd_T35 t266 x6_1).f2) x7_2).f1) from ge276_1)
           clear hv276_1 ge276_1
           clear hcc276 hce276
           have HR276_1 := Aside0.mk hi276_1
           have HC276_1 := Aside0.mk hl276_1
           clear hi276_1 hl276_1
           replace p276 := eq_true p276
           replace q276 := eq_true q276
           go_wp2
           repeat (go_quiet (fail); try go_wp2)
           go_roundg k2
           case measure => have := HK1.out; have := HK2.out; omega
           case rel => exact ⟨(wrap64 (x5_2 + (((rd_T38 ((rd_T35 t266 x6_1).f2) x7_2).f1).length : Int))), (wrap64 (x7_2 + 1)), (by first | rfl | (simp; done) | (simp [*]; done)), (by first | rfl | (simp; done) | (simp [*]; done)), H', ⟨by have := HK1.out; have := HK2.out; omega⟩, ⟨by (with_reducible repeat (first | apply Kd.R_alloc | apply Kd.R_drewN | apply Kd.R_drew)); exact HO_3.out⟩, ⟨by (with_reducible repeat (first | apply Kd.R_alloc | apply Kd.R_drewN | apply Kd.R_drew)); exact HO_265001.out⟩, ⟨by (with_reducible repeat (first | refine blk_drewN ?_ _ | refine blk_drew ?_ | refine blk_alloc ?_ _)); exact BK264.out⟩, ⟨by repeat (first | (with_reducible first | exact HB.out | apply below_alloc | apply pw_below_drewN | apply below_drew1 | refine below_set ?_ GE264.out) | exact HB.out)⟩⟩
          ·rw [if_neg c17] at H
           exact absurd H (by simp)
         ·rw [if_neg c16] at H
          have c16b0 : decide (x7_2 < (((rd_T35 t266 x6_1).f2).length : Int)) = false := decide_eq_false c16
          clear c16
          have H' := Aside0.mk H
          clear H
          have hcz19_0 : wr.cell? ⟨gb264, 0, none⟩ = some (.int .i64 t265) := (blk_cell BK264.out 0).trans rfl
          have hcz19_1 : wr.cell? ⟨gb264, 1, none⟩ = some (.slice Ao9 t266.length co9) := (blk_cell BK264.out 1).trans rfl
          have hfz19_0 := blk_frozen BK264.out 0
          have hfz19_1 := blk_frozen BK264.out 1
          have p274 : 0 ≤ (x6_1 : Int) := of_decide_eq_true (by first | (with_reducible assumption) | assumption)
          have q274 : x6_1 < (t266.length : Int) := of_decide_eq_true (by first | (with_reducible assumption) | assumption)
          obtain ⟨ad274, A274_2, c274_2, A274_3, c274_3, e274, hx274_0, hx274_1, hx274_2, hx274_3, hx274_4, hl274_2, hi274_2, hl274_3, hi274_3⟩ := at_T35 (Kd.R_reads' HO_265001.out).2.2 x6_1 p274 q274
          cases e274
          obtain ⟨ce274, hce274, hMe274, hcc274⟩ := Kd.R_get HO_265001.out z35 x6_1 p274 (by first | exact q274 | exact of_decide_eq_true (by first | (with_reducible assumption) | assumption) | (have e_ := (Kd.R_reads' HO_265001.out).1; omega))
          obtain ⟨ve274_2, ve274_3, rfl, ge274_2, ge274_3⟩ := k35_openM hMe274
          have hv274_2 := hcc274 2 _ rfl
          rw [add_field _ _ 2 (by omega)] at hv274_2
          replace hv274_2 := Option.some.inj (hv274_2.symm.trans hx274_2)
          rw [hv274_2] at ge274_2
          have HL274_2 := Aside0.mk (show Kd.R k38 38 _ _ _ _ ((rd_T35 t266 x6_1).f2) from ge274_2)
          clear hv274_2 ge274_2
          have hv274_3 := hcc274 3 _ rfl
          rw [add_field _ _ 3 (by omega)] at hv274_3
          replace hv274_3 := Option.some.inj (hv274_3.symm.trans hx274_3)
          rw [hv274_3] at ge274_3
          have HL274_3 := Aside0.mk (show Kd.R k41 41 _ _ _ _ ((rd_T35 t266 x6_1).f3) from ge274_3)
          clear hv274_3 ge274_3
          clear hcc274 hce274
          have HR274_2 := Aside0.mk hi274_2
          have HC274_2 := Aside0.mk hl274_2
          clear hi274_2 hl274_2
          have HR274_3 := Aside0.mk hi274_3
          have HC274_3 := Aside0.mk hl274_3
          clear hi274_3 hl274_3
          replace p274 := eq_true p274
          replace q274 := eq_true q274
          go_wp2
          repeat (go_quiet (fail); try go_wp2)
          go_loopg [5, 8] k2 (fun kq v5 v8 w' => ∃ (x5_3 : Int) (x8_3 : Int), v5 = .int .i64 x5_3 ∧ v8 = .int .i64 x8_3 ∧ Aside0 (cellarerlaw11_ItemsNames.l2 kq t269 x5_3 x6_1 x8_3 t265 t266 = some r) ∧ Aside0 (kq ≤ k2) ∧ Aside0 (Kd.R k43 43 w' w.heap.size (fun _ => True) v270 t269) ∧ Aside0 (Kd.R k35 35 w' w.heap.size (fun _ => True) (.slice (some ad274) t266.length co9) t266) ∧ Aside0 (w'.heap[gb264]? = some (.cells #[.int .i64 t265, (.slice (some ad274) t266.length co9)] 24 (0, 0))) ∧ Aside0 (Kd.C k38 w' A274_2 ((rd_T35 t266 x6_1).f2).length ((rd_T35 t266 x6_1).f2)) ∧ Aside0 (Kd.C k41 w' A274_3 ((rd_T35 t266 x6_1).f3).length ((rd_T35 t266 x6_1).f3)) ∧ Aside0 (Below w.heap.size w w'))
          case atStart => exact ⟨(x5_2), (0), (by first | rfl | (simp; done) | (simp [*]; done)), (by first | rfl | (simp; done) | (simp [*]; done)), H', ⟨Nat.le_refl _⟩, ⟨by (with_reducible repeat (first | apply Kd.R_alloc | apply Kd.R_drewN | apply Kd.R_drew)); exact HO_3.out⟩, ⟨by (with_reducible repeat (first | apply Kd.R_alloc | apply Kd.R_drewN | apply Kd.R_drew)); exact HO_265001.out⟩, ⟨by (with_reducible repeat (first | refine blk_drewN ?_ _ | refine blk_drew ?_ | refine blk_alloc ?_ _)); exact BK264.out⟩, ⟨by repeat (first | (with_reducible exact HR274_2.out) | (with_reducible refine Kd.C_alloc ?_ _) | (with_reducible refine Kd.C_drewN ?_ _) | (with_reducible refine Kd.C_drew ?_) | exact HR274_2.out)⟩, ⟨by repeat (first | (with_reducible exact HR274_3.out) | (with_reducible refine Kd.C_alloc ?_ _) | (with_reducible refine Kd.C_drewN ?_ _) | (with_reducible refine Kd.C_drew ?_) | exact HR274_3.out)⟩, ⟨by repeat (first | (with_reducible first | exact HB.out | apply below_alloc | apply pw_below_drewN | apply below_drew1 | refine below_set ?_ GE264.out) | exact HB.out)⟩⟩
          case round =>
           clear H'
           try clear c1
           try clear c2
           try clear p2
           try clear q2
           try clear hx2
           try clear c3
           try clear c4
           try clear c4b0
           try clear c4b1
           try clear p6
           try clear c12
           try clear c12b0
           try clear c14
           try clear c14b0
           try clear c15
           try clear c15b0
           try clear c16
           try clear c16b0
           try clear c17
           try clear c17b0
           try clear hcz11_0
           try clear hcz11_1
           try clear hcz13_0
           try clear hcz13_1
           try clear hcz18_0
           try clear hcz18_1
           try clear hcz19_0
           try clear hcz19_1
           try clear hcz6_0
           try clear hcz6_1
           try clear hcz8_0
           try clear hcz8_1
           try clear hfz11_0
           try clear hfz11_1
           try clear hfz13_0
           try clear hfz13_1
           try clear hfz18_0
           try clear hfz18_1
           try clear hfz19_0
           try clear hfz19_1
           try clear hfz6_0
           try clear hfz6_1
           try clear hfz8_0
           try clear hfz8_1
           try clear hx274_0
           try clear hx274_1
           try clear hx274_2
           try clear hx274_3
           try clear hx274_4
           try clear hx275_0
           try clear hx275_1
           try clear hx275_2
           try clear hx275_3
           try clear hx275_4
           try clear hx276_0
           try clear hx276_1
           try clear p2
           try clear p274
           try clear p275
           try clear p276
           try clear p6
           try clear q274
           try clear q275
           try clear q276
           obtain ⟨x5_3, x8_3, rfl, rfl, HA, HK3, HO_3, HO_265001, BK264, HR274_2, HR274_3, HB⟩ := hrel
           cases gk with
           | zero => exact absurd HA.out (by simp [cellarerlaw11_ItemsNames.l2])
           | succ k3 =>
            have H := HA.out
            clear HA
            simp only [cellarerlaw11_ItemsNames.l2] at H
            by_cases c20 : 0 ≤ x6_1
            ·rw [if_pos c20] at H
             have c20b0 : decide (0 ≤ x6_1) = true := decide_eq_true c20
             clear c20
             by_cases c21 : x6_1 < (t266.length : Int)
             ·rw [if_pos c21] at H
              have c21b0 : decide (x6_1 < (t266.length : Int)) = true := decide_eq_true c21
              clear c21
              by_cases c22 : x8_3 < (((rd_T35 t266 x6_1).f3).length : Int)
              ·rw [if_pos c22] at H
               have c22b0 : decide (x8_3 < (((rd_T35 t266 x6_1).f3).length : Int)) = true := decide_eq_true c22
               clear c22
               by_cases c23 : 0 ≤ x8_3
               ·rw [if_pos c23] at H
                have c23b0 : decide (0 ≤ x8_3) = true := decide_eq_true c23
                clear c23
                have H' := Aside0.mk H
                clear H
                have hcz24_0 : wr.cell? ⟨gb264, 0, none⟩ = some (.int .i64 t265) := (blk_cell BK264.out 0).trans rfl
                have hcz24_1 : wr.cell? ⟨gb264, 1, none⟩ = some (.slice (some ad274) t266.length co9) := (blk_cell BK264.out 1).trans rfl
                have hfz24_0 := blk_frozen BK264.out 0
                have hfz24_1 := blk_frozen BK264.out 1
                have p277 : 0 ≤ (x6_1 : Int) := of_decide_eq_true (by first | (with_reducible assumption) | assumption)
                have q277 : x6_1 < (t266.length : Int) := of_decide_eq_true (by first | (with_reducible assumption) | assumption)
                obtain ⟨ad277, A277_2, c277_2, A277_3, c277_3, e277, hx277_0, hx277_1, hx277_2, hx277_3, hx277_4, hl277_2, hi277_2, hl277_3, hi277_3⟩ := at_T35 (Kd.R_reads' HO_265001.out).2.2 x6_1 p277 q277
                obtain rfl : ad274 = ad277 := (by injection e277)
                obtain ⟨ce277, hce277, hMe277, hcc277⟩ := Kd.R_get HO_265001.out z35 x6_1 p277 (by first | exact q277 | exact of_decide_eq_true (by first | (with_reducible assumption) | assumption) | (have e_ := (Kd.R_reads' HO_265001.out).1; omega))
                obtain ⟨ve277_2, ve277_3, rfl, ge277_2, ge277_3⟩ := k35_openM hMe277
                have hv277_2 := hcc277 2 _ rfl
                rw [add_field _ _ 2 (by omega)] at hv277_2
                replace hv277_2 := Option.some.inj (hv277_2.symm.trans hx277_2)
                rw [hv277_2] at ge277_2
                have HL277_2 := Aside0.mk (show Kd.R k38 38 _ _ _ _ ((rd_T35 t266 x6_1).f2) from ge277_2)
                clear hv277_2 ge277_2
                have hv277_3 := hcc277 3 _ rfl
                rw [add_field _ _ 3 (by omega)] at hv277_3
                replace hv277_3 := Option.some.inj (hv277_3.symm.trans hx277_3)
                rw [hv277_3] at ge277_3
                have HL277_3 := Aside0.mk (show Kd.R k41 41 _ _ _ _ ((rd_T35 t266 x6_1).f3) from ge277_3)
                clear hv277_3 ge277_3
                clear hcc277 hce277
                have HR277_2 := Aside0.mk hi277_2
                have HC277_2 := Aside0.mk hl277_2
                clear hi277_2 hl277_2
                have HR277_3 := Aside0.mk hi277_3
                have HC277_3 := Aside0.mk hl277_3
                clear hi277_3 hl277_3
                replace p277 := eq_true p277
                replace q277 := eq_true q277
                have p278 : 0 ≤ (x6_1 : Int) := of_decide_eq_true (by first | (with_reducible assumption) | assumption)
                have q278 : x6_1 < (t266.length : Int) := of_decide_eq_true (by first | (with_reducible assumption) | assumption)
                obtain ⟨ad278, A278_2, c278_2, A278_3, c278_3, e278, hx278_0, hx278_1, hx278_2, hx278_3, hx278_4, hl278_2, hi278_2, hl278_3, hi278_3⟩ := at_T35 (Kd.R_reads' HO_265001.out).2.2 x6_1 p278 q278
                obtain rfl : ad274 = ad278 := (by injection e278)
                obtain ⟨ce278, hce278, hMe278, hcc278⟩ := Kd.R_get HO_265001.out z35 x6_1 p278 (by first | exact q278 | exact of_decide_eq_true (by first | (with_reducible assumption) | assumption) | (have e_ := (Kd.R_reads' HO_265001.out).1; omega))
                obtain ⟨ve278_2, ve278_3, rfl, ge278_2, ge278_3⟩ := k35_openM hMe278
                have hv278_2 := hcc278 2 _ rfl
                rw [add_field _ _ 2 (by omega)] at hv278_2
                replace hv278_2 := Option.some.inj (hv278_2.symm.trans hx278_2)
                rw [hv278_2] at ge278_2
                have HL278_2 := Aside0.mk (show Kd.R k38 38 _ _ _ _ ((rd_T35 t266 x6_1).f2) from ge278_2)
                clear hv278_2 ge278_2
                have hv278_3 := hcc278 3 _ rfl
                rw [add_field _ _ 3 (by omega)] at hv278_3
                replace hv278_3 := Option.some.inj (hv278_3.symm.trans hx278_3)
                rw [hv278_3] at ge278_3
                have HL278_3 := Aside0.mk (show Kd.R k41 41 _ _ _ _ ((rd_T35 t266 x6_1).f3) from ge278_3)
                clear hv278_3 ge278_3
                clear hcc278 hce278
                have HR278_2 := Aside0.mk hi278_2
                have HC278_2 := Aside0.mk hl278_2
                clear hi278_2 hl278_2
                have HR278_3 := Aside0.mk hi278_3
                have HC278_3 := Aside0.mk hl278_3
                clear hi278_3 hl278_3
                replace p278 := eq_true p278
                replace q278 := eq_true q278
                have ea_ := Option.some.inj (hx277_2.symm.trans hx278_2)
                injection ea_ with ea_ en_ ec_
                subst ea_
                subst ec_
                clear en_
                have ea_ := Option.some.inj (hx277_3.symm.trans hx278_3)
                injection ea_ with ea_ en_ ec_
                subst ea_
                subst ec_
                clear en_
                have p279 : 0 ≤ (x8_3 : Int) := of_decide_eq_true (by first | (with_reducible assumption) | assumption)
                have q279 : x8_3 < (((rd_T35 t266 x6_1).f3).length : Int) := of_decide_eq_true (by first | (with_reducible assumption) | assumption)
                obtain ⟨ad279, A279_2, c279_2, e279, hx279_0, hx279_1, hx279_2, hl279_2, hi279_2⟩ := at_T41 (by repeat (first | (with_reducible exact HR278_3.out) | (with_reducible refine Kd.C_alloc ?_ _) | (with_reducible refine Kd.C_drewN ?_ _) | (with_reducible refine Kd.C_drew ?_) | exact HR278_3.out)) x8_3 p279 q279
                cases e279
                obtain ⟨ce279, hce279, hMe279, hcc279⟩ := Kd.R_get HL278_3.out z41 x8_3 p279 (by first | exact q279 | exact of_decide_eq_true (by first | (with_reducible assumption) | assumption) | (have e_ := (Kd.R_reads' HL278_3.out).1; omega))
                obtain ⟨ve279_2, rfl, ge279_2⟩ := k41_openM hMe279
                have hv279_2 := hcc279 2 _ rfl
                rw [add_field _ _ 2 (by omega)] at hv279_2
                replace hv279_2 := Option.some.inj (hv279_2.symm.trans hx279_2)
                rw [hv279_2] at ge279_2
                have HL279_2 := Aside0.mk (show Kd.R k82 82 _ _ _ _ ((rd_T41 ((rd_T35 t266 x6_1).f3) x8_3).f2) from ge279_2)
                clear hv279_2 ge279_2
                clear hcc279 hce279
                have HR279_2 := Aside0.mk hi279_2
                have HC279_2 := Aside0.mk hl279_2
                clear hi279_2 hl279_2
                replace p279 := eq_true p279
                replace q279 := eq_true q279
                go_wp2
                repeat (go_quiet (fail); try go_wp2)
                go_roundg k3
                case measure => have := HK1.out; have := HK2.out; have := HK3.out; omega
                case rel => exact ⟨(wrap64 (x5_3 + (wrap64 (1 + (((rd_T41 ((rd_T35 t266 x6_1).f3) x8_3).f2).length : Int))))), (wrap64 (x8_3 + 1)), (by first | rfl | (simp; done) | (simp [*]; done)), (by first | rfl | (simp; done) | (simp [*]; done)), H', ⟨by have := HK1.out; have := HK2.out; have := HK3.out; omega⟩, ⟨by (with_reducible repeat (first | apply Kd.R_alloc | apply Kd.R_drewN | apply Kd.R_drew)); exact HO_3.out⟩, ⟨by (with_reducible repeat (first | apply Kd.R_alloc | apply Kd.R_drewN | apply Kd.R_drew)); exact HO_265001.out⟩, ⟨by (with_reducible repeat (first | refine blk_drewN ?_ _ | refine blk_drew ?_ | refine blk_alloc ?_ _)); exact BK264.out⟩, ⟨by repeat (first | (with_reducible exact HR274_2.out) | (with_reducible refine Kd.C_alloc ?_ _) | (with_reducible refine Kd.C_drewN ?_ _) | (with_reducible refine Kd.C_drew ?_) | exact HR274_2.out)⟩, ⟨by repeat (first | (with_reducible exact HR274_3.out) | (with_reducible refine Kd.C_alloc ?_ _) | (with_reducible refine Kd.C_drewN ?_ _) | (with_reducible refine Kd.C_drew ?_) | exact HR274_3.out)⟩, ⟨by repeat (first | (with_reducible first | exact HB.out | apply below_alloc | apply pw_below_drewN | apply below_drew1 | refine below_set ?_ GE264.out) | exact HB.out)⟩⟩
               ·rw [if_neg c23] at H
                exact absurd H (by simp)
              ·rw [if_neg c22] at H
               have c22b0 : decide (x8_3 < (((rd_T35 t266 x6_1).f3).length : Int)) = false := decide_eq_false c22
               clear c22
               have H' := Aside0.mk H
               clear H
               have hcz25_0 : wr.cell? ⟨gb264, 0, none⟩ = some (.int .i64 t265) := (blk_cell BK264.out 0).trans rfl
               have hcz25_1 : wr.cell? ⟨gb264, 1, none⟩ = some (.slice (some ad274) t266.length co9) := (blk_cell BK264.out 1).trans rfl
               have hfz25_0 := blk_frozen BK264.out 0
               have hfz25_1 := blk_frozen BK264.out 1
               have p277 : 0 ≤ (x6_1 : Int) := of_decide_eq_true (by first | (with_reducible assumption) | assumption)
               have q277 : x6_1 < (t266.length : Int) := of_decide_eq_true (by first | (with_reducible assumption) | assumption)
               obtain ⟨ad277, A277_2, c277_2, A277_3, c277_3, e277, hx277_0, hx277_1, hx277_2, hx277_3, hx277_4, hl277_2, hi277_2, hl277_3, hi277_3⟩ := at_T35 (Kd.R_reads' HO_265001.out).2.2 x6_1 p277 q277
               obtain rfl : ad274 = ad277 := (by injection e277)
               obtain ⟨ce277, hce277, hMe277, hcc277⟩ := Kd.R_get HO_265001.out z35 x6_1 p277 (by first | exact q277 | exact of_decide_eq_true (by first | (with_reducible assumption) | assumption) | (have e_ := (Kd.R_reads' HO_265001.out).1; omega))
               obtain ⟨ve277_2, ve277_3, rfl, ge277_2, ge277_3⟩ := k35_openM hMe277
               have hv277_2 := hcc277 2 _ rfl
               rw [add_field _ _ 2 (by omega)] at hv277_2
               replace hv277_2 := Option.some.inj (hv277_2.symm.trans hx277_2)
               rw [hv277_2] at ge277_2
               have HL277_2 := Aside0.mk (show Kd.R k38 38 _ _ _ _ ((rd_T35 t266 x6_1).f2) from ge277_2)
               clear hv277_2 ge277_2
               have hv277_3 := hcc277 3 _ rfl
               rw [add_field _ _ 3 (by omega)] at hv277_3
               replace hv277_3 := Option.some.inj (hv277_3.symm.trans hx277_3)
               rw [hv277_3] at ge277_3
               have HL277_3 := Aside0.mk (show Kd.R k41 41 _ _ _ _ ((rd_T35 t266 x6_1).f3) from ge277_3)
               clear hv277_3 ge277_3
               clear hcc277 hce277
               have HR277_2 := Aside0.mk hi277_2
               have HC277_2 := Aside0.mk hl277_2
               clear hi277_2 hl277_2
               have HR277_3 := Aside0.mk hi277_3
               have HC277_3 := Aside0.mk hl277_3
               clear hi277_3 hl277_3
               replace p277 := eq_true p277
               replace q277 := eq_true q277
               go_wp2
               repeat (go_quiet (fail); try go_wp2)
               go_roundg k3
               case measure => have := HK1.out; have := HK2.out; have := HK3.out; omega
               case rel => exact ⟨(x5_3), (wrap64 (x6_1 + 1)), (by first | rfl | (simp; done) | (simp [*]; done)), (by first | rfl | (simp; done) | (simp [*]; done)), H', ⟨by have := HK1.out; have := HK2.out; have := HK3.out; omega⟩, ⟨by (with_reducible repeat (first | apply Kd.R_alloc | apply Kd.R_drewN | apply Kd.R_drew)); exact HO_3.out⟩, ⟨by (with_reducible repeat (first | apply Kd.R_alloc | apply Kd.R_drewN | apply Kd.R_drew)); exact HO_265001.out⟩, ⟨by (with_reducible repeat (first | refine blk_drewN ?_ _ | refine blk_drew ?_ | refine blk_alloc ?_ _)); exact BK264.out⟩, ⟨by repeat (first | (with_reducible first | exact HB.out | apply below_alloc | apply pw_below_drewN | apply below_drew1 | refine below_set ?_ GE264.out) | exact HB.out)⟩⟩
             ·rw [if_neg c21] at H
              exact absurd H (by simp)
            ·rw [if_neg c20] at H
             exact absurd H (by simp)
        ·rw [if_neg c15] at H
         exact absurd H (by simp)
       ·rw [if_neg c14] at H
        exact absurd H (by simp)
    ·rw [if_neg c12] at H
     have c12b0 : decide (x6_1 < (t266.length : Int)) = false := decide_eq_false c12
     clear c12
     have H' := Aside0.mk H
     clear H
     have hcz26_0 : wr.cell? ⟨gb264, 0, none⟩ = some (.int .i64 t265) := (blk_cell BK264.out 0).trans rfl
     have hcz26_1 : wr.cell? ⟨gb264, 1, none⟩ = some (.slice Ao9 t266.length co9) := (blk_cell BK264.out 1).trans rfl
     have hfz26_0 := blk_frozen BK264.out 0
     have hfz26_1 := blk_frozen BK264.out 1
     go_wp2
     repeat (go_quiet (fail); try go_wp2)
     go_loopg [9] k1 (fun kq v9 w' => ∃ (x9_2 : Int), v9 = .int .i64 x9_2 ∧ Aside0 (cellarerlaw11_ItemsNames.l3 kq t269 x5_1 x9_2 = some r) ∧ Aside0 (kq ≤ k1) ∧ Aside0 (Kd.R k43 43 w' w.heap.size (fun _ => True) v270 t269) ∧ Aside0 (Kd.R k35 35 w' w.heap.size (fun _ => True) (.slice Ao9 t266.length co9) t266) ∧ Aside0 (w'.heap[gb264]? = some (.cells #[.int .i64 t265, (.slice Ao9 t266.length co9)] 24 (0, 0))) ∧ Aside0 (Below w.heap.size w w'))
     case atStart => exact ⟨(1), (by first | rfl | (simp; done) | (simp [*]; done)), H', ⟨Nat.le_refl _⟩, ⟨by (with_reducible repeat (first | apply Kd.R_alloc | apply Kd.R_drewN | apply Kd.R_drew)); exact HO_3.out⟩, ⟨by (with_reducible repeat (first | apply Kd.R_alloc | apply Kd.R_drewN | apply Kd.R_drew)); exact HO_265001.out⟩, ⟨by (with_reducible repeat (first | refine blk_drewN ?_ _ | refine blk_drew ?_ | refine blk_alloc ?_ _)); exact BK264.out⟩, ⟨by repeat (first | (with_reducible first | exact HB.out | apply below_alloc | apply pw_below_drewN | apply below_drew1 | refine below_set ?_ GE264.out) | exact HB.out)⟩⟩
     case round =>
      clear H'
      try clear c1
      try clear c2
      try clear p2
      try clear q2
      try clear hx2
      try clear c3
      try clear c4
      try clear c4b0
      try clear c4b1
      try clear p6
      try clear c12
      try clear c12b0
      try clear c14
      try clear c14b0
      try clear c15
      try clear c15b0
      try clear c16
      try clear c16b0
      try clear c17
      try clear c17b0
      try clear c20
      try clear c20b0
      try clear c21
      try clear c21b0
      try clear c22
      try clear c22b0
      try clear c23
      try clear c23b0
      try clear hcz11_0
      try clear hcz11_1
      try clear hcz13_0
      try clear hcz13_1
      try clear hcz18_0
      try clear hcz18_1
      try clear hcz19_0
      try clear hcz19_1
      try clear hcz24_0
      try clear hcz24_1
      try clear hcz25_0
      try clear hcz25_1
      try clear hcz26_0
      try clear hcz26_1
      try clear hcz6_0
      try clear hcz6_1
      try clear hcz8_0
      try clear hcz8_1
      try clear hfz11_0
      try clear hfz11_1
      try clear hfz13_0
      try clear hfz13_1
      try clear hfz18_0
      try clear hfz18_1
      try clear hfz19_0
      try clear hfz19_1
      try clear hfz24_0
      try clear hfz24_1
      try clear hfz25_0
      try clear hfz25_1
      try clear hfz26_0
      try clear hfz26_1
      try clear hfz6_0
      try clear hfz6_1
      try clear hfz8_0
      try clear hfz8_1
      try clear hx274_0
      try clear hx274_1
      try clear hx274_2
      try clear hx274_3
      try clear hx274_4
      try clear hx275_0
      try clear hx275_1
      try clear hx275_2
      try clear hx275_3
      try clear hx275_4
      try clear hx276_0
      try clear hx276_1
      try clear hx277_0
      try clear hx277_1
      try clear hx277_2
      try clear hx277_3
      try clear hx277_4
      try clear hx278_0
      try clear hx278_1
      try clear hx278_2
      try clear hx278_3
      try clear hx278_4
      try clear hx279_0
      try clear hx279_1
      try clear hx279_2
      try clear p2
      try clear p274
      try clear p275
      try clear p276
      try clear p277
      try clear p278
      try clear p279
      try clear p6
      try clear q2
      try clear q274
      try clear q275
      try clear q276
      try clear q277
      try clear q278
      try clear q279
      obtain ⟨x9_2, rfl, HA, HK2, HO_3, HO_265001, BK264, HB⟩ := hrel
      cases gk with
      | zero => exact absurd HA.out (by simp [cellarerlaw11_ItemsNames.l3])
      | succ k2 =>
       have H := HA.out
       clear HA
       simp only [cellarerlaw11_ItemsNames.l3] at H
       by_cases c27 : x9_2 < (t269.length : Int)
       ·rw [if_pos c27] at H
        have c27b0 : decide (x9_2 < (t269.length : Int)) = true := decide_eq_true c27
        clear c27
        obtain ⟨ji28, hji28⟩ : ∃ j_ : Int, (wrap64 (x9_2 - 1)) = j_ := ⟨_, rfl⟩
        replace H : (if 0 ≤ (ji28) then (if (ji28) < (t269.length : Int) then (if 0 ≤ x9_2 then (if ((Op.bytesLess (((rd_T43 t269 (ji28)).f0).toList) (((rd_T43 t269 x9_2).f0).toList)) = true) then (cellarerlaw11_ItemsNames.l3 k2 t269 x5_1 (wrap64 (x9_2 + 1))) else (some false)) else (none)) else (none)) else (none)) = some r := by first | (rw [hji28] at H; exact H) | (simp only [hji28] at H ⊢; exact H)
        have hji28w : (IntKind.i64.wrap (x9_2 - 1)) = ji28 := (i64_w _).trans hji28
        by_cases c29 : 0 ≤ (ji28)
        ·rw [if_pos c29] at H
         have c29b0 : decide (0 ≤ (ji28)) = true := decide_eq_true c29
         clear c29
         by_cases c30 : (ji28) < (t269.length : Int)
         ·rw [if_pos c30] at H
          have c30b0 : decide ((ji28) < (t269.length : Int)) = true := decide_eq_true c30
          clear c30
          by_cases c31 : 0 ≤ x9_2
          ·rw [if_pos c31] at H
           have c31b0 : decide (0 ≤ x9_2) = true := decide_eq_true c31
           clear c31
           by_cases c32 : ((Op.bytesLess (((rd_T43 t269 (ji28)).f0).toList) (((rd_T43 t269 x9_2).f0).toList)) = true)
           ·rw [if_pos c32] at H
            have c32b0 : (Op.bytesLess (((rd_T43 t269 (ji28)).f0).toList) (((rd_T43 t269 x9_2).f0).toList)) = true := c32
            clear c32
            have H' := Aside0.mk H
            clear H
            obtain ⟨Ao33, co33, eo33⟩ := Kd.R_slice HO_3.out
            subst eo33
            have p280 : 0 ≤ ((ji28) : Int) := of_decide_eq_true (by first | (with_reducible assumption) | assumption)
            have q280 : (ji28) < (t269.length : Int) := of_decide_eq_true (by first | (with_reducible assumption) | assumption)
            obtain ⟨ad280, e280, hx280_0, hx280_1⟩ := at_T43 (Kd.R_reads' HO_3.out).2.2 (ji28) p280 q280
            cases e280
            replace p280 := eq_true p280
            replace q280 := eq_true q280
            have p281 : 0 ≤ (x9_2 : Int) := of_decide_eq_true (by first | (with_reducible assumption) | assumption)
            have q281 : x9_2 < (t269.length : Int) := of_decide_eq_true (by first | (with_reducible assumption) | assumption)
            obtain ⟨ad281, e281, hx281_0, hx281_1⟩ := at_T43 (Kd.R_reads' HO_3.out).2.2 x9_2 p281 q281
            obtain rfl : ad280 = ad281 := (by injection e281)
            replace p281 := eq_true p281
            replace q281 := eq_true q281
            go_wp2
            repeat (go_quiet (fail); try go_wp2)
            go_roundg k2
            case measure => have := HK1.out; have := HK2.out; omega
            case rel => exact ⟨(wrap64 (x9_2 + 1)), (by first | rfl | (simp; done) | (simp [*]; done)), H', ⟨by have := HK1.out; have := HK2.out; omega⟩, ⟨by (with_reducible repeat (first | apply Kd.R_alloc | apply Kd.R_drewN | apply Kd.R_drew)); exact HO_3.out⟩, ⟨by (with_reducible repeat (first | apply Kd.R_alloc | apply Kd.R_drewN | apply Kd.R_drew)); exact HO_265001.out⟩, ⟨by (with_reducible repeat (first | refine blk_drewN ?_ _ | refine blk_drew ?_ | refine blk_alloc ?_ _)); exact BK264.out⟩, ⟨by repeat (first | (with_reducible first | exact HB.out | apply below_alloc | apply pw_below_drewN | apply below_drew1 | refine below_set ?_ GE264.out) | exact HB.out)⟩⟩
           ·rw [if_neg c32] at H
            have c32b0 : (Op.bytesLess (((rd_T43 t269 (ji28)).f0).toList) (((rd_T43 t269 x9_2).f0).toList)) = false := by simpa using c32
            clear c32
            obtain rfl := Option.some.inj H
            obtain ⟨Ao34, co34, eo34⟩ := Kd.R_slice HO_3.out
            subst eo34
            have p280 : 0 ≤ ((ji28) : Int) := of_decide_eq_true (by first | (with_reducible assumption) | assumption)
            have q280 : (ji28) < (t269.length : Int) := of_decide_eq_true (by first | (with_reducible assumption) | assumption)
            obtain ⟨ad280, e280, hx280_0, hx280_1⟩ := at_T43 (Kd.R_reads' HO_3.out).2.2 (ji28) p280 q280
            cases e280
            replace p280 := eq_true p280
            replace q280 := eq_true q280
            have p281 : 0 ≤ (x9_2 : Int) := of_decide_eq_true (by first | (with_reducible assumption) | assumption)
            have q281 : x9_2 < (t269.length : Int) := of_decide_eq_true (by first | (with_reducible assumption) | assumption)
            obtain ⟨ad281, e281, hx281_0, hx281_1⟩ := at_T43 (Kd.R_reads' HO_3.out).2.2 x9_2 p281 q281
            obtain rfl : ad280 = ad281 := (by injection e281)
            replace p281 := eq_true p281
            replace q281 := eq_true q281
            go_wp2
            repeat (go_quiet (fail); try go_wp2)
            go_ret
            exact ⟨by first | rfl | (simp [errW_none, errW_some] <;> rfl) | (simp only [← hji28]; first | rfl | (simp [errW_none, errW_some] <;> rfl)) | (simp [*, errW_none, errW_some] <;> rfl), by repeat (first | (with_reducible first | exact HB.out | apply below_alloc | apply pw_below_drewN | apply below_drew1 | refine below_set ?_ GE264.out) | exact HB.out)⟩
          ·rw [if_neg c31] at H
           exact absurd H (by simp)
         ·rw [if_neg c30] at H
          exact absurd H (by simp)
        ·rw [if_neg c29] at H
         exact absurd H (by simp)
       ·rw [if_neg c27] at H
        have c27b0 : decide (x9_2 < (t269.length : Int)) = false := decide_eq_false c27
        clear c27
        by_cases c35 : (t269.length : Int) = x5_1
        ·rw [if_pos c35] at H
         have c35b0 : ((t269.length : Int) == x5_1) = true := beq_iff_eq.mpr c35
         have c35b1 : ((t269.length : Int) != x5_1) = false := bne_eq_false_iff_eq.mpr c35
         clear c35
         replace H := Option.bind_eq_some_iff.mp H
         obtain ⟨t282, A360, H⟩ := H
         replace H : (some t282) = some r := H
         have A36 := Aside0.mk A360
         clear A360
         obtain rfl := Option.some.inj H
         obtain ⟨Ao37, co37, eo37⟩ := Kd.R_slice HO_3.out
         subst eo37
         go_wp2_with (first | (go_at_call 7; (with_reducible refine (cellarerlaw11_awake.calls  t282 _ A36.out).mono ?_); rintro e w38 ⟨rfl, hb⟩; have n0_ := Aside0.mk (Kd.R_below (by (with_reducible repeat (first | apply Kd.R_alloc | apply Kd.R_drewN | apply Kd.R_drew)); exact HO_3.out) hb); have n1_ := Aside0.mk (Kd.R_below (by (with_reducible repeat (first | apply Kd.R_alloc | apply Kd.R_drewN | apply Kd.R_drew)); exact HO_265001.out) hb); have n2_ := Aside0.mk (blk_below (g := gb264) (o := .cells #[.int .i64 t265, .slice Ao9 t266.length co9] 24 (0, 0)) (by (with_reducible repeat (first | refine blk_drewN ?_ _ | refine blk_drew ?_ | refine blk_alloc ?_ _)); exact BK264.out) hb); have n3_ := Aside0.mk (below_step (by repeat (first | (with_reducible first | exact HB.out | apply below_alloc | apply pw_below_drewN | apply below_drew1 | refine below_set ?_ GE264.out) | exact HB.out)) hb); clear HO_3; clear HO_265001; clear BK264; clear HB; have HO_3 := n0_; have HO_265001 := n1_; have BK264 := n2_; have HB := n3_; clear n0_ n1_ n2_ n3_; (try clear hb); (try clear hb2); (try clear hk); (try clear hi)))
         repeat (go_quiet (first | (go_at_call 7; (with_reducible refine (cellarerlaw11_awake.calls  t282 _ A36.out).mono ?_); rintro e w38 ⟨rfl, hb⟩; have n0_ := Aside0.mk (Kd.R_below (by (with_reducible repeat (first | apply Kd.R_alloc | apply Kd.R_drewN | apply Kd.R_drew)); exact HO_3.out) hb); have n1_ := Aside0.mk (Kd.R_below (by (with_reducible repeat (first | apply Kd.R_alloc | apply Kd.R_drewN | apply Kd.R_drew)); exact HO_265001.out) hb); have n2_ := Aside0.mk (blk_below (g := gb264) (o := .cells #[.int .i64 t265, .slice Ao9 t266.length co9] 24 (0, 0)) (by (with_reducible repeat (first | refine blk_drewN ?_ _ | refine blk_drew ?_ | refine blk_alloc ?_ _)); exact BK264.out) hb); have n3_ := Aside0.mk (below_step (by repeat (first | (with_reducible first | exact HB.out | apply below_alloc | apply pw_below_drewN | apply below_drew1 | refine below_set ?_ GE264.out) | exact HB.out)) hb); clear HO_3; clear HO_265001; clear BK264; clear HB; have HO_3 := n0_; have HO_265001 := n1_; have BK264 := n2_; have HB := n3_; clear n0_ n1_ n2_ n3_; (try clear hb); (try clear hb2); (try clear hk); (try clear hi))); try go_wp2_with (first | (go_at_call 7; (with_reducible refine (cellarerlaw11_awake.calls  t282 _ A36.out).mono ?_); rintro e w38 ⟨rfl, hb⟩; have n0_ := Aside0.mk (Kd.R_below (by (with_reducible repeat (first | apply Kd.R_alloc | apply Kd.R_drewN | apply Kd.R_drew)); exact HO_3.out) hb); have n1_ := Aside0.mk (Kd.R_below (by (with_reducible repeat (first | apply Kd.R_alloc | apply Kd.R_drewN | apply Kd.R_drew)); exact HO_265001.out) hb); have n2_ := Aside0.mk (blk_below (g := gb264) (o := .cells #[.int .i64 t265, .slice Ao9 t266.length co9] 24 (0, 0)) (by (with_reducible repeat (first | refine blk_drewN ?_ _ | refine blk_drew ?_ | refine blk_alloc ?_ _)); exact BK264.out) hb); have n3_ := Aside0.mk (below_step (by repeat (first | (with_reducible first | exact HB.out | apply below_alloc | apply pw_below_drewN | apply below_drew1 | refine below_set ?_ GE264.out) | exact HB.out)) hb); clear HO_3; clear HO_265001; clear BK264; clear HB; have HO_3 := n0_; have HO_265001 := n1_; have BK264 := n2_; have HB := n3_; clear n0_ n1_ n2_ n3_; (try clear hb); (try clear hb2); (try clear hk); (try clear hi))))
         go_ret
         exact ⟨by first | rfl | (simp [errW_none, errW_some] <;> rfl) | (simp [*, errW_none, errW_some] <;> rfl), by repeat (first | (with_reducible first | exact HB.out | apply below_alloc | apply pw_below_drewN | apply below_drew1 | refine below_set ?_ GE264.out) | exact HB.out)⟩
        ·rw [if_neg c35] at H
         have c35b0 : ((t269.length : Int) == x5_1) = false := beq_eq_false_iff_ne.mpr c35
         have c35b1 : ((t269.length : Int) != x5_1) = true := bne_iff_ne.mpr c35
         obtain rfl := Option.some.inj H
         obtain ⟨Ao39, co39, eo39⟩ := Kd.R_slice HO_3.out
         subst eo39
         go_wp2
         repeat (go_quiet (fail); try go_wp2)
         go_ret
         exact ⟨by first | rfl | (simp [errW_none, errW_some] <;> rfl) | (simp [*, errW_none, errW_some] <;> rfl), by repeat (first | (with_reducible first | exact HB.out | apply below_alloc | apply pw_below_drewN | apply below_drew1 | refine below_set ?_ GE264.out) | exact HB.out)⟩
 ·rw [if_neg c4] at H
  have c4b0 : (t272 == 0) = false := beq_eq_false_iff_ne.mpr c4
  have c4b1 : (t272 != 0) = true := bne_iff_ne.mpr c4
  replace H := Option.bind_eq_some_iff.mp H
  obtain ⟨t273, A400, H⟩ := H
  replace H : (some t273) = some r := H
  have A40 := Aside0.mk A400
  clear A400
  obtain rfl := Option.some.inj H
  go_enter Tryz.func3, Tryz.ntmps3
  go_wp2_with (first | ((with_reducible refine gate_dst (N := 1) rfl ?_); refine box_event ?hg (N := 1) ?hd (cs := #[.int .i64 a0_0, .slice A0_1 l0_1.length c0_1]) (t := 24) ?hr ?_; (case hd => rfl); (case hg => rfl); (case hr => first | (go_simp; done) | (go_simp; rfl)); intro gb264 hg w41 hbox hb; have n0_ := Aside0.mk (below_step (by repeat (first | (with_reducible first | exact HB.out | apply below_alloc | apply pw_below_drewN | apply below_drew1) | exact HB.out)) hb); have n1_ := Aside0.mk (hbox); have n2_ := Aside0.mk ((by rw [hg]; exact (below_size (by repeat (first | (with_reducible first | exact HB.out | apply below_alloc | apply pw_below_drewN | apply below_drew1) | exact HB.out))) : w.heap.size ≤ gb264)); have n3_ := Aside0.mk ((by rw [hg]; exact (below_size (by repeat (first | (with_reducible first | exact HB.out | apply below_alloc | apply pw_below_drewN | apply below_drew1) | exact HB.out))) : w.heap.size ≤ gb264)); clear HB; have HB := n0_; have BK264 := n1_; have GW264 := n2_; have GE264 := n3_; clear n0_ n1_ n2_ n3_; clear hb hbox hg; have hcz42_0 : w41.cell? ⟨gb264, 0, none⟩ = some (.int .i64 a0_0) := (blk_cell BK264.out 0).trans rfl; have hcz42_1 : w41.cell? ⟨gb264, 1, none⟩ = some (.slice A0_1 l0_1.length c0_1) := (blk_cell BK264.out 1).trans rfl; have hfz42_0 := blk_frozen BK264.out 0; have hfz42_1 := blk_frozen BK264.out 1) | (go_at_call 5; (with_reducible refine (cellarerlaw10_Few.calls k a0_0 _ _ l0_1 t265 t266 _ ?side1 ?side2 A2.out).mono ?_); (case side1 => repeat (first | exact (Kd.C_below HR0_1.out HB.out) | (with_reducible refine Kd.C_alloc ?_ _) | (with_reducible refine Kd.C_drewN ?_ _) | (with_reducible refine Kd.C_drew ?_))); (case side2 => exact HC0_1.out); rintro e w43 ⟨v267, rfl, ho0, hb⟩; have n0_ := Aside0.mk (Kd.R_lower ho0 (below_size (by repeat (first | (with_reducible first | exact HB.out | apply below_alloc | apply pw_below_drewN | apply below_drew1 | refine below_set ?_ GE264.out) | exact HB.out)))); have n1_ := Aside0.mk (blk_below (g := gb264) (o := .cells #[.int .i64 a0_0, .slice A0_1 l0_1.length c0_1] 24 (0, 0)) (by (with_reducible repeat (first | refine blk_drewN ?_ _ | refine blk_drew ?_ | refine blk_alloc ?_ _)); exact BK264.out) hb); have n2_ := Aside0.mk (below_step (by repeat (first | (with_reducible first | exact HB.out | apply below_alloc | apply pw_below_drewN | apply below_drew1 | refine below_set ?_ GE264.out) | exact HB.out)) hb); clear BK264; clear HB; have HO268 := n0_; have BK264 := n1_; have HB := n2_; clear n0_ n1_ n2_; (try clear hb); (try clear hb2); (try clear hk); (try clear hi); (try clear ho0); have hcz44_0 : w43.cell? ⟨gb264, 0, none⟩ = some (.int .i64 a0_0) := (blk_cell BK264.out 0).trans rfl; have hcz44_1 : w43.cell? ⟨gb264, 1, none⟩ = some (.slice A0_1 l0_1.length c0_1) := (blk_cell BK264.out 1).trans rfl; have hfz44_0 := blk_frozen BK264.out 0; have hfz44_1 := blk_frozen BK264.out 1; obtain ⟨Ao45, co45, eo45⟩ := Kd.R_slice HO268.out; subst eo45) | (go_at_call 6; (with_reducible refine (items_Of.calls t265 _ _ t266 t269 t272 _ ?side1 ?side2 A3.out).mono ?_); (case side1 => refine (Kd.R_reads' (e := 35) (base := w.heap.size) (ok := fun k_ => True) (n := t266.length) (c := co45) ?_).2.2; exact (by (with_reducible repeat (first | apply Kd.R_alloc | apply Kd.R_drewN | apply Kd.R_drew)); exact (Kd.R_mono (Kd.R_far (p := ⟨gb264, 1, none⟩) (Kd.R_far (p := ⟨gb264, 0, none⟩) (Kd.R_types HO268.out BK264.out (by decide)) (fun _ hk => hk.2) (.int .i64 t265)) (fun _ hk => hk.2) (.slice Ao45 t266.length co45)) (fun _ h_ => h_.1)))); (case side2 => exact (Kd.R_reads' HO268.out).2.1); rintro e w46 ⟨v270, rfl, ho0, hb⟩; have n0_ := Aside0.mk (Kd.R_below (by (with_reducible repeat (first | apply Kd.R_alloc | apply Kd.R_drewN | apply Kd.R_drew)); exact (Kd.R_mono (Kd.R_far (p := ⟨gb264, 1, none⟩) (Kd.R_far (p := ⟨gb264, 0, none⟩) (Kd.R_types HO268.out BK264.out (by decide)) (fun _ hk => hk.2) (.int .i64 t265)) (fun _ hk => hk.2) (.slice Ao45 t266.length co45)) (fun _ h_ => h_.1))) hb); have n1_ := Aside0.mk (Kd.R_lower ho0 (below_size (by repeat (first | (with_reducible first | exact HB.out | apply below_alloc | apply pw_below_drewN | apply below_drew1 | refine below_set ?_ GE264.out) | exact HB.out)))); have n2_ := Aside0.mk (blk_below (g := gb264) (o := .cells #[.int .i64 t265, .slice Ao45 t266.length co45] 24 (0, 0)) (by (with_reducible repeat (first | refine blk_drewN ?_ _ | refine blk_drew ?_ | refine blk_alloc ?_ _)); refine blk_put (cs := #[.int .i64 t265, .slice A0_1 l0_1.length c0_1]) ?_ 1 _ rfl; (with_reducible repeat (first | refine blk_drewN ?_ _ | refine blk_drew ?_ | refine blk_alloc ?_ _)); refine blk_put (cs := #[.int .i64 a0_0, .slice A0_1 l0_1.length c0_1]) ?_ 0 _ rfl; (with_reducible repeat (first | refine blk_drewN ?_ _ | refine blk_drew ?_ | refine blk_alloc ?_ _)); exact BK264.out) hb); have n3_ := Aside0.mk (below_step (by repeat (first | (with_reducible first | exact HB.out | apply below_alloc | apply pw_below_drewN | apply below_drew1 | refine below_set ?_ GE264.out) | exact HB.out)) hb); clear HO268; clear BK264; clear HB; have HO268 := n0_; have HO271 := n1_; have BK264 := n2_; have HB := n3_; clear n0_ n1_ n2_ n3_; (try clear hb); (try clear hb2); (try clear hk); (try clear hi); (try clear ho0)) | (go_at_call 7; (with_reducible refine (cellarerlaw11_awake.calls  t273 _ A40.out).mono ?_); rintro e w47 ⟨rfl, hb⟩; have n0_ := Aside0.mk (Kd.R_below (by (with_reducible repeat (first | apply Kd.R_alloc | apply Kd.R_drewN | apply Kd.R_drew)); exact HO268.out) hb); have n1_ := Aside0.mk (Kd.R_below (by (with_reducible repeat (first | apply Kd.R_alloc | apply Kd.R_drewN | apply Kd.R_drew)); exact HO271.out) hb); have n2_ := Aside0.mk (blk_below (g := gb264) (o := .cells #[.int .i64 t265, .slice Ao45 t266.length co45] 24 (0, 0)) (by (with_reducible repeat (first | refine blk_drewN ?_ _ | refine blk_drew ?_ | refine blk_alloc ?_ _)); exact BK264.out) hb); have n3_ := Aside0.mk (below_step (by repeat (first | (with_reducible first | exact HB.out | apply below_alloc | apply pw_below_drewN | apply below_drew1 | refine below_set ?_ GE264.out) | exact HB.out)) hb); clear HO268; clear HO271; clear BK264; clear HB; have HO268 := n0_; have HO271 := n1_; have BK264 := n2_; have HB := n3_; clear n0_ n1_ n2_ n3_; (try clear hb); (try clear hb2); (try clear hk); (try clear hi)))
  repeat (go_quiet (first | ((with_reducible refine gate_dst (N := 1) rfl ?_); refine box_event ?hg (N := 1) ?hd (cs := #[.int .i64 a0_0, .slice A0_1 l0_1.length c0_1]) (t := 24) ?hr ?_; (case hd => rfl); (case hg => rfl); (case hr => first | (go_simp; done) | (go_simp; rfl)); intro gb264 hg w41 hbox hb; have n0_ := Aside0.mk (below_step (by repeat (first | (with_reducible first | exact HB.out | apply below_alloc | apply pw_below_drewN | apply below_drew1) | exact HB.out)) hb); have n1_ := Aside0.mk (hbox); have n2_ := Aside0.mk ((by rw [hg]; exact (below_size (by repeat (first | (with_reducible first | exact HB.out | apply below_alloc | apply pw_below_drewN | apply below_drew1) | exact HB.out))) : w.heap.size ≤ gb264)); have n3_ := Aside0.mk ((by rw [hg]; exact (below_size (by repeat (first | (with_reducible first | exact HB.out | apply below_alloc | apply pw_below_drewN | apply below_drew1) | exact HB.out))) : w.heap.size ≤ gb264)); clear HB; have HB := n0_; have BK264 := n1_; have GW264 := n2_; have GE264 := n3_; clear n0_ n1_ n2_ n3_; clear hb hbox hg; have hcz42_0 : w41.cell? ⟨gb264, 0, none⟩ = some (.int .i64 a0_0) := (blk_cell BK264.out 0).trans rfl; have hcz42_1 : w41.cell? ⟨gb264, 1, none⟩ = some (.slice A0_1 l0_1.length c0_1) := (blk_cell BK264.out 1).trans rfl; have hfz42_0 := blk_frozen BK264.out 0; have hfz42_1 := blk_frozen BK264.out 1) | (go_at_call 5; (with_reducible refine (cellarerlaw10_Few.calls k a0_0 _ _ l0_1 t265 t266 _ ?side1 ?side2 A2.out).mono ?_); (case side1 => repeat (first | exact (Kd.C_below HR0_1.out HB.out) | (with_reducible refine Kd.C_alloc ?_ _) | (with_reducible refine Kd.C_drewN ?_ _) | (with_reducible refine Kd.C_drew ?_))); (case side2 => exact HC0_1.out); rintro e w43 ⟨v267, rfl, ho0, hb⟩; have n0_ := Aside0.mk (Kd.R_lower ho0 (below_size (by repeat (first | (with_reducible first | exact HB.out | apply below_alloc | apply pw_below_drewN | apply below_drew1 | refine below_set ?_ GE264.out) | exact HB.out)))); have n1_ := Aside0.mk (blk_below (g := gb264) (o := .cells #[.int .i64 a0_0, .slice A0_1 l0_1.length c0_1] 24 (0, 0)) (by (with_reducible repeat (first | refine blk_drewN ?_ _ | refine blk_drew ?_ | refine blk_alloc ?_ _)); exact BK264.out) hb); have n2_ := Aside0.mk (below_step (by repeat (first | (with_reducible first | exact HB.out | apply below_alloc | apply pw_below_drewN | apply below_drew1 | refine below_set ?_ GE264.out) | exact HB.out)) hb); clear BK264; clear HB; have HO268 := n0_; have BK264 := n1_; have HB := n2_; clear n0_ n1_ n2_; (try clear hb); (try clear hb2); (try clear hk); (try clear hi); (try clear ho0); have hcz44_0 : w43.cell? ⟨gb264, 0, none⟩ = some (.int .i64 a0_0) := (blk_cell BK264.out 0).trans rfl; have hcz44_1 : w43.cell? ⟨gb264, 1, none⟩ = some (.slice A0_1 l0_1.length c0_1) := (blk_cell BK264.out 1).trans rfl; have hfz44_0 := blk_frozen BK264.out 0; have hfz44_1 := blk_frozen BK264.out 1; obtain ⟨Ao45, co45, eo45⟩ := Kd.R_slice HO268.out; subst eo45) | (go_at_call 6; (with_reducible refine (items_Of.calls t265 _ _ t266 t269 t272 _ ?side1 ?side2 A3.out).mono ?_); (case side1 => refine (Kd.R_reads' (e := 35) (base := w.heap.size) (ok := fun k_ => True) (n := t266.length) (c := co45) ?_).2.2; exact (by (with_reducible repeat (first | apply Kd.R_alloc | apply Kd.R_drewN | apply Kd.R_drew)); exact (Kd.R_mono (Kd.R_far (p := ⟨gb264, 1, none⟩) (Kd.R_far (p := ⟨gb264, 0, none⟩) (Kd.R_types HO268.out BK264.out (by decide)) (fun _ hk => hk.2) (.int .i64 t265)) (fun _ hk => hk.2) (.slice Ao45 t266.length co45)) (fun _ h_ => h_.1)))); (case side2 => exact (Kd.R_reads' HO268.out).2.1); rintro e w46 ⟨v270, rfl, ho0, hb⟩; have n0_ := Aside0.mk (Kd.R_below (by (with_reducible repeat (first | apply Kd.R_alloc | apply Kd.R_drewN | apply Kd.R_drew)); exact (Kd.R_mono (Kd.R_far (p := ⟨gb264, 1, none⟩) (Kd.R_far (p := ⟨gb264, 0, none⟩) (Kd.R_types HO268.out BK264.out (by decide)) (fun _ hk => hk.2) (.int .i64 t265)) (fun _ hk => hk.2) (.slice Ao45 t266.length co45)) (fun _ h_ => h_.1))) hb); have n1_ := Aside0.mk (Kd.R_lower ho0 (below_size (by repeat (first | (with_reducible first | exact HB.out | apply below_alloc | apply pw_below_drewN | apply below_drew1 | refine below_set ?_ GE264.out) | exact HB.out)))); have n2_ := Aside0.mk (blk_below (g := gb264) (o := .cells #[.int .i64 t265, .slice Ao45 t266.length co45] 24 (0, 0)) (by (with_reducible repeat (first | refine blk_drewN ?_ _ | refine blk_drew ?_ | refine blk_alloc ?_ _)); refine blk_put (cs := #[.int .i64 t265, .slice A0_1 l0_1.length c0_1]) ?_ 1 _ rfl; (with_reducible repeat (first | refine blk_drewN ?_ _ | refine blk_drew ?_ | refine blk_alloc ?_ _)); refine blk_put (cs := #[.int .i64 a0_0, .slice A0_1 l0_1.length c0_1]) ?_ 0 _ rfl; (with_reducible repeat (first | refine blk_drewN ?_ _ | refine blk_drew ?_ | refine blk_alloc ?_ _)); exact BK264.out) hb); have n3_ := Aside0.mk (below_step (by repeat (first | (with_reducible first | exact HB.out | apply below_alloc | apply pw_below_drewN | apply below_drew1 | refine below_set ?_ GE264.out) | exact HB.out)) hb); clear HO268; clear BK264; clear HB; have HO268 := n0_; have HO271 := n1_; have BK264 := n2_; have HB := n3_; clear n0_ n1_ n2_ n3_; (try clear hb); (try clear hb2); (try clear hk); (try clear hi); (try clear ho0)) | (go_at_call 7; (with_reducible refine (cellarerlaw11_awake.calls  t273 _ A40.out).mono ?_); rintro e w47 ⟨rfl, hb⟩; have n0_ := Aside0.mk (Kd.R_below (by (with_reducible repeat (first | apply Kd.R_alloc | apply Kd.R_drewN | apply Kd.R_drew)); exact HO268.out) hb); have n1_ := Aside0.mk (Kd.R_below (by (with_reducible repeat (first | apply Kd.R_alloc | apply Kd.R_drewN | apply Kd.R_drew)); exact HO271.out) hb); have n2_ := Aside0.mk (blk_below (g := gb264) (o := .cells #[.int .i64 t265, .slice Ao45 t266.length co45] 24 (0, 0)) (by (with_reducible repeat (first | refine blk_drewN ?_ _ | refine blk_drew ?_ | refine blk_alloc ?_ _)); exact BK264.out) hb); have n3_ := Aside0.mk (below_step (by repeat (first | (with_reducible first | exact HB.out | apply below_alloc | apply pw_below_drewN | apply below_drew1 | refine below_set ?_ GE264.out) | exact HB.out)) hb); clear HO268; clear HO271; clear BK264; clear HB; have HO268 := n0_; have HO271 := n1_; have BK264 := n2_; have HB := n3_; clear n0_ n1_ n2_ n3_; (try clear hb); (try clear hb2); (try clear hk); (try clear hi))); try go_wp2_with (first | ((with_reducible refine gate_dst (N := 1) rfl ?_); refine box_event ?hg (N := 1) ?hd (cs := #[.int .i64 a0_0, .slice A0_1 l0_1.length c0_1]) (t := 24) ?hr ?_; (case hd => rfl); (case hg => rfl); (case hr => first | (go_simp; done) | (go_simp; rfl)); intro gb264 hg w41 hbox hb; have n0_ := Aside0.mk (below_step (by repeat (first | (with_reducible first | exact HB.out | apply below_alloc | apply pw_below_drewN | apply below_drew1) | exact HB.out)) hb); have n1_ := Aside0.mk (hbox); have n2_ := Aside0.mk ((by rw [hg]; exact (below_size (by repeat (first | (with_reducible first | exact HB.out | apply below_alloc | apply pw_below_drewN | apply below_drew1) | exact HB.out))) : w.heap.size ≤ gb264)); have n3_ := Aside0.mk ((by rw [hg]; exact (below_size (by repeat (first | (with_reducible first | exact HB.out | apply below_alloc | apply pw_below_drewN | apply below_drew1) | exact HB.out))) : w.heap.size ≤ gb264)); clear HB; have HB := n0_; have BK264 := n1_; have GW264 := n2_; have GE264 := n3_; clear n0_ n1_ n2_ n3_; clear hb hbox hg; have hcz42_0 : w41.cell? ⟨gb264, 0, none⟩ = some (.int .i64 a0_0) := (blk_cell BK264.out 0).trans rfl; have hcz42_1 : w41.cell? ⟨gb264, 1, none⟩ = some (.slice A0_1 l0_1.length c0_1) := (blk_cell BK264.out 1).trans rfl; have hfz42_0 := blk_frozen BK264.out 0; have hfz42_1 := blk_frozen BK264.out 1) | (go_at_call 5; (with_reducible refine (cellarerlaw10_Few.calls k a0_0 _ _ l0_1 t265 t266 _ ?side1 ?side2 A2.out).mono ?_); (case side1 => repeat (first | exact (Kd.C_below HR0_1.out HB.out) | (with_reducible refine Kd.C_alloc ?_ _) | (with_reducible refine Kd.C_drewN ?_ _) | (with_reducible refine Kd.C_drew ?_))); (case side2 => exact HC0_1.out); rintro e w43 ⟨v267, rfl, ho0, hb⟩; have n0_ := Aside0.mk (Kd.R_lower ho0 (below_size (by repeat (first | (with_reducible first | exact HB.out | apply below_alloc | apply pw_below_drewN | apply below_drew1 | refine below_set ?_ GE264.out) | exact HB.out)))); have n1_ := Aside0.mk (blk_below (g := gb264) (o := .cells #[.int .i64 a0_0, .slice A0_1 l0_1.length c0_1] 24 (0, 0)) (by (with_reducible repeat (first | refine blk_drewN ?_ _ | refine blk_drew ?_ | refine blk_alloc ?_ _)); exact BK264.out) hb); have n2_ := Aside0.mk (below_step (by repeat (first | (with_reducible first | exact HB.out | apply below_alloc | apply pw_below_drewN | apply below_drew1 | refine below_set ?_ GE264.out) | exact HB.out)) hb); clear BK264; clear HB; have HO268 := n0_; have BK264 := n1_; have HB := n2_; clear n0_ n1_ n2_; (try clear hb); (try clear hb2); (try clear hk); (try clear hi); (try clear ho0); have hcz44_0 : w43.cell? ⟨gb264, 0, none⟩ = some (.int .i64 a0_0) := (blk_cell BK264.out 0).trans rfl; have hcz44_1 : w43.cell? ⟨gb264, 1, none⟩ = some (.slice A0_1 l0_1.length c0_1) := (blk_cell BK264.out 1).trans rfl; have hfz44_0 := blk_frozen BK264.out 0; have hfz44_1 := blk_frozen BK264.out 1; obtain ⟨Ao45, co45, eo45⟩ := Kd.R_slice HO268.out; subst eo45) | (go_at_call 6; (with_reducible refine (items_Of.calls t265 _ _ t266 t269 t272 _ ?side1 ?side2 A3.out).mono ?_); (case side1 => refine (Kd.R_reads' (e := 35) (base := w.heap.size) (ok := fun k_ => True) (n := t266.length) (c := co45) ?_).2.2; exact (by (with_reducible repeat (first | apply Kd.R_alloc | apply Kd.R_drewN | apply Kd.R_drew)); exact (Kd.R_mono (Kd.R_far (p := ⟨gb264, 1, none⟩) (Kd.R_far (p := ⟨gb264, 0, none⟩) (Kd.R_types HO268.out BK264.out (by decide)) (fun _ hk => hk.2) (.int .i64 t265)) (fun _ hk => hk.2) (.slice Ao45 t266.length co45)) (fun _ h_ => h_.1)))); (case side2 => exact (Kd.R_reads' HO268.out).2.1); rintro e w46 ⟨v270, rfl, ho0, hb⟩; have n0_ := Aside0.mk (Kd.R_below (by (with_reducible repeat (first | apply Kd.R_alloc | apply Kd.R_drewN | apply Kd.R_drew)); exact (Kd.R_mono (Kd.R_far (p := ⟨gb264, 1, none⟩) (Kd.R_far (p := ⟨gb264, 0, none⟩) (Kd.R_types HO268.out BK264.out (by decide)) (fun _ hk => hk.2) (.int .i64 t265)) (fun _ hk => hk.2) (.slice Ao45 t266.length co45)) (fun _ h_ => h_.1))) hb); have n1_ := Aside0.mk (Kd.R_lower ho0 (below_size (by repeat (first | (with_reducible first | exact HB.out | apply below_alloc | apply pw_below_drewN | apply below_drew1 | refine below_set ?_ GE264.out) | exact HB.out)))); have n2_ := Aside0.mk (blk_below (g := gb264) (o := .cells #[.int .i64 t265, .slice Ao45 t266.length co45] 24 (0, 0)) (by (with_reducible repeat (first | refine blk_drewN ?_ _ | refine blk_drew ?_ | refine blk_alloc ?_ _)); refine blk_put (cs := #[.int .i64 t265, .slice A0_1 l0_1.length c0_1]) ?_ 1 _ rfl; (with_reducible repeat (first | refine blk_drewN ?_ _ | refine blk_drew ?_ | refine blk_alloc ?_ _)); refine blk_put (cs := #[.int .i64 a0_0, .slice A0_1 l0_1.length c0_1]) ?_ 0 _ rfl; (with_reducible repeat (first | refine blk_drewN ?_ _ | refine blk_drew ?_ | refine blk_alloc ?_ _)); exact BK264.out) hb); have n3_ := Aside0.mk (below_step (by repeat (first | (with_reducible first | exact HB.out | apply below_alloc | apply pw_below_drewN | apply below_drew1 | refine below_set ?_ GE264.out) | exact HB.out)) hb); clear HO268; clear BK264; clear HB; have HO268 := n0_; have HO271 := n1_; have BK264 := n2_; have HB := n3_; clear n0_ n1_ n2_ n3_; (try clear hb); (try clear hb2); (try clear hk); (try clear hi); (try clear ho0)) | (go_at_call 7; (with_reducible refine (cellarerlaw11_awake.calls  t273 _ A40.out).mono ?_); rintro e w47 ⟨rfl, hb⟩; have n0_ := Aside0.mk (Kd.R_below (by (with_reducible repeat (first | apply Kd.R_alloc | apply Kd.R_drewN | apply Kd.R_drew)); exact HO268.out) hb); have n1_ := Aside0.mk (Kd.R_below (by (with_reducible repeat (first | apply Kd.R_alloc | apply Kd.R_drewN | apply Kd.R_drew)); exact HO271.out) hb); have n2_ := Aside0.mk (blk_below (g := gb264) (o := .cells #[.int .i64 t265, .slice Ao45 t266.length co45] 24 (0, 0)) (by (with_reducible repeat (first | refine blk_drewN ?_ _ | refine blk_drew ?_ | refine blk_alloc ?_ _)); exact BK264.out) hb); have n3_ := Aside0.mk (below_step (by repeat (first | (with_reducible first | exact HB.out | apply below_alloc | apply pw_below_drewN | apply below_drew1 | refine below_set ?_ GE264.out) | exact HB.out)) hb); clear HO268; clear HO271; clear BK264; clear HB; have HO268 := n0_; have HO271 := n1_; have BK264 := n2_; have HB := n3_; clear n0_ n1_ n2_ n3_; (try clear hb); (try clear hb2); (try clear hk); (try clear hi))))
  go_ret
  exact ⟨by first | rfl | (simp [errW_none, errW_some] <;> rfl) | (simp [*, errW_none, errW_some] <;> rfl), by repeat (first | (with_reducible first | exact HB.out | apply below_alloc | apply pw_below_drewN | apply below_drew1 | refine below_set ?_ GE264.out) | exact HB.out)⟩

end Go.Proofs.YtafeepdlcilicaaGreat.Q

-- K0
namespace Go.Proofs.YtafeepdlcilicaaGreat.Q
open Go.WideMaps Go.RowKit Go.Proofs.YtafeepdlcilicaaGreatW.PrintWords Go.Proofs.YtafeepdlcilicaaGreatW.PrintLast Go.Proofs.YtafeepdlcilicaaGreatW.PrintMore Go.Maps
set_option linter.unusedVariables false
set_option linter.unusedSimpArgs false

/-! ### ItemsNames in plain words -/
theorem wf_cutB {b : S35} (h : wfBucket b) : wfBucket (cutB b) := by
 obtain ⟨h1, h2, h3, h4⟩ := h
 refine ⟨h1, fun x hx => ?_, fun u hu => ?_, h4⟩
 ·obtain ⟨e, he, rfl⟩ := List.mem_map.1 hx
  intro v hv
  obtain ⟨v', hv', rfl⟩ := List.mem_map.1 hv
  exact h2 e (List.mem_of_mem_take he) v' (List.mem_of_mem_take hv')
 ·obtain ⟨u', hu', rfl⟩ := List.mem_map.1 hu
  obtain ⟨g1, g2⟩ := h3 u' (List.mem_of_mem_take hu')
  refine ⟨g1, fun p hp => ?_⟩
  obtain ⟨p', hp', rfl⟩ := List.mem_map.1 hp
  exact g2 p' (List.mem_of_mem_take hp')
theorem wf_fewD {l : List S35} (h : ∀ b ∈ l, wfBucket b) : ∀ b ∈ fewD l, wfBucket b := by
 intro b hb
 obtain ⟨b', hb', rfl⟩ := List.mem_map.1 hb
 exact wf_cutB (h b' (List.mem_of_mem_take hb'))
theorem of_yes {now : Int} {l : List S35} (h : depotB now l = true) (hw : ∀ b ∈ l, wfBucket b) : items_Of.f now l = some (ofL now l, 0) := by
 unfold items_Of.f
 rw [if_pos h, if_pos hw]
theorem of_no {now : Int} {l : List S35} (h : depotB now l = false) : items_Of.f now l = some ([], 1) := by
 unfold items_Of.f
 rw [if_neg (by simp [h])]
def sumE (l : List S38) : Nat := (l.map (fun x => x.f1.length)).sum
def sumU (l : List S41) : Nat := (l.map (fun u => 1 + u.f2.length)).sum
def cntB (b : S35) : Nat := sumE b.f2 + sumU b.f3
def cntD (l : List S35) : Nat := (l.map cntB).sum
theorem flat_sum {α β : Type} (f : α → List β) : ∀ l : List α, (l.flatMap f).length = (l.map (fun x => (f x).length)).sum
 | [] => rfl
 | x :: l => by rw [List.flatMap_cons, List.length_append, List.map_cons, List.sum_cons, flat_sum f l]
theorem bItems_cnt (b : S35) : (bItems b).length = 1 + cntB b := by
 unfold bItems upsL cntB sumE sumU
 rw [List.length_cons, List.length_append, flat_sum, flat_sum]
 have e1 : (b.f2.map (fun x => (versL b.f0 x).length)) = b.f2.map (fun x => x.f1.length) := List.map_congr_left (fun x _ => versL_len _ _)
 have e2 : (b.f3.map (fun x => (upItems b.f0 x).length)) = b.f3.map (fun u => 1 + u.f2.length) := List.map_congr_left (fun u _ => by rw [upItems_len]; omega)
 rw [e1, e2]; omega
theorem depL_cnt (now : Int) (l : List S35) : (depL now l).length = 1 + l.length + cntD l := by
 unfold depL cntD
 rw [List.length_cons, flat_sum]
 have e : ∀ l : List S35, (l.map (fun x => (bItems x).length)).sum = l.length + (l.map cntB).sum := by
  intro l
  induction l with
  | nil => rfl
  | cons b l ih => rw [List.map_cons, List.sum_cons, ih, bItems_cnt, List.map_cons, List.sum_cons, List.length_cons]; omega
 rw [e]; omega
theorem small_w {a b : Nat} (h : a + b ≤ 1000000) : wrap64 ((a : Int) + (b : Int)) = ((a + b : Nat) : Int) := sum_w a b (by unfold bigN; omega)
theorem small_s {a : Nat} (h : a ≤ 1000000) : wrap64 ((a : Int) + 1) = ((a + 1 : Nat) : Int) := succ_w a (by unfold bigN; omega)
theorem small_1 {b : Nat} (h : 1 + b ≤ 1000000) : wrap64 (1 + (b : Int)) = ((1 + b : Nat) : Int) := by rw [wrap64_of (by omega) (by omega)]; omega
theorem names_l1 (zs : List S43) (now : Int) (D : List S35) (i : Nat) (hi : i < D.length) (K : Nat) (hl : D[i].f2.length ≤ 1000000) : ∀ (d j acc : Nat), j + d = D[i].f2.length → acc + sumE (D[i].f2.drop j) ≤ 1000000 →
  cellarerlaw11_ItemsNames.l1 (K + d + 1) zs acc i j now D = cellarerlaw11_ItemsNames.l2 K zs ((acc + sumE (D[i].f2.drop j) : Nat) : Int) i 0 now D := by
 intro d
 induction d with
 | zero =>
  intro j acc hj hb
  rw [show K + 0 + 1 = K + 1 from rfl]
  simp only [cellarerlaw11_ItemsNames.l1]
  rw [if_pos (by omega), if_pos (by omega), rdB' D i hi, if_neg (by omega), List.drop_eq_nil_of_le (by omega)]
  rfl
 | succ d ih =>
  intro j acc hj hb
  have hj' : j < D[i].f2.length := by omega
  rw [List.drop_eq_getElem_cons hj'] at hb ⊢
  have e : sumE (D[i].f2[j] :: D[i].f2.drop (j + 1)) = D[i].f2[j].f1.length + sumE (D[i].f2.drop (j + 1)) := by unfold sumE; rw [List.map_cons, List.sum_cons]
  rw [e] at hb ⊢
  rw [show K + (d + 1) + 1 = (K + d + 1) + 1 from rfl]
  generalize hM : K + d + 1 = M
  simp only [cellarerlaw11_ItemsNames.l1]
  subst hM
  rw [if_pos (by omega), if_pos (by omega), rdB' D i hi, if_pos (by omega), if_pos (by omega), rdE' _ j hj', small_w (by omega), small_s (by omega), ih (j + 1) _ (by omega) (by omega), Nat.add_assoc]
theorem names_l2 (zs : List S43) (now : Int) (D : List S35) (i : Nat) (hi : i < D.length) (hD : D.length ≤ 1000000) (K : Nat) (hl : D[i].f3.length ≤ 1000000) : ∀ (d j acc : Nat), j + d = D[i].f3.length → acc + sumU (D[i].f3.drop j) ≤ 1000000 →
  cellarerlaw11_ItemsNames.l2 (K + d + 1) zs acc i j now D = cellarerlaw11_ItemsNames.l0 K zs ((acc + sumU (D[i].f3.drop j) : Nat) : Int) ((i + 1 : Nat) : Int) now D := by
 intro d
 induction d with
 | zero =>
  intro j acc hj hb
  rw [show K + 0 + 1 = K + 1 from rfl]
  simp only [cellarerlaw11_ItemsNames.l2]
  rw [if_pos (by omega), if_pos (by omega), rdB' D i hi, if_neg (by omega), List.drop_eq_nil_of_le (by omega), small_s (by omega)]
  rfl
 | succ d ih =>
  intro j acc hj hb
  have hj' : j < D[i].f3.length := by omega
  rw [List.drop_eq_getElem_cons hj'] at hb ⊢
  have e : sumU (D[i].f3[j] :: D[i].f3.drop (j + 1)) = (1 + D[i].f3[j].f2.length) + sumU (D[i].f3.drop (j + 1)) := by unfold sumU; rw [List.map_cons, List.sum_cons]
  rw [e] at hb ⊢
  rw [show K + (d + 1) + 1 = (K + d + 1) + 1 from rfl]
  generalize hM : K + d + 1 = M
  simp only [cellarerlaw11_ItemsNames.l2]
  subst hM
  have e1 : wrap64 (1 + (D[i].f3[j].f2.length : Int)) = ((1 + D[i].f3[j].f2.length : Nat) : Int) := small_1 (by omega)
  rw [if_pos (by omega), if_pos (by omega), rdB' D i hi, if_pos (by omega), if_pos (by omega), rdU' _ j hj', e1, small_w (by omega), small_s (by omega), ih (j + 1) _ (by omega) (by omega), Nat.add_assoc]
theorem names_l3 (zs : List S43) (h : SI zs) (hz : zs.length ≤ 1000000) (K : Nat) : ∀ (d i : Nat), i + d = zs.length → 1 ≤ i → cellarerlaw11_ItemsNames.l3 (K + d + 1) zs (zs.length : Int) (i : Int) = some true := by
 intro d
 induction d with
 | zero =>
  intro i hi h1
  rw [show K + 0 + 1 = K + 1 from rfl]
  simp only [cellarerlaw11_ItemsNames.l3]
  rw [if_neg (by omega), if_pos trivial]
  rfl
 | succ d ih =>
  intro i hi h1
  obtain ⟨m, rfl⟩ : ∃ m, i = m + 1 := ⟨i - 1, by omega⟩
  have h2 : m + 1 < zs.length := by omega
  rw [show K + (d + 1) + 1 = (K + d + 1) + 1 from rfl]
  generalize hM : K + d + 1 = M
  simp only [cellarerlaw11_ItemsNames.l3]
  subst hM
  have e1 : wrap64 (((m + 1 : Nat) : Int) - 1) = ((m : Nat) : Int) := by rw [wrap64_of (by omega) (by omega)]; omega
  have hlt : Op.bytesLess zs[m].f0.toList zs[m + 1].f0.toList = true := bless_ltN.2 ((List.pairwise_iff_getElem.1 h) m (m + 1) (by omega) h2 (by omega))
  rw [if_pos (by omega), e1, if_pos (by omega), if_pos (by omega), if_pos (by omega), rd35 (by omega), rd35 h2, if_pos hlt, small_s (by omega), ih (m + 2) (by omega) (by omega)]
def needN (K : Nat) : List S35 → Nat
 | [] => K
 | b :: bs => needN K bs + b.f2.length + b.f3.length + 3
theorem names_l0 (zs : List S43) (h : SI zs) (hz : zs.length ≤ 1000000) (now : Int) (D : List S35) (hD : D.length ≤ 1000000) (hl : ∀ b ∈ D, b.f2.length ≤ 1000000 ∧ b.f3.length ≤ 1000000) (K : Nat) : ∀ (bs : List S35) (i acc : Nat), bs = D.drop i → i ≤ D.length → acc + cntD bs = zs.length →
  cellarerlaw11_ItemsNames.l0 (needN (K + zs.length + 3) bs) zs acc i now D = some true := by
 intro bs
 induction bs with
 | nil =>
  intro i acc hb hi ha
  have : D.length ≤ i := by
   have := congrArg List.length hb
   rw [List.length_drop] at this; simp at this; omega
  show cellarerlaw11_ItemsNames.l0 (K + zs.length + 2 + 1) _ _ _ _ _ = _
  generalize hM : K + zs.length + 2 = M
  simp only [cellarerlaw11_ItemsNames.l0]
  subst hM
  have e : acc = zs.length := by simpa [cntD] using ha
  rw [if_neg (by omega), e]
  by_cases h0 : zs.length = 0
  ·rw [show K + zs.length + 2 = (K + zs.length + 1) + 1 from rfl]
   generalize hM : K + zs.length + 1 = M
   simp only [cellarerlaw11_ItemsNames.l3]
   rw [if_neg (by omega), if_pos trivial]
   rfl
  ·have := names_l3 zs h hz (K + 2) (zs.length - 1) 1 (by omega) (by omega)
   rw [show K + 2 + (zs.length - 1) + 1 = K + zs.length + 2 by omega] at this
   exact this
 | cons b bs ih =>
  intro i acc hb hi ha
  have hlen : i < D.length := by
   have := congrArg List.length hb
   rw [List.length_drop] at this; simp only [List.length_cons] at this; omega
  rw [List.drop_eq_getElem_cons hlen] at hb
  injection hb with hb1 hb2
  obtain ⟨g1, g2⟩ := hl D[i] (List.getElem_mem hlen)
  have e : cntD (b :: bs) = sumE b.f2 + sumU b.f3 + cntD bs := by unfold cntD; rw [List.map_cons, List.sum_cons]; rfl
  rw [e] at ha
  show cellarerlaw11_ItemsNames.l0 (needN (K + zs.length + 3) bs + b.f2.length + b.f3.length + 2 + 1) _ _ _ _ _ = _
  generalize hM : needN (K + zs.length + 3) bs + b.f2.length + b.f3.length + 2 = M
  simp only [cellarerlaw11_ItemsNames.l0]
  subst hM
  rw [if_pos (by omega)]
  have h1 := names_l1 zs now D i hlen (needN (K + zs.length + 3) bs + b.f3.length + 1) g1 D[i].f2.length 0 acc (by omega) (by rw [List.drop_zero, ← hb1]; omega)
  have h2 := names_l2 zs now D i hlen hD (needN (K + zs.length + 3) bs) g2 D[i].f3.length 0 (acc + sumE D[i].f2) (by omega) (by rw [List.drop_zero, ← hb1]; omega)
  rw [List.drop_zero] at h1 h2
  rw [← hb1] at h1 h2
  rw [show needN (K + zs.length + 3) bs + b.f2.length + b.f3.length + 2 = needN (K + zs.length + 3) bs + b.f3.length + 1 + b.f2.length + 1 by omega]
  refine h1.trans (h2.trans ?_)
  exact ih (i + 1) _ hb2 (by omega) (by omega)
theorem needN_ge (K : Nat) : ∀ bs, K ≤ needN K bs
 | [] => Nat.le_refl _
 | b :: bs => by have := needN_ge K bs; show K ≤ _ + _ + _ + 3; omega
theorem cntD_le {now : Int} {l : List S35} (h : depotB now l = true) : (depL now l).length ≤ 12001 := by
 obtain ⟨_, _, g3, g4⟩ := depot_at h
 have := flat_le bItems 2000 l (fun x hx => by
  obtain ⟨j, hj, rfl⟩ := List.getElem_of_mem hx
  exact bItems_len (g4 j hj).1)
 unfold depL
 rw [List.length_cons]
 omega
theorem names_plain (now : Int) (l : List S35) (hn : ∀ b ∈ l, (b.f3.length : Int) ≤ 9223372036854775807) (hw : ∀ b ∈ l, wfBucket b) : ∃ k, cellarerlaw11_ItemsNames.f k now l = some true := by
 cases hd : depotB now (fewD l)
 ·refine ⟨500, ?_⟩
  unfold cellarerlaw11_ItemsNames.f
  rw [few10_ge now l hn 500 (Nat.le_refl _), Option.bind_some, of_no hd, Option.bind_some, if_neg (by decide)]
  rfl
 ·have hwf := wf_fewD hw
  have hperm := ofL_is_perm hd hwf
  have hlen := hperm.length_eq
  have hle := cntD_le hd
  have hcnt := depL_cnt now (fewD l)
  obtain ⟨_, _, g3, g4⟩ := depot_at hd
  refine ⟨needN (500 + (ofL now (fewD l)).length + 3) (fewD l), ?_⟩
  have hge := needN_ge (500 + (ofL now (fewD l)).length + 3) (fewD l)
  unfold cellarerlaw11_ItemsNames.f
  rw [few10_ge now l hn _ (by omega), Option.bind_some, of_yes hd hwf, Option.bind_some, if_pos rfl]
  have e1 : wrap64 (1 + ((fewD l).length : Int)) = ((1 + (fewD l).length : Nat) : Int) := small_1 (by omega)
  rw [e1]
  refine names_l0 (ofL now (fewD l)) (ofL_SI _ _) (by omega) now (fewD l) (by omega) (fun b hb => ?_) 500 (fewD l) 0 (1 + (fewD l).length) rfl (Nat.zero_le _) (by omega)
  obtain ⟨j, hj, rfl⟩ := List.getElem_of_mem hb
  obtain ⟨_, hi, hc, _⟩ := bucket_at (g4 j hj).1
  exact ⟨by have := (index_at hi).1; omega, by have := (check_mem hc).1; omega⟩
end Go.Proofs.YtafeepdlcilicaaGreat.Q

-- LawNames
namespace Go.Proofs.YtafeepdlcilicaaGreat.itemsNames
open Go.ChangeShapes Go.WideShapes Go.ChangeAt Go.RowKit
open Go.ChangeMaps (open_string shut_string)
set_option linter.unusedVariables false

theorem ownItemsNames : ownKnob Tryz.prog.godebug = none := by kernel_rfl
theorem laidOutItemsNames : laidOutB Tryz.prog = true := by kernel_rfl
set_option maxRecDepth 100000 in
theorem lifted (os : Os) (started : os.Started) (H : Type) (enc : TypeId × Value → H) :
  ReturnsInHanded {} Tryz.checked os 3 .any (Rows.itemsNamesSpec.pre6 enc Tryz.prog Tryz.f3 Rows.itemsNamesRow.domain false) (Rows.itemsNamesSpec.post enc Tryz.prog Tryz.f3 false true false false) := by
 refine returnsInHanded_of_change_sized (C := Tryz.checked) ownItemsNames started (by kernel_rfl) Tryz.func3
  (ChangeSpec.witness6 (enc := enc) (C := Tryz.checked) false ⟨#[], #[.agg #[.int .i64 0, .slice none 0 0]], []⟩ 8 (by kernel_rfl) (by kernel_rfl) (by kernel_rfl) (by kernel_rfl)) ?_
 intro W base args ds gs before hval0 hW hcnd hsz0 _
 have hval : ∀ (j : Nat) t v, Tryz.f3.params[j]? = some t → args[j]? = some v → Value.okWide Tryz.prog W .any base t v := hval0
 have hW' := hW
 obtain ⟨p, q, hA0, hV, rfl, hfz, hnd⟩ := hW
 have hA : DataW.TrodAll enc Tryz.prog W 0 (fun _ => true) true Tryz.f3.params.toList args.toList ds p := hA0
 rw [Tryz.params3] at hA hval
 obtain ⟨v0, vs0, d0, ds0, p0, q0, hargs, rfl, rfl, h0, r0⟩ := trodAll_cons hA
 obtain ⟨rfl, rfl, rfl⟩ := trodAll_nil r0
 obtain rfl : args = #[v0] := by cases args; simp_all
 obtain ⟨rfl, rfl⟩ := trodVars_none hV
 have k0 := h0
 have lt0 : ∀ x ∈ p0, x.block < W.heap.size := by obtain ⟨m, hm⟩ := k0; exact DataW.trod_lt m _ _ _ hm
 obtain ⟨n_0, l_0, A_0, c_0, rfl, hl_0, hC_0, hn_0, hw_0⟩ := Q.open_depot (hval 0 24 v0 rfl rfl) h0
 clear hA0 hval0 hsz0
 refine ((Exists.elim (Q.names_plain n_0 l_0 (Q.inner_buckets hC_0) hw_0) fun k hk => Q.cellarerlaw11_ItemsNames.calls k n_0 A_0 c_0 l_0 true W hC_0 hl_0 hk)).mono fun e W' ⟨he, bel⟩ => ?_
 subst he
 exact ⟨_, rfl, _, _, _, [], _, [], hW', trodAll_mk1 (shut_bool Tryz.underlying4 _), (trodAll_cons_mk (Below.trod laidOutItemsNames (by kernel_rfl) (of_decide_eq_true (by kernel_rfl)) k0 bel lt0) trodAll_mk0), rfl, bel.frame _, fun h => by cases h⟩
theorem over : Rows.itemsNamesRow.holds Tryz.pinned (OpenSpec.ofChange Rows.itemsNamesSpec) :=
 OpenClaim.holds_of_wide 3 Tryz.f3 rfl rfl rfl rfl rfl rfl rfl ⟨rfl, rfl, rfl, rfl, rfl⟩ rfl rfl rfl rfl rfl (by kernel_rfl) Tryz.func3 (by kernel_rfl)
  (of_decide_eq_true (by kernel_rfl)) (by unfold Func.isWrapper; first | (rw [if_pos (by decide +kernel)]; kernel_rfl) | (rw [if_neg (by decide +kernel)]; exact ⟨rfl, rfl⟩))
  (fun os started H enc _ => lifted os started H enc)
end Go.Proofs.YtafeepdlcilicaaGreat.itemsNames
namespace Go.Proofs.YtafeepdlcilicaaGreat
open Go
/-- The row. -/
theorem itemsNames_holds : Rows.ItemsNamesSaid := itemsNames.over
#print axioms itemsNames_holds
end Go.Proofs.YtafeepdlcilicaaGreat
