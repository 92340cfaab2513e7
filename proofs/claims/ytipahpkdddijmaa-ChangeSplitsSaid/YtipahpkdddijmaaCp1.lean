/- A record's notes, laid as two records, are taken as they were, and both have as many octets as the one, and two: the law ChangeSplits answers true, for any notes and any byte; there are no conditions. Part 1 of 1. -/
import Derived.Test.YtipahpkdddijmaaCd2
import Derived.Test.YtipahpkdddijmaaCp0
import Derived.Test.YtipahpkdddijmaaProg
import Derived.Below
import Derived.Deep.Draws
import Derived.Deep.AppendLies
import Derived.Maps.AppendAt
import Derived.OwnWalk
import Derived.Laws.BytesArg
import Derived.Laws.MakeOwn
import Derived.Laws.OwnMore
import Derived.Deep.OwnRows
import Derived.Tactics
import Derived.Lib.ConvBytes
import Derived.Laws.Slices
import Derived.WalkKit
import Derived.KernelRfl
import Derived.RowKit3
import Derived.Deep.LoopGhost
import Derived.Deep.QuietTactic
import Derived.BigQuiet
import Derived.WideLaws
import Derived.Deep.DeepCutAuto
import Derived.Deep.CutBlock
import Derived.Deep.RegionHeld3
import Derived.Laws.Rows
import Derived.Lib.AppendStr
import Derived.ArgAppend
import Derived.Laws.IdiomCopy
import Derived.OrdersHeld
import Derived.Laws.BitsLemmas
import Derived.RowKit
import Derived.Laws.StructEq
import Derived.Maps.OwnSet
import Derived.Maps.RangeWalk
import Derived.Lib.BufferMore
import Derived.Lib.Bytealg
import Derived.Shelf.SlSortCmp.WholeK
import Derived.Shelf.Strings.Builder1
import Derived.Shelf.Small.Bits
import Derived.Shelf.Small.Strs
import Derived.Shelf.Strings.BuilderF
import Derived.Shelf.Strconv.Itoa0
import Derived.Shelf.SlSortCmp.QuietGrown
import Derived.Laws.CopyOwn
import Derived.Lib.Overlaps
import Derived.Deep.RegionLaw
import Derived.Lib.Builder
import Derived.Deep.DeepMust
import Derived.Laws.Bits64b
import Derived.RangeFuncBox
import Derived.RangeFuncLeaves
import Derived.Shelf.Abstract
import Derived.OwnWalkIn
import Derived.TacticsInMore
import Derived.LoopNIn
import Derived.LoopIn
import Derived.RangeFuncNested
import Derived.RangeFuncBound
import Derived.RangeFuncCalls
import Derived.Shelf.RegionOpen
import Derived.ProofKit
import Derived.Deep.Strs
import Derived.Test.YtipahpkdddijmaaRows
import Derived.OpenShut
import Derived.ShutString
import Derived.ChangeOld
import Derived.SizedLaws
-- F0
namespace Go.Proofs.Ytipahpkdddijmaa.Q
open Go.RowKit Go.Proofs.YtipahpkdddijmaaW.PrintWords Go.Proofs.YtipahpkdddijmaaW.PrintLast Go.Proofs.YtipahpkdddijmaaW.PrintMore
set_option linter.unusedVariables false
set_option linter.unusedSimpArgs false

/-! ### wire.read: octets as a number, the least first -/
def leN : List UInt8 → Nat
  | [] => 0
  | b :: r => b.toNat + 256 * leN r
theorem leN_snoc : ∀ (l : List UInt8) (b : UInt8), leN (l ++ [b]) = leN l + 256 ^ l.length * b.toNat
  | [], b => by simp [leN]
  | a :: l, b => by
    rw [List.cons_append, leN, leN, leN_snoc l b, List.length_cons, Nat.pow_succ, Nat.mul_add]
    rw [show 256 ^ l.length * 256 * b.toNat = 256 * (256 ^ l.length * b.toNat) by rw [Nat.mul_comm (256 ^ l.length) 256, Nat.mul_assoc]]
    omega
theorem leN_lt : ∀ l : List UInt8, leN l < 256 ^ l.length
  | [] => by simp [leN]
  | b :: l => by
    have h := leN_lt l
    have hb := b.toNat_lt
    rw [leN, List.length_cons, Nat.pow_succ]
    omega
theorem bt_val (s : ByteArray) (i : Nat) (h : i < s.size) : bt s (i : Int) = ((s.data.toList[i]'(by simpa using h)).toNat : Int) := by
  unfold bt
  rw [Int.toNat_natCast, dif_pos h]
  rfl
theorem read_step (x b i : Nat) (hi : i < 8) (hx : x < 256 ^ i) (hb : b < 256) : Go.bits .or .u64 (x : Int) (shl .u64 (IntKind.u64.wrap (b : Int)) (wrap64 (8 * (i : Int)))) = ((x + 256 ^ i * b : Nat) : Int) := by
  have e1 : IntKind.u64.wrap (b : Int) = b := by rw [IntKind.wrap_u64]; omega
  have e2 : wrap64 (8 * (i : Int)) = ((8 * i : Nat) : Int) := by unfold wrap64; omega
  have hp : 256 ^ i = 2 ^ (8 * i) := by rw [show (256 : Nat) = 2 ^ 8 from rfl, ← Nat.pow_mul]
  have hp8 : 256 ^ i * 256 ≤ 256 ^ 8 := by rw [← Nat.pow_succ]; exact Nat.pow_le_pow_right (by decide) (by omega)
  have hlt : b * 256 ^ i < 256 ^ i * 256 := by rw [Nat.mul_comm]; exact Nat.mul_lt_mul_of_pos_left hb (Nat.pow_pos (by decide))
  have h64 : (256 : Nat) ^ 8 = 18446744073709551616 := by decide
  have e3 : shl .u64 (b : Int) ((8 * i : Nat) : Int) = ((b * 256 ^ i : Nat) : Int) := by
    unfold shl
    rw [Int.toNat_natCast, show IntKind.u64.bits = 64 from rfl, Nat.min_eq_left (by omega), show ((b : Int) * 2 ^ (8 * i)) = ((b * 2 ^ (8 * i) : Nat) : Int) by push_cast; rfl, ← hp, IntKind.wrap_u64]
    omega
  rw [e1, e2, e3, bits_or_u64_nat x (b * 256 ^ i) (by omega) (by omega)]
  have h2 : b * 256 ^ i = 2 ^ (8 * i) * b := by rw [hp, Nat.mul_comm]
  rw [h2, Nat.or_comm, ← Nat.two_pow_add_eq_or_of_lt (by rw [← hp]; exact hx) b, hp]
  congr 1
  omega
theorem read_from (s : ByteArray) (hs : s.size ≤ 8) : ∀ (n i K : Nat), i + n = s.size → wire_read.l0 (K + n + 1) s (leN (s.data.toList.take i) : Int) (s.size : Int) (i : Int) = some (leN s.data.toList : Int)
  | 0, i, K, e => by
    unfold wire_read.l0
    rw [if_neg (by omega), List.take_of_length_le (by rw [Array.length_toList]; show s.size ≤ i; omega)]
  | n + 1, i, K, e => by
    have hi : i < s.size := by omega
    have hil : i < s.data.toList.length := by rw [Array.length_toList]; exact hi
    unfold wire_read.l0
    have e2 : wrap64 (8 * (i : Int)) = ((8 * i : Nat) : Int) := by unfold wrap64; omega
    rw [if_pos (by omega), if_pos (by omega), if_pos (by omega), if_pos (by rw [e2]; omega), bt_val s i hi, read_step _ _ i (by omega) (Nat.lt_of_lt_of_le (leN_lt _) (Nat.pow_le_pow_right (by decide) (by rw [List.length_take]; omega))) (UInt8.toNat_lt _), show wrap64 ((i : Int) + 1) = ((i + 1 : Nat) : Int) by unfold wrap64; omega]
    have h3 : leN (s.data.toList.take i) + 256 ^ i * (s.data.toList[i]'hil).toNat = leN (s.data.toList.take (i + 1)) := by
      rw [List.take_succ_eq_append_getElem hil, leN_snoc, List.length_take, Nat.min_eq_left (by omega)]
    rw [h3]
    exact read_from s hs n (i + 1) K (by omega)
theorem read_f (s : ByteArray) (hs : s.size ≤ 8) (k : Nat) (hk : s.size + 1 ≤ k) : wire_read.f k s = some (leN s.data.toList : Int) := by
  obtain ⟨K, rfl⟩ : ∃ K, k = K + s.size + 1 := ⟨k - (s.size + 1), by omega⟩
  unfold wire_read.f
  have := read_from s hs s.size 0 K (by omega)
  rw [List.take_zero] at this
  exact this
end Go.Proofs.Ytipahpkdddijmaa.Q

-- F1
namespace Go.Proofs.Ytipahpkdddijmaa.Q
open Go.WideMaps Go.RowKit Go.Proofs.YtipahpkdddijmaaW.PrintWords Go.Proofs.YtipahpkdddijmaaW.PrintLast Go.Proofs.YtipahpkdddijmaaW.PrintMore Go.Maps
set_option linter.unusedVariables false
set_option linter.unusedSimpArgs false

/-! ### wire.count, wire.TakeText -/
/-- What a length's two octets say: (length, rest, error). -/
def countW (s : ByteArray) : Int × ByteArray × Int :=
  if s.size < 2 then (0, ⟨#[]⟩, 3) else if 4000 < leN (s.extract 0 2).data.toList then (0, ⟨#[]⟩, 2) else ((leN (s.extract 0 2).data.toList : Int), s.extract 2 s.size, 0)
theorem size_two (s : ByteArray) (h : 2 ≤ s.size) : (s.extract 0 2).size = 2 := by rw [ByteArray.size_extract]; omega
theorem leN_two (s : ByteArray) : leN (s.extract 0 2).data.toList < 65536 := by
  have h := leN_lt (s.extract 0 2).data.toList
  have h2 : (s.extract 0 2).data.toList.length ≤ 2 := by
    rw [Array.length_toList]
    show (s.extract 0 2).size ≤ 2
    rw [ByteArray.size_extract]
    omega
  exact Nat.lt_of_lt_of_le h (Nat.le_trans (Nat.pow_le_pow_right (by decide) h2) (by decide))
theorem count_w (s : ByteArray) (k : Nat) (hk : 9 ≤ k) : wire_count.f k s = some (countW s) := by
  unfold wire_count.f wire_cut.f countW
  by_cases h : s.size < 2
  · rw [if_pos (by omega), if_pos h, Option.bind_some]
    simp only
    rw [read_f ⟨#[]⟩ (by decide) k (by show 0 + 1 ≤ k; omega), Option.bind_some, if_neg (by decide)]
  · rw [if_neg (by omega), if_pos (by omega), if_pos (by omega), if_neg h, Option.bind_some]
    simp only
    have h2 := leN_two s
    have hs := size_two s (by omega)
    have e : wrap64 ((leN (s.extract 0 2).data.toList : Nat) : Int) = (leN (s.extract 0 2).data.toList : Int) := by unfold wrap64; omega
    rw [show ((2 : Int)).toNat = 2 from rfl, read_f _ (by omega) k (by omega), Option.bind_some, if_pos trivial, e]
    by_cases h3 : 4000 < leN (s.extract 0 2).data.toList
    · rw [if_pos (by omega), if_pos h3]
    · rw [if_neg (by omega), if_neg h3]
def cutW (s : ByteArray) (n : Int) : ByteArray × ByteArray × Int := if (s.size : Int) < n then (⟨#[]⟩, ⟨#[]⟩, 3) else (s.extract 0 n.toNat, s.extract n.toNat s.size, 0)
/-- A text taken: (text, rest, error). -/
def takeW (s : ByteArray) : ByteArray × ByteArray × Int :=
  if (countW s).2.2 = 0 then cutW (countW s).2.1 (countW s).1 else (⟨#[]⟩, ⟨#[]⟩, (countW s).2.2)
theorem countW_pos (s : ByteArray) : 0 ≤ (countW s).1 := by
  unfold countW
  split
  · exact Int.le_refl _
  · split
    · exact Int.le_refl _
    · exact Int.natCast_nonneg _
theorem cut_w (s : ByteArray) (n : Int) (h : 0 ≤ n) : wire_cut.f s n = some (cutW s n) := by
  unfold wire_cut.f cutW
  by_cases h1 : (s.size : Int) < n
  · rw [if_pos h1, if_pos h1]
  · rw [if_neg h1, if_neg h1, if_pos h, if_pos (by omega)]
set_option maxHeartbeats 2000000 in
set_option maxRecDepth 100000 in
theorem takeText.walk (s : ByteArray) (w : World) : Calls Try.prog 70 #[.string s] w fun e w' => e = .returned (.tuple #[.string (takeW s).1, .string (takeW s).2.1, .int .i64 (takeW s).2.2]) ∧ Below w.heap.size w w' := by
  have HC1 := fun W => wire_count.calls 9 s (countW s).1 (countW s).2.1 (countW s).2.2 W (count_w s 9 (Nat.le_refl _))
  have HB0 : Hid (Below w.heap.size w w) := Below.refl _ _
  have hp := countW_pos s
  unfold takeW
  generalize countW s = c at *
  obtain ⟨n, r, e⟩ := c
  simp only at hp HC1 ⊢
  have HC2 := fun W => wire_cut.calls r n (cutW r n).1 (cutW r n).2.1 (cutW r n).2.2 W (cut_w r n hp)
  generalize hq : cutW r n = q at *
  obtain ⟨q1, q2, q3⟩ := q
  simp only at HC2
  clear hq hp
  by_cases he : e = 0
  · subst he
    rw [if_pos rfl]
    go_enter Try.func70, Try.ntmps70
    go_wp2_with (first | (go_at_call 68; go_must (refine (HC1 _).mono ?_; rintro e w1 ⟨rfl, hd⟩; have HB1 := keepB HB0 hd.below; clear hd)) | (go_at_call 59; go_must (refine (HC2 _).mono ?_; rintro e w2 ⟨rfl, hd⟩; have HB2 := keepB HB1 hd.below; clear hd)))
    go_ret3
    exact ⟨rfl, HB2.out⟩
  · rw [if_neg he]
    go_enter Try.func70, Try.ntmps70
    go_wp2_with (go_at_call 68; go_must (refine (HC1 _).mono ?_; rintro e w1 ⟨rfl, hd⟩; have HB1 := keepB HB0 hd.below; clear hd))
    go_ret3
    exact ⟨rfl, HB1.out⟩
end Go.Proofs.Ytipahpkdddijmaa.Q

-- F2
namespace Go.Proofs.Ytipahpkdddijmaa.Q
open Go.WideMaps Go.RowKit Go.Proofs.YtipahpkdddijmaaW.PrintWords Go.Proofs.YtipahpkdddijmaaW.PrintLast Go.Proofs.YtipahpkdddijmaaW.PrintMore Go.Maps
set_option linter.unusedVariables false
set_option linter.unusedSimpArgs false

/-! ### the closure of wire.TakeList -/
theorem info_size24 : (Try.prog.info? 24).map (·.size) = some 1 := by kernel_rfl
theorem info_size59 : (Try.prog.info? 59).map (·.size) = some 1 := by kernel_rfl
theorem storeC {t : TypeId} (hsz : (Try.prog.info? t).map (·.size) = some 1) {ops : Array Oper} {rest : List Oper} {o : Oper} {a : Act} {Q : Exit → Act → World → Prop} {W : World} (hN : o.dst = none) (hgd : o.guard = none) (p x : Operand) (ho : o.op = .store t p x) (g : Nat) (c0 v : Value)
    (haddr : a.eval p = .pointer (some ⟨g, 0, none⟩)) (hx : a.eval x = v) (hv : v.cells.toList = [v]) (hv1 : v.oneCell' = true) (hb : W.heap[g]? = some (.cells #[c0] t (0, 0)))
    (h : ∀ w1, w1.heap[g]? = some (.cells #[v] t (0, 0)) → (∀ k, k ≠ g → w1.heap[k]? = W.heap[k]?) → w1.heap.size = W.heap.size → (∀ B, B ≤ g → Below B W w1) → wpList Try.prog ops Q rest a w1) : wpList Try.prog ops Q (o :: rest) a W := by
  refine wpList_plain hgd fun K hK => ?_
  have hrun := run_store_run (P := Try.prog) (w := W) (g := g) (o := 0) (e := t) (cur := #[c0]) t v [v] hb hv hsz (by show 0 + 1 ≤ 1; decide) (by intro u hu; simp at hu; subst hu; exact hv1)
  unfold Oper.wp execOp
  simp only [ho, haddr, hx, Sem.run_bind, Sem.run_pure, Result.andThen_ok, hrun]
  show K (a.put o.dst undef) _
  rw [hN]
  exact hK _ _ (h _ (blk_set hb 0 v) (fun k hk => RowKit.Below.heap_setCell _ _ _ _ hk) (World.size_setCell _ _ _) (fun B hB => (Below.refl B W).setCell (p := ⟨g, 0, none⟩) hB _))
theorem Kd.R_cells {α : Type} {d : Kd α} {e : TypeId} {W : World} {base : Nat} {ok : Nat → Prop} {v : Value} {xs : List α} (h : Kd.R d e W base ok v xs) : v.cells.toList = [v] := by
  obtain ⟨A, c, rfl⟩ := Kd.R_slice h
  rfl
theorem Kd.R_one {α : Type} {d : Kd α} {e : TypeId} {W : World} {base : Nat} {ok : Nat → Prop} {v : Value} {xs : List α} (h : Kd.R d e W base ok v xs) : v.oneCell' = true := by
  obtain ⟨A, c, rfl⟩ := Kd.R_slice h
  rfl
set_option maxHeartbeats 2000000 in
set_option maxRecDepth 100000 in
theorem closure69.walk (gr ge go B : Nat) (rest : ByteArray) (e0 : Int) (v : Value) (out : List ByteArray) (W : World) (h12 : gr < ge) (h23 : ge < go) (h3 : go < B) (hBW : B ≤ W.heap.size)
    (hr : W.heap[gr]? = some (.cells #[.string rest] 9 (0, 0))) (he : W.heap[ge]? = some (.cells #[.int .i64 e0] 24 (0, 0))) (ho : W.heap[go]? = some (.cells #[v] 59 (0, 0))) (hR : Kd.R Kd.string 9 W B (fun k => B ≤ k) v out) (hl : out.length ≤ 100000) :
    Calls Try.prog 69 #[.pointer (some ⟨gr, 0, none⟩), .pointer (some ⟨ge, 0, none⟩), .pointer (some ⟨go, 0, none⟩)] W fun e w' => ∃ v', e = .returned (.tuple #[]) ∧ w'.heap[gr]? = some (.cells #[.string (takeW rest).2.1] 9 (0, 0)) ∧ w'.heap[ge]? = some (.cells #[.int .i64 (takeW rest).2.2] 24 (0, 0)) ∧
      w'.heap[go]? = some (.cells #[v'] 59 (0, 0)) ∧ Kd.R Kd.string 9 w' B (fun k => B ≤ k) v' (if (takeW rest).2.2 = 0 then out ++ [(takeW rest).1] else out) ∧ (∀ B', B' ≤ gr → Below B' W w') := by
  have KR := Lib.hid hr
  have KE := Lib.hid he
  have KO := Lib.hid ho
  have HR := Lib.hid hR
  have HL := Lib.hid hl
  have H12 := Lib.hid h12
  have H23 := Lib.hid h23
  have H3 := Lib.hid h3
  have HBW := Lib.hid hBW
  have x0 := (blk_cell hr 0).trans (rfl : _ = some (Value.string rest))
  clear hr he ho hR hl h12 h23 h3 hBW
  generalize hq : takeW rest = q
  have HQ := Lib.hid hq
  clear hq
  obtain ⟨q1, q2, q3⟩ := q
  simp only
  by_cases hz : q3 = 0
  · subst hz
    rw [if_pos rfl]
    go_enter Try.func69, Try.ntmps69
    go_wp2_with (first | (go_at_call 70; go_must (refine (takeText.walk rest _).mono ?_; rintro e w1 ⟨rfl, hb⟩; have KR1 := Lib.hid (blk_below KR.out hb); have KE1 := Lib.hid (blk_below KE.out hb); have KO1 := Lib.hid (blk_below KO.out hb); have HR1 := Lib.hid (Kd.R_below HR.out hb); have HL1 := Lib.hid hb; have HS1 := Lib.hid (Nat.le_trans HBW.out hb.size); rw [HQ.out]; clear hb)) | ((with_reducible refine gate_ (.store 9 (.tmp 0) (.tmp 8)) rfl ?_); go_must (refine storeC info_size9 rfl rfl (.tmp 0) (.tmp 8) rfl gr _ (.string q2) rfl rfl rfl rfl KR1.out ?_; intro w2 hk ho hz hb; have KR2 := Lib.hid hk; have KE2 := Lib.hid ((ho _ (Nat.ne_of_gt H12.out)).trans KE1.out); have KO2 := Lib.hid ((ho _ (Nat.ne_of_gt (Nat.lt_trans H12.out H23.out))).trans KO1.out); have HR2 := Lib.hid (Kd.R_step HR1.out (fun k hk _ => ho k (by have := H12.out; have := H23.out; have := H3.out; omega))); have HL2 : Hid (∀ B', B' ≤ gr → Below B' W w2) := fun B' hB' => (HL1.out.mono (Nat.le_trans hB' (Nat.le_of_lt (Nat.lt_of_lt_of_le (Nat.lt_trans (Nat.lt_trans H12.out H23.out) H3.out) HBW.out)))).trans (hb B' hB'); have HS2 : Hid (B ≤ w2.heap.size) := (by unfold Hid; rw [hz]; exact HS1.out); clear hk ho hz hb)) | ((with_reducible refine gate_ (.store 24 (.tmp 1) (.tmp 9)) rfl ?_); go_must (refine storeC info_size24 rfl rfl (.tmp 1) (.tmp 9) rfl ge _ (.int .i64 0) rfl rfl rfl rfl KE2.out ?_; intro w3 hk ho hz hb; have KE3 := Lib.hid hk; have KR3 := Lib.hid ((ho _ (Nat.ne_of_lt H12.out)).trans KR2.out); have KO3 := Lib.hid ((ho _ (Nat.ne_of_gt H23.out)).trans KO2.out); have HR3 := Lib.hid (Kd.R_step HR2.out (fun k hk _ => ho k (by have := H23.out; have := H3.out; omega))); have HL3 : Hid (∀ B', B' ≤ gr → Below B' W w3) := fun B' hB' => (HL2.out B' hB').trans (hb B' (Nat.le_trans hB' (Nat.le_of_lt H12.out))); have HS3 : Hid (B ≤ w3.heap.size) := (by unfold Hid; rw [hz]; exact HS2.out); have x1 := (blk_cell KE3.out 0).trans (rfl : _ = some (Value.int .i64 0)); have x2 := (blk_cell KO3.out 0).trans (rfl : _ = some v); clear hk ho hz hb)) | ((with_reducible refine gate_builtin (b := .append) (xs := #[.tmp 12, .tmp 14]) rfl ?_); at_builtin; go_must (refine Kd.R_append Kd.string (w0 := w3) B rfl (.tmp 12) (.tmp 14) 59 9 (.string ⟨#[]⟩) 16 rfl Try.underlying59 info9 rfl (by decide) (by decide) v out q1 [.string q1] (fun k => B ≤ k) (fun _ => False) rfl rfl rfl (fun _ hk => hk.elim) (fun k hk => Nat.le_trans HS3.out hk) HR3.out (Below.refl _ _) HS3.out (by have := HL.out; omega) ?_; intro v4 w4 ho hb hg hat; have HR4 := Lib.hid ho; have KE4 := Lib.hid ((hb.block _ (Nat.lt_trans H23.out H3.out)).trans KE3.out); have KR4 := Lib.hid ((hb.block _ (Nat.lt_trans (Nat.lt_trans H12.out H23.out) H3.out)).trans KR3.out); have KO4 := Lib.hid ((hb.block _ H3.out).trans KO3.out); have HL4 : Hid (∀ B', B' ≤ gr → Below B' W w4) := fun B' hB' => (HL3.out B' hB').trans (hb.mono (Nat.le_trans hB' (Nat.le_of_lt (Nat.lt_trans (Nat.lt_trans H12.out H23.out) H3.out)))); clear ho hb hg hat)) | ((with_reducible refine gate_ (.store 59 (.tmp 2) (.tmp 15)) rfl ?_); go_must (refine storeC info_size59 rfl rfl (.tmp 2) (.tmp 15) rfl go _ v4 rfl rfl (Kd.R_cells HR4.out) (Kd.R_one HR4.out) KO4.out ?_; intro w5 hk ho hz hb; have KO5 := Lib.hid hk; have KR5 := Lib.hid ((ho _ (Nat.ne_of_lt (Nat.lt_trans H12.out H23.out))).trans KR4.out); have KE5 := Lib.hid ((ho _ (Nat.ne_of_lt H23.out)).trans KE4.out); have HR5 := Lib.hid (Kd.R_step HR4.out (fun k hk _ => ho k (by have := H3.out; omega))); have HL5 : Hid (∀ B', B' ≤ gr → Below B' W w5) := fun B' hB' => (HL4.out B' hB').trans (hb B' (Nat.le_trans hB' (Nat.le_of_lt (Nat.lt_trans H12.out H23.out)))); clear hk ho hz hb)))
    go_end0
    first | exact ⟨v4, rfl, KR5.out, KE5.out, KO5.out, HR5.out, HL5.out⟩ | exact ⟨rfl, KR5.out, KE5.out, v4, KO5.out, HR5.out, HL5.out⟩ | exact ⟨rfl, KR5.out, KE5.out, ⟨v4, KO5.out, HR5.out⟩, HL5.out⟩
  · rw [if_neg hz]
    go_enter Try.func69, Try.ntmps69
    go_wp2_with (first | (go_at_call 70; go_must (refine (takeText.walk rest _).mono ?_; rintro e w1 ⟨rfl, hb⟩; have KR1 := Lib.hid (blk_below KR.out hb); have KE1 := Lib.hid (blk_below KE.out hb); have KO1 := Lib.hid (blk_below KO.out hb); have HR1 := Lib.hid (Kd.R_below HR.out hb); have HL1 := Lib.hid hb; have HS1 := Lib.hid (Nat.le_trans HBW.out hb.size); rw [HQ.out]; clear hb)) | ((with_reducible refine gate_ (.store 9 (.tmp 0) (.tmp 8)) rfl ?_); go_must (refine storeC info_size9 rfl rfl (.tmp 0) (.tmp 8) rfl gr _ (.string q2) rfl rfl rfl rfl KR1.out ?_; intro w2 hk ho hz hb; have KR2 := Lib.hid hk; have KE2 := Lib.hid ((ho _ (Nat.ne_of_gt H12.out)).trans KE1.out); have KO2 := Lib.hid ((ho _ (Nat.ne_of_gt (Nat.lt_trans H12.out H23.out))).trans KO1.out); have HR2 := Lib.hid (Kd.R_step HR1.out (fun k hk _ => ho k (by have := H12.out; have := H23.out; have := H3.out; omega))); have HL2 : Hid (∀ B', B' ≤ gr → Below B' W w2) := fun B' hB' => (HL1.out.mono (Nat.le_trans hB' (Nat.le_of_lt (Nat.lt_of_lt_of_le (Nat.lt_trans (Nat.lt_trans H12.out H23.out) H3.out) HBW.out)))).trans (hb B' hB'); have HS2 : Hid (B ≤ w2.heap.size) := (by unfold Hid; rw [hz]; exact HS1.out); clear hk ho hz hb)) | ((with_reducible refine gate_ (.store 24 (.tmp 1) (.tmp 9)) rfl ?_); go_must (refine storeC info_size24 rfl rfl (.tmp 1) (.tmp 9) rfl ge _ (.int .i64 q3) rfl rfl rfl rfl KE2.out ?_; intro w3 hk ho hz hb; have KE3 := Lib.hid hk; have KR3 := Lib.hid ((ho _ (Nat.ne_of_lt H12.out)).trans KR2.out); have KO3 := Lib.hid ((ho _ (Nat.ne_of_gt H23.out)).trans KO2.out); have HR3 := Lib.hid (Kd.R_step HR2.out (fun k hk _ => ho k (by have := H23.out; have := H3.out; omega))); have HL3 : Hid (∀ B', B' ≤ gr → Below B' W w3) := fun B' hB' => (HL2.out B' hB').trans (hb B' (Nat.le_trans hB' (Nat.le_of_lt H12.out))); have HS3 : Hid (B ≤ w3.heap.size) := (by unfold Hid; rw [hz]; exact HS2.out); have x1 := (blk_cell KE3.out 0).trans (rfl : _ = some (Value.int .i64 q3)); have x2 := (blk_cell KO3.out 0).trans (rfl : _ = some v); clear hk ho hz hb)))
    go_end0
    first | exact ⟨v, rfl, KR3.out, KE3.out, KO3.out, HR3.out, HL3.out⟩ | exact ⟨rfl, KR3.out, KE3.out, v, KO3.out, HR3.out, HL3.out⟩ | exact ⟨rfl, KR3.out, KE3.out, ⟨v, KO3.out, HR3.out⟩, HL3.out⟩
end Go.Proofs.Ytipahpkdddijmaa.Q

-- F3
namespace Go.Proofs.Ytipahpkdddijmaa.Q
open Go.WideMaps Go.RowKit Go.Proofs.YtipahpkdddijmaaW.PrintWords Go.Proofs.YtipahpkdddijmaaW.PrintLast Go.Proofs.YtipahpkdddijmaaW.PrintMore Go.Maps
set_option linter.unusedVariables false
set_option linter.unusedSimpArgs false

/-! ### wire.TakeList -/
def takeLoop : Nat → ByteArray → List ByteArray → ByteArray × Int × List ByteArray
  | 0, rest, out => (rest, 0, out)
  | n + 1, rest, out => if (takeW rest).2.2 = 0 then takeLoop n (takeW rest).2.1 (out ++ [(takeW rest).1]) else ((takeW rest).2.1, (takeW rest).2.2, out)
def finT (n : Nat) (rest : ByteArray) (e : Int) (out : List ByteArray) : ByteArray × Int × List ByteArray := if e = 0 then takeLoop n rest out else (rest, e, out)
def outT (r : ByteArray × Int × List ByteArray) : List ByteArray × ByteArray × Int := if r.2.1 = 0 then (r.2.2, r.1, 0) else ([], ⟨#[]⟩, r.2.1)
def takeListW (s : ByteArray) : List ByteArray × ByteArray × Int := outT (finT (countW s).1.toNat (countW s).2.1 (countW s).2.2 [])
theorem countW_le (s : ByteArray) : (countW s).1 ≤ 4000 := by
  unfold countW
  split
  · decide
  · split
    · decide
    · simp only; omega
theorem finT_step (n : Nat) (rest : ByteArray) (out : List ByteArray) : finT (n + 1) rest 0 out = finT n (takeW rest).2.1 (takeW rest).2.2 (if (takeW rest).2.2 = 0 then out ++ [(takeW rest).1] else out) := by
  unfold finT
  rw [if_pos rfl, takeLoop]
  split <;> rfl
set_option maxHeartbeats 2000000 in
set_option maxRecDepth 100000 in
theorem takeList.walk (s : ByteArray) (w : World) : Calls Try.prog 57 #[.string s] w fun e w' => ∃ v, e = .returned (.tuple #[v, .string (takeListW s).2.1, .int .i64 (takeListW s).2.2]) ∧ Kd.R Kd.string 9 w' w.heap.size (fun _ => True) v (takeListW s).1 ∧ Below w.heap.size w w' := by
  have HC1 := fun W => wire_count.calls 9 s (countW s).1 (countW s).2.1 (countW s).2.2 W (count_w s 9 (Nat.le_refl _))
  have HB0 : Hid (Below w.heap.size w w) := Below.refl _ _
  have hp := countW_pos s
  have hl := countW_le s
  unfold takeListW
  generalize countW s = c at *
  obtain ⟨n0, r0, c0⟩ := c
  simp only at hp hl HC1 ⊢
  generalize hF : finT n0.toNat r0 c0 [] = F
  have HF := Lib.hid hF
  have HP := Lib.hid hp
  have HLn := Lib.hid hl
  clear hF hp hl
  go_enter Try.func57, Try.ntmps57
  go_wp2_with (first | (go_at_call 68; go_must (refine (HC1 _).mono ?_; rintro e w1 ⟨rfl, hd⟩; have HB1 := keepB HB0 hd.below; clear hd)) | ((with_reducible refine gate_dst (N := 6) rfl ?_); go_must (refine box_event ?hg (N := 6) ?hd (cs := #[.string (⟨#[]⟩ : ByteArray)]) (t := 9) ?hr ?_; (case hd => rfl); (case hg => rfl); (case hr => first | (go_simp; done) | (go_simp; rfl)); intro g6 e6 w2 hk hb; have K6 := Lib.hid hk; have HB2 := keepB HB1 hb; have G6 : Hid (w.heap.size ≤ g6) := (by unfold Hid; rw [e6]; exact HB1.out.size); clear e6 hk hb)) | ((with_reducible refine gate_dst (N := 7) rfl ?_); go_must (refine box_event ?hg (N := 7) ?hd (cs := #[.int .i64 0]) (t := 24) ?hr ?_; (case hd => rfl); (case hg => rfl); (case hr => first | (go_simp; done) | (go_simp; rfl)); intro g7 e7 w3 hk hb; have K7 := Lib.hid hk; have K6b := Lib.hid (blk_below K6.out hb); have G67 : Hid (g6 < g7) := (by unfold Hid; rw [e7]; exact blk_lt K6.out); have HB3 := keepB HB2 hb; clear e7 hk hb)) | ((with_reducible refine gate_ (.store 9 (.tmp 6) (.tmp 14)) rfl ?_); go_must (refine storeC info_size9 rfl rfl (.tmp 6) (.tmp 14) rfl g6 _ (.string r0) rfl rfl rfl rfl K6b.out ?_; intro w4 hk ho hz hb; have K6c := Lib.hid hk; have K7c := Lib.hid ((ho _ (Nat.ne_of_gt G67.out)).trans K7.out); have HB4 := Lib.hid (HB3.out.trans (hb _ G6.out)); clear hk ho hz hb)) | ((with_reducible refine gate_ (.store 24 (.tmp 7) (.tmp 15)) rfl ?_); go_must (refine storeC info_size24 rfl rfl (.tmp 7) (.tmp 15) rfl g7 _ (.int .i64 c0) rfl rfl rfl rfl K7c.out ?_; intro w5 hk ho hz hb; have K7d := Lib.hid hk; have K6d := Lib.hid ((ho _ (Nat.ne_of_lt G67.out)).trans K6c.out); have HB5 := Lib.hid (HB4.out.trans (hb _ (Nat.le_of_lt (Nat.lt_of_le_of_lt G6.out G67.out)))); clear hk ho hz hb)) | ((with_reducible refine gate_dst (N := 8) rfl ?_); go_must (refine box_event ?hg (N := 8) ?hd (cs := #[.slice none 0 0]) (t := 59) ?hr ?_; (case hd => rfl); (case hg => rfl); (case hr => first | (go_simp; done) | (go_simp; rfl)); intro g8 e8 w6 hk hb; have K8 := Lib.hid hk; have K6e := Lib.hid (blk_below K6d.out hb); have K7e := Lib.hid (blk_below K7d.out hb); have G78 : Hid (g7 < g8) := (by unfold Hid; rw [e8]; exact blk_lt K7d.out); have HB6 := keepB HB5 hb; have G8 := Lib.hid (blk_lt K8.out); clear e8 hk hb)))
  go_loopw [5] (fun v5 wr => ∃ (n : Nat) (rest : ByteArray) (er : Int) (v : Value) (out : List ByteArray), v5 = .int .i64 n ∧ n + out.length ≤ 4000 ∧ Hid (wr.heap[g6]? = some (.cells #[.string rest] 9 (0, 0))) ∧ Hid (wr.heap[g7]? = some (.cells #[.int .i64 er] 24 (0, 0))) ∧
    Hid (wr.heap[g8]? = some (.cells #[v] 59 (0, 0))) ∧ Hid (Kd.R Kd.string 9 wr w6.heap.size (fun k => w6.heap.size ≤ k) v out) ∧ Hid (Below w.heap.size w wr) ∧ Hid (finT n rest er out = F) ∧ Hid (w6.heap.size ≤ wr.heap.size)) (fun v5 _ => (intOf v5).toNat)
  case atStart => exact ⟨n0.toNat, r0, c0, .slice none 0 0, [], by have := HP.out; simp; omega, by have := HLn.out; have := HP.out; simp; omega, K6e, K7e, K8, Kd.R_nil _ _ _ _ _, HB6, HF, Nat.le_refl _⟩
  case round =>
    obtain ⟨n, rest, er, v, out, rfl, hn, KA, KB, KC, HR, HB, HFN, HSZ⟩ := hrel
    have d1 := (blk_cell KB.out 0).trans (rfl : _ = some (Value.int .i64 er))
    have d0 := (blk_cell KA.out 0).trans (rfl : _ = some (Value.string rest))
    have d2 := (blk_cell KC.out 0).trans (rfl : _ = some v)
    by_cases he : er = 0
    · subst he
      cases n with
      | zero =>
        have HX : Hid ((rest, 0, out) = F) := by have := HFN.out; unfold Hid; unfold finT at this; rw [if_pos rfl] at this; exact this
        have hF := HX.out
        subst hF
        go_wp2
        go_region
        go_wp2
        go_ret3
        rw [show outT (rest, 0, out) = (out, rest, 0) from if_pos rfl]
        first
          | exact ⟨v, rfl, Kd.R_mono (Kd.R_lower (Kd.R_drew HR.out) (Nat.le_trans HB6.out.size (Nat.le_refl _))) (fun _ _ => trivial), below_drew1 HB.out⟩
          | exact ⟨v, rfl, Kd.R_mono (Kd.R_lower HR.out HB6.out.size) (fun _ _ => trivial), HB.out⟩
      | succ n =>
        have HX := Lib.hid (finT_step n rest out)
        have p0 : (0 : Int) < ((n + 1 : Nat) : Int) := by omega
        have hbig : ((n + 1 : Nat) : Int) ≤ 9223372036854775807 := by omega
        go_wp2_with (go_at_call 69; go_must (refine (closure69.walk g6 g7 g8 w6.heap.size rest 0 v out _ G67.out G78.out G8.out HSZ.out KA.out KB.out KC.out HR.out (by omega)).mono ?_; rintro e w7 ⟨v', rfl, ka, kb, kc, hr, hb⟩; have KA7 := Lib.hid ka; have KB7 := Lib.hid kb; have KC7 := Lib.hid kc; have HR7 := Lib.hid hr; have HB7 := Lib.hid (HB.out.trans (hb _ G6.out)); have HS7 := Lib.hid (Nat.le_trans HSZ.out (hb _ G6.out).size); clear ka kb kc hr hb))
        go_roundw
        case rel => exact ⟨n, _, _, v', _, by go_num, by split <;> (first | (rw [List.length_append, List.length_singleton]; omega) | omega), KA7, KB7, KC7, HR7, HB7, by unfold Hid; rw [← HX.out]; exact HFN.out, HS7⟩
        case measure => simp [intOf]
    · have HX : Hid ((rest, er, out) = F) := by have := HFN.out; unfold Hid; unfold finT at this; rw [if_neg he] at this; exact this
      have hF := HX.out
      subst hF
      cases n with
      | zero =>
        go_wp2
        go_region
        go_wp2
        go_ret3
        rw [show outT (rest, er, out) = ([], ⟨#[]⟩, er) from if_neg he]
        first
          | exact ⟨_, rfl, Kd.R_nil _ _ _ _ _, below_drew1 HB.out⟩
          | exact ⟨_, rfl, Kd.R_nil _ _ _ _ _, HB.out⟩
      | succ n =>
        have p0 : (0 : Int) < ((n + 1 : Nat) : Int) := by omega
        go_wp2
        go_region
        go_wp2
        go_ret3
        rw [show outT (rest, er, out) = ([], ⟨#[]⟩, er) from if_neg he]
        first
          | exact ⟨_, rfl, Kd.R_nil _ _ _ _ _, below_drew1 HB.out⟩
          | exact ⟨_, rfl, Kd.R_nil _ _ _ _ _, HB.out⟩
end Go.Proofs.Ytipahpkdddijmaa.Q

-- F4
namespace Go.Proofs.Ytipahpkdddijmaa.Q
open Go.WideMaps Go.RowKit Go.Proofs.YtipahpkdddijmaaW.PrintWords Go.Proofs.YtipahpkdddijmaaW.PrintLast Go.Proofs.YtipahpkdddijmaaW.PrintMore Go.Maps
set_option linter.unusedVariables false
set_option linter.unusedSimpArgs false

/-! ### wire.Whole -/
def wholeW (s : ByteArray) : List ByteArray × Int :=
  if (takeListW s).2.2 = 0 then (if (takeListW s).2.1.toList.isEmpty = true then ((takeListW s).1, 0) else ([], 2)) else ([], (takeListW s).2.2)
set_option maxHeartbeats 2000000 in
set_option maxRecDepth 100000 in
theorem whole.walk (s : ByteArray) (w : World) : Calls Try.prog 34 #[.string s] w fun e w' => ∃ v, e = .returned (.tuple #[v, .int .i64 (wholeW s).2]) ∧ Kd.R Kd.string 9 w' w.heap.size (fun _ => True) v (wholeW s).1 ∧ Below w.heap.size w w' := by
  have HC := Lib.hid (takeList.walk s)
  have HB0 : Hid (Below w.heap.size w w) := Below.refl _ _
  unfold wholeW
  generalize takeListW s = t at *
  obtain ⟨l, r, e⟩ := t
  simp only
  by_cases he : e = 0
  · subst he
    rw [if_pos rfl]
    cases hr : r.toList.isEmpty
    · rw [if_neg (by decide)]
      go_enter Try.func34, Try.ntmps34
      go_wp2_with (go_at_call 57; go_must (refine (HC.out _).mono ?_; rintro e w1 ⟨v, rfl, ho, hb⟩; have HO := Lib.hid ho; have HB := Lib.hid hb; clear ho hb))
      go_ret2
      exact ⟨_, rfl, Kd.R_nil _ _ _ _ _, HB.out⟩
    · rw [if_pos rfl]
      go_enter Try.func34, Try.ntmps34
      go_wp2_with (go_at_call 57; go_must (refine (HC.out _).mono ?_; rintro e w1 ⟨v, rfl, ho, hb⟩; have HO := Lib.hid ho; have HB := Lib.hid hb; clear ho hb))
      go_ret2
      exact ⟨_, rfl, HO.out, HB.out⟩
  · rw [if_neg he]
    go_enter Try.func34, Try.ntmps34
    go_wp2_with (go_at_call 57; go_must (refine (HC.out _).mono ?_; rintro e w1 ⟨v, rfl, ho, hb⟩; have HO := Lib.hid ho; have HB := Lib.hid hb; clear ho hb))
    go_ret2
    exact ⟨_, rfl, Kd.R_nil _ _ _ _ _, HB.out⟩
end Go.Proofs.Ytipahpkdddijmaa.Q

-- F5
namespace Go.Proofs.Ytipahpkdddijmaa.Q
open Go.RowKit Go.Proofs.YtipahpkdddijmaaW.PrintWords Go.Proofs.YtipahpkdddijmaaW.PrintLast Go.Proofs.YtipahpkdddijmaaW.PrintMore
set_option linter.unusedVariables false
set_option linter.unusedSimpArgs false

/-! ### what was laid is taken -/
theorem lay2_le (n : Nat) (h : n < 65536) : leN (lay2B n).data.toList = n := by
  unfold lay2B strOfNums
  simp [leN, shr, show IntKind.u64.bits = 64 from rfl]
  omega
theorem dig_of (n d : Nat) (hd : 0 < d) : ((n : Int) / (d : Int) % 256).toNat % 256 = n / d % 256 := by
  rw [show ((n : Int) / (d : Int)) = ((n / d : Nat) : Int) from rfl]
  omega
theorem mod_step (n d : Nat) : n % d + d * (n / d % 256) = n % (d * 256) := (Nat.mod_mul (x := n) (a := d) (b := 256)).symm
theorem num8_le (n : Nat) (h : n < 18446744073709551616) : leN (num8 n).data.toList = n := by
  have e : leN (num8 n).data.toList = n % 256 + 256 * (n / 256 % 256) + 65536 * (n / 65536 % 256) + 16777216 * (n / 16777216 % 256) + 4294967296 * (n / 4294967296 % 256) + 1099511627776 * (n / 1099511627776 % 256) + 281474976710656 * (n / 281474976710656 % 256) + 72057594037927936 * (n / 72057594037927936 % 256) := by
    have d1 : ((n : Int) / 256 % 256).toNat % 256 = n / 256 % 256 := dig_of n 256 (by decide)
    have d2 : ((n : Int) / 65536 % 256).toNat % 256 = n / 65536 % 256 := dig_of n 65536 (by decide)
    have d3 : ((n : Int) / 16777216 % 256).toNat % 256 = n / 16777216 % 256 := dig_of n 16777216 (by decide)
    have d4 : ((n : Int) / 4294967296 % 256).toNat % 256 = n / 4294967296 % 256 := dig_of n 4294967296 (by decide)
    have d5 : ((n : Int) / 1099511627776 % 256).toNat % 256 = n / 1099511627776 % 256 := dig_of n 1099511627776 (by decide)
    have d6 : ((n : Int) / 281474976710656 % 256).toNat % 256 = n / 281474976710656 % 256 := dig_of n 281474976710656 (by decide)
    have d7 : ((n : Int) / 72057594037927936 % 256).toNat % 256 = n / 72057594037927936 % 256 := dig_of n 72057594037927936 (by decide)
    have d0 : ((n : Int) % 256).toNat % 256 = n % 256 := by omega
    unfold num8 strOfNums
    simp [leN, shr, show IntKind.u64.bits = 64 from rfl]
    generalize ((n : Int) % 256).toNat % 256 = x0 at *
    generalize ((n : Int) / 256 % 256).toNat % 256 = x1 at *
    generalize ((n : Int) / 65536 % 256).toNat % 256 = x2 at *
    generalize ((n : Int) / 16777216 % 256).toNat % 256 = x3 at *
    generalize ((n : Int) / 4294967296 % 256).toNat % 256 = x4 at *
    generalize ((n : Int) / 1099511627776 % 256).toNat % 256 = x5 at *
    generalize ((n : Int) / 281474976710656 % 256).toNat % 256 = x6 at *
    generalize ((n : Int) / 72057594037927936 % 256).toNat % 256 = x7 at *
    rw [← d0, ← d1, ← d2, ← d3, ← d4, ← d5, ← d6, ← d7]
    clear d0 d1 d2 d3 d4 d5 d6 d7 h
    omega
  have m1 := mod_step n 256
  have m2 := mod_step n 65536
  have m3 := mod_step n 16777216
  have m4 := mod_step n 4294967296
  have m5 := mod_step n 1099511627776
  have m6 := mod_step n 281474976710656
  have m7 := mod_step n 72057594037927936
  rw [e, m1, m2, m3, m4, m5, m6, m7]
  exact Nat.mod_eq_of_lt h
theorem ext_list (s : ByteArray) (a b : Nat) : (s.extract a b).data.toList = (s.data.toList.take b).drop a := by
  rw [ByteArray.data_extract, Array.toList_extract, List.extract_eq_take_drop, List.drop_take]
theorem lay2_len (n : Int) : (lay2B n).data.toList.length = 2 := by rw [Array.length_toList]; exact lay2B_size n
theorem size_list (s : ByteArray) : s.data.toList.length = s.size := by rw [Array.length_toList]; rfl
theorem count_laid (s r : ByteArray) (n : Nat) (hn : n ≤ 4000) (h : s.data.toList = (lay2B n).data.toList ++ r.data.toList) : countW s = ((n : Int), r, 0) := by
  have hl : s.size = 2 + r.size := by rw [← size_list, h, List.length_append, lay2_len, size_list]
  have h0 : (s.extract 0 2).data.toList = (lay2B n).data.toList := by
    rw [ext_list, h, List.drop_zero, List.take_left' (lay2_len n)]
  have h1 : s.extract 2 s.size = r := by
    apply bytes_inj
    rw [ext_list, List.take_of_length_le (by rw [size_list]; exact Nat.le_refl _), h, List.drop_left' (lay2_len n)]
  unfold countW
  rw [if_neg (by omega), h0, lay2_le n (by omega), if_neg (by omega), h1]
theorem take_laid (s t r : ByteArray) (ht : t.size ≤ 4000) (h : s.data.toList = textL t ++ r.data.toList) : takeW s = (t, r, 0) := by
  have ht2 : textL t = (lay2B t.size).data.toList ++ t.data.toList := by
    unfold textL textB
    rw [ByteArray.data_append, Array.toList_append]
  have hc : countW s = ((t.size : Int), t ++ r, 0) := count_laid s (t ++ r) t.size ht (by rw [h, ht2, ByteArray.data_append, Array.toList_append, List.append_assoc])
  unfold takeW
  rw [hc]
  simp only
  rw [if_pos trivial]
  unfold cutW
  rw [if_neg (by rw [ByteArray.size_append]; omega), Int.toNat_natCast]
  congr 1
  · apply bytes_inj
    rw [ext_list, List.drop_zero, ByteArray.data_append, Array.toList_append, List.take_left' (size_list t)]
  · congr 1
    apply bytes_inj
    rw [ext_list, List.take_of_length_le (by rw [size_list]; exact Nat.le_refl _), ByteArray.data_append, Array.toList_append, List.drop_left' (size_list t)]
theorem loop_laid : ∀ (ts : List ByteArray) (s : ByteArray) (out : List ByteArray), (∀ t ∈ ts, t.size ≤ 4000) → s.data.toList = ts.flatMap textL → takeLoop ts.length s out = (⟨#[]⟩, 0, out ++ ts)
  | [], s, out, _, h => by
    have : s = ⟨#[]⟩ := bytes_inj (by rw [h]; rfl)
    rw [this, List.append_nil]
    rfl
  | t :: ts, s, out, ht, h => by
    rw [List.flatMap_cons] at h
    have hk := take_laid s t ⟨(ts.flatMap textL).toArray⟩ (ht t List.mem_cons_self) (by rw [h])
    rw [List.length_cons, takeLoop, hk]
    simp only
    rw [if_pos trivial, loop_laid ts _ _ (fun x hx => ht x (List.mem_cons_of_mem _ hx)) rfl, List.append_assoc]
    rfl
theorem whole_laid (ts : List ByteArray) (hl : ts.length ≤ 4000) (ht : ∀ t ∈ ts, t.size ≤ 4000) : wholeW (listB ts) = (ts, 0) := by
  have hc : countW (listB ts) = ((ts.length : Int), ⟨(ts.flatMap textL).toArray⟩, 0) := count_laid _ _ _ hl rfl
  have hL : takeListW (listB ts) = (ts, ⟨#[]⟩, 0) := by
    unfold takeListW
    rw [hc]
    simp only
    unfold finT
    rw [if_pos rfl, Int.toNat_natCast, loop_laid ts _ [] ht rfl]
    unfold outT
    rw [if_pos rfl, List.nil_append]
  unfold wholeW
  rw [hL]
  simp only
  rw [if_pos trivial, if_pos (by rw [Lib.toList_data]; rfl)]
end Go.Proofs.Ytipahpkdddijmaa.Q

-- F6
namespace Go.Proofs.Ytipahpkdddijmaa.Q
open Go.RowKit Go.Shelf
set_option linter.unusedVariables false
set_option linter.unusedSimpArgs false
attribute [local go_sem] Oper.semAt_some

/-! ### slices.Chunk at four strings a chunk -/
theorem fin_take_succ {m k : Nat} (h : k < m) : (List.finRange m).take (k + 1) = (List.finRange m).take k ++ [⟨k, h⟩] := by
  rw [List.take_succ_eq_append_getElem (by simpa using h)]
  simp
set_option maxRecDepth 100000 in
set_option maxHeartbeats 2000000 in
theorem chunk_in (F : Fence) (n : Nat) (h5 : F.fn 35) (hro : F.round = none) (a : Option Addr) (len cap : Nat) (w : World) :
    CallsIn F n Try.prog 35 #[.slice a len cap, .int .i64 4] w fun e w' => e = .returned (.func (.func 58) #[] #[.pointer (some ⟨w.heap.size, 0, none⟩), .pointer (some ⟨w.heap.size + 1, 0, none⟩)]) ∧ w' = (w.alloc (.cells #[.slice a len cap] 59)).alloc (.cells #[.int .i64 4] 3) := by
  refine callsIn_of_wp Try.func35 rfl h5 ?_ hro
  simp only [Try.ntmps35, List.size_toArray, List.length_cons, List.length_nil, Nat.reduceAdd, Nat.reduceSub, Array.replicate_succ, Array.replicate_zero, List.push_toArray, List.append_toArray, List.nil_append, List.cons_append]
  gi_wp2
  go_ret
  exact ⟨rfl, rfl⟩
set_option maxRecDepth 100000 in
set_option maxHeartbeats 2000000 in
theorem chunk1_in (F : Fence) (n : Nat) (h7 : F.fn 58) (hro : F.round = none) (hn : 1 ≤ n) (l Bs Bn b m cap : Nat) (hreach : 4 * m ≤ 100000) (hcap : 4 * m ≤ cap) (hcap2 : cap ≤ 9223372036854775807) (Kp : World → World → Prop) (hK0 : ∀ W, Kp W W) (hKd : ∀ W, Kp W W.drew) (hKt : ∀ {A B C : World}, Kp A B → Kp B C → Kp A C) (hKs : ∀ {A B : World}, Kp A B → B.cell? ⟨Bs, 0, none⟩ = A.cell? ⟨Bs, 0, none⟩ ∧ B.cell? ⟨Bn, 0, none⟩ = A.cell? ⟨Bn, 0, none⟩) (J Jx : List (Fin m) → World → Prop) (hJd : ∀ s W, J s W → J s W.drew)
    (hY : ∀ pre x W, J pre W → pre.length < m → YieldAt F (n - 1) Try.prog l #[.slice (some ⟨b, 4 * x.1, none⟩) 4 4] W fun e W' =>
      (e = .returned (.bool true) ∧ J (pre ++ [x]) W' ∧ Kp W W') ∨ (e = .returned (.bool false) ∧ Jx (pre ++ [x]) W'))
    (W : World) (hBs : W.cell? ⟨Bs, 0, none⟩ = some (.slice (some ⟨b, 0, none⟩) (4 * m) cap)) (hBn : W.cell? ⟨Bn, 0, none⟩ = some (.int .i64 4)) (h0 : J [] W) :
    CallsIn F n Try.prog 58 #[.func (.yield l) #[] #[], .pointer (some ⟨Bs, 0, none⟩), .pointer (some ⟨Bn, 0, none⟩)] W fun e W' => (∃ v, e = .returned v) ∧
      (J (List.finRange m) W' ∨ (∃ pre, (∃ k, k ≤ m ∧ pre = (List.finRange m).take k) ∧ Jx pre W')) := by
  refine callsIn_of_wp Try.func58 rfl h7 ?_ hro
  simp only [Try.ntmps58, List.size_toArray, List.length_cons, List.length_nil, Nat.reduceAdd, Nat.reduceSub, Array.replicate_succ, Array.replicate_zero, List.push_toArray, List.append_toArray, List.nil_append, List.cons_append]
  gi_wp2
  gi_loopw [4] (fun i wr => ∃ k : Nat, k ≤ m ∧ i = .int .i64 ((4 * k : Nat) : Int) ∧ J ((List.finRange m).take k) wr ∧ Kp W wr)
    (fun i _ => 4 * m - (intOf i).toNat)
  case atStart => exact ⟨0, Nat.zero_le _, rfl, h0, hK0 _⟩
  case round =>
    obtain ⟨k, hk, rfl, hJs, hnx⟩ := hrel
    have hc1 := (hKs hnx).1.trans hBs
    have hc2 := (hKs hnx).2.trans hBn
    by_cases hlt : k < m
    · have hmin : min 4 (((4 * m - 4 * k : Nat)) : Int) = 4 := by omega
      have p0 : (0 : Int) ≤ ((4 * k : Nat) : Int) := by omega
      have p1 : ((4 * k : Nat) : Int) < ((4 * m : Nat) : Int) := by omega
      have p2 : ((4 * k : Nat) : Int) ≤ ((4 * m : Nat) : Int) := by omega
      have hbr : Kp wr wr.drew := hKd wr
      gi_wp2
      gi_region
      all_goals
        obtain ⟨fn, tmps, assign, body, hy, hR⟩ := hY _ ⟨k, hlt⟩ wr.drew (hJd _ _ hJs) (by rw [List.length_take, List.length_finRange]; omega)
        dsimp only at hy
        gi_wp2
        refine hR.mono ?_
        rintro e W3 (⟨rfl, hJ3, hk3⟩ | ⟨rfl, hJx3⟩)
        · have hn3 : Kp W W3 := hKt (hKt hnx hbr) hk3
          have hc3 := (hKs hn3).2.trans hBn
          gi_wp2
          go_roundw
          case rel => exact ⟨k + 1, by omega, by first | go_num | (congr 1; omega) | (simp; omega), by rw [fin_take_succ hlt]; exact hJ3, hn3⟩
          case measure => simp [intOf]; omega
        · gi_wp2
          refine bodyPost_ret (results_none rfl _ _ _) rfl ?_
          exact ⟨⟨_, rfl⟩, .inr ⟨_, ⟨k + 1, by omega, (fin_take_succ hlt).symm⟩, hJx3⟩⟩
    · obtain rfl : k = m := by omega
      gi_wp2
      go_end0
      exact ⟨⟨_, rfl⟩, .inl (by rw [List.take_of_length_le (by rw [List.length_finRange]; exact Nat.le_refl _)] at hJs; exact hJs)⟩
end Go.Proofs.Ytipahpkdddijmaa.Q

-- F7
namespace Go.Proofs.Ytipahpkdddijmaa.Q
open Go.RowKit Go.Shelf
set_option linter.unusedVariables false
set_option linter.unusedSimpArgs false
attribute [local go_sem] Oper.semAt_some

theorem grown_drew (W : World) (row : Option Nat) : W.grownBy W.drew row := ⟨rfl, rfl, rfl, Nat.le_refl _, fun _ _ _ => rfl⟩
set_option maxRecDepth 100000 in
set_option maxHeartbeats 1000000 in
theorem chunk1_nil_in (F : Fence) (n : Nat) (h7 : F.fn 58) (hro : F.round = none) (l Bs Bn : Nat) (J : List (Fin 0) → World → Prop) (W : World) (hBs : W.cell? ⟨Bs, 0, none⟩ = some (.slice none 0 0)) (h0 : J [] W) :
    CallsIn F n Try.prog 58 #[.func (.yield l) #[] #[], .pointer (some ⟨Bs, 0, none⟩), .pointer (some ⟨Bn, 0, none⟩)] W fun e W' => (∃ v, e = .returned v) ∧ J [] W' := by
  refine callsIn_of_wp Try.func58 rfl h7 ?_ hro
  simp only [Try.ntmps58, List.size_toArray, List.length_cons, List.length_nil, Nat.reduceAdd, Nat.reduceSub, Array.replicate_succ, Array.replicate_zero, List.push_toArray, List.append_toArray, List.nil_append, List.cons_append]
  gi_wp2
  gi_loopw [4] (fun i wr => i = .int .i64 0 ∧ wr = W) (fun _ _ => 0)
  case atStart => exact ⟨rfl, rfl⟩
  case round =>
    obtain ⟨rfl, rfl⟩ := hrel
    gi_wp2
    go_end0
    exact ⟨⟨_, rfl⟩, h0⟩
/-- **slices.Chunk(l, 4) HANDS BACK A VALUE THAT 'SeqStopsK'**: all m chunks, in order; or a prefix; Kp: whatever keeps the two boxes. -/
theorem chunk_stops (F : Fence) (n : Nat) (h7 : F.fn 58) (hro : F.round = none) (hn : 1 ≤ n) (Bs Bn b m cap : Nat) (hreach : 4 * m ≤ 100000) (hcap : 4 * m ≤ cap) (hcap2 : cap ≤ 9223372036854775807) (Kp : World → World → Prop) (hK0 : ∀ W, Kp W W) (hKd : ∀ W, Kp W W.drew) (hKt : ∀ {A B C : World}, Kp A B → Kp B C → Kp A C)
    (hKs : ∀ {A B : World}, Kp A B → B.cell? ⟨Bs, 0, none⟩ = A.cell? ⟨Bs, 0, none⟩ ∧ B.cell? ⟨Bn, 0, none⟩ = A.cell? ⟨Bn, 0, none⟩) (w : World) (hbs : Bs < w.heap.size) (hbn : Bn < w.heap.size)
    (hc1 : w.cell? ⟨Bs, 0, none⟩ = some (.slice (some ⟨b, 0, none⟩) (4 * m) cap)) (hc2 : w.cell? ⟨Bn, 0, none⟩ = some (.int .i64 4)) :
    SeqStopsK F n Try.prog 58 #[.pointer (some ⟨Bs, 0, none⟩), .pointer (some ⟨Bn, 0, none⟩)] (fun x : Fin m => #[Value.slice (some ⟨b, 4 * x.1, none⟩) 4 4]) Kp (fun ys => ys = List.finRange m) (fun pre => pre <+: List.finRange m) m w := fun l J Jx W hW hJ _ hY h0 => by
  have d1 := (hW.cell (p := ⟨Bs, 0, none⟩) hbs).trans hc1
  have d2 := (hW.cell (p := ⟨Bn, 0, none⟩) hbn).trans hc2
  refine (chunk1_in F n h7 hro hn l Bs Bn b m cap hreach hcap hcap2 Kp hK0 hKd hKt hKs J Jx (fun s W1 h => hJ s W1 W1.drew none h (grown_drew _ _) (fun r e => by cases e)) hY W d1 d2 h0).mono ?_
  rintro e W' ⟨he, hj | ⟨pre, ⟨k, hk, rfl⟩, hj⟩⟩
  · exact ⟨he, .inl ⟨_, rfl, hj⟩⟩
  · exact ⟨he, .inr ⟨_, List.take_prefix _ _, hj⟩⟩
end Go.Proofs.Ytipahpkdddijmaa.Q

-- F8
namespace Go.Proofs.Ytipahpkdddijmaa.Q
open Go.RowKit Go.Proofs.YtipahpkdddijmaaW.PrintWords Go.Proofs.YtipahpkdddijmaaW.PrintLast Go.Proofs.YtipahpkdddijmaaW.PrintMore
set_option linter.unusedVariables false
set_option linter.unusedSimpArgs false

/-! ### wire.TakeNum -/
/-- A number taken: (number, rest, error). -/
def numW (s : ByteArray) : Int × ByteArray × Int := if s.size < 8 then (0, ⟨#[]⟩, 3) else ((leN (s.extract 0 8).data.toList : Int), s.extract 8 s.size, 0)
theorem num_w (s : ByteArray) (k : Nat) (hk : 9 ≤ k) : wire_TakeNum.f k s = some (numW s) := by
  unfold wire_TakeNum.f wire_cut.f numW
  by_cases h : s.size < 8
  · rw [if_pos (by omega), if_pos h, Option.bind_some]
    simp only
    rw [if_neg (by decide)]
  · rw [if_neg (by omega), if_pos (by omega), if_pos (by omega), if_neg h, Option.bind_some]
    simp only
    have hs : (s.extract 0 8).size = 8 := by rw [ByteArray.size_extract]; omega
    rw [show ((8 : Int)).toNat = 8 from rfl, if_pos trivial, read_f _ (by omega) k (by omega), Option.bind_some]
theorem num_laid (n : Nat) (h : n < 18446744073709551616) : numW (num8 n) = ((n : Int), ⟨#[]⟩, 0) := by
  have hs : (num8 n).size = 8 := num8_size n
  have h0 : (num8 (n : Int)).extract 0 8 = num8 n := by
    apply bytes_inj
    rw [ext_list, List.drop_zero, List.take_of_length_le (by rw [size_list]; omega)]
  have h1 : (num8 (n : Int)).extract 8 (num8 (n : Int)).size = ⟨#[]⟩ := by
    apply bytes_inj
    rw [ext_list, List.drop_eq_nil_of_le (by rw [List.length_take, size_list]; omega)]
  unfold numW
  rw [if_neg (by omega), h0, num8_le n h, h1]
theorem takeNum.walk (s : ByteArray) (w : World) : Calls Try.prog 36 #[.string s] w fun e w' => e = .returned (.tuple #[.int .u64 (numW s).1, .string (numW s).2.1, .int .i64 (numW s).2.2]) ∧ Drawn0 w w' := wire_TakeNum.calls 9 s _ _ _ w (num_w s 9 (Nat.le_refl _))
/-- change.gone, as octets. -/
theorem goneN_true_ne : goneN true ≠ goneN false := by
  intro h
  have h1 := congrArg (fun s : ByteArray => leN s.data.toList) h
  unfold goneN at h1
  simp only [if_true, if_false, Bool.false_eq_true] at h1
  have a := num8_le 1 (by decide)
  have b := num8_le 0 (by decide)
  rw [show ((1 : Int)) = ((1 : Nat) : Int) from rfl, show ((0 : Int)) = ((0 : Nat) : Int) from rfl] at h1
  omega
end Go.Proofs.Ytipahpkdddijmaa.Q

-- F9
namespace Go.Proofs.Ytipahpkdddijmaa.Q
open Go.RowKit Go.Proofs.YtipahpkdddijmaaW.PrintWords Go.Proofs.YtipahpkdddijmaaW.PrintLast Go.Proofs.YtipahpkdddijmaaW.PrintMore
set_option linter.unusedVariables false
set_option linter.unusedSimpArgs false

/-! ### change.Take, in plain words -/
def noteOf (a b c d : ByteArray) : Option S39 := if (numW a).2.2 = 0 ∧ (numW a).2.1.toList.isEmpty = true then some ⟨(numW a).1, ⟨b, d, c.toList == (goneN true).toList⟩⟩ else none
def takeN : List ByteArray → Option (List S39)
  | a :: b :: c :: d :: r => (noteOf a b c d).bind fun n => (takeN r).map (n :: ·)
  | _ => some []
def takeR (s : ByteArray) : List S39 × Int :=
  if (wholeW s).2 = 0 ∧ (wholeW s).1.length % 4 = 0 then
    (match takeN (wholeW s).1 with
      | none => ([], 2)
      | some out => if (layR out).2 = 0 ∧ (layR out).1 = s then (out, 0) else ([], 2))
  else ([], 2)
theorem note_laid (n : S39) (h0 : 0 ≤ n.f0) (h1 : n.f0 ≤ 18446744073709551615) : noteOf (num8 n.f0) n.f1.f0 (goneN n.f1.f2) n.f1.f1 = some n := by
  obtain ⟨f0, f1, f2, f3⟩ := n
  simp only at h0 h1 ⊢
  obtain ⟨k, rfl⟩ : ∃ k : Nat, f0 = k := ⟨f0.toNat, by omega⟩
  unfold noteOf
  rw [num_laid k (by omega)]
  simp only
  rw [if_pos ⟨trivial, by rw [Lib.toList_data]; rfl⟩]
  have hg : ((goneN f3).toList == (goneN true).toList) = f3 := by
    cases f3
    · rw [beq_eq_false_iff_ne]
      exact fun h => goneN_true_ne (bytes_eq h).symm
    · simp
  rw [hg]
theorem takeN_laid : ∀ l : List S39, (∀ n ∈ l, 0 ≤ n.f0 ∧ n.f0 ≤ 18446744073709551615) → takeN (textsN l) = some l
  | [], _ => rfl
  | n :: l, h => by
    obtain ⟨h0, h1⟩ := h n List.mem_cons_self
    show takeN (num8 n.f0 :: n.f1.f0 :: goneN n.f1.f2 :: n.f1.f1 :: textsN l) = _
    rw [takeN, note_laid n h0 h1, Option.bind_some, takeN_laid l (fun m hm => h m (List.mem_cons_of_mem _ hm))]
    rfl
theorem layR_ok {l : List S39} (h : (layR l).2 = 0) : l.length ≠ 0 ∧ l.length ≤ 100 ∧ l.any (fun n => !mayN n) = false ∧ layR l = (listB (textsN l), 0) := by
  unfold layR at h
  split at h
  · cases h
  · rename_i hn
    have hn1 : l.length ≠ 0 := fun e => hn (Or.inl e)
    have hn2 : l.length ≤ 100 := by
      rcases Nat.lt_or_ge 100 l.length with x | x
      · exact absurd (Or.inr (Or.inl x)) hn
      · exact x
    have hn3 : l.any (fun n => !mayN n) = false := by
      cases hx : l.any (fun n => !mayN n) with
      | false => rfl
      | true => exact absurd (Or.inr (Or.inr hx)) hn
    split at h
    · cases h
    · rename_i hs
      refine ⟨hn1, hn2, hn3, ?_⟩
      unfold layR
      rw [if_neg hn, if_neg hs]
theorem take_of_lay {l : List S39} (hw : ∀ n ∈ l, 0 ≤ n.f0 ∧ n.f0 ≤ 18446744073709551615) (h : (layR l).2 = 0) : takeR (layR l).1 = (l, 0) := by
  obtain ⟨h1, h2, h3, h4⟩ := layR_ok h
  have ht := textsN_len l
  have hwh := whole_laid (textsN l) (by omega) (textsN_size h3)
  unfold takeR
  rw [h4]
  simp only
  rw [hwh]
  simp only
  rw [if_pos ⟨trivial, by omega⟩, takeN_laid l hw]
  simp only
  rw [h4, if_pos ⟨rfl, rfl⟩]
end Go.Proofs.Ytipahpkdddijmaa.Q

-- F10
namespace Go.Proofs.Ytipahpkdddijmaa.Q
open Go.RowKit Go.Shelf Go.Proofs.YtipahpkdddijmaaW.PrintWords
set_option linter.unusedVariables false
set_option linter.unusedSimpArgs false

/-! ### a drawn region in a round of the wide fence: by the held walk of the plain calculus -/
theorem rows_wide {n : Nat} {P : Program} {row : String} {args : Array Value} {w : World} {R : Value → World → Prop} (h : Rows P row args w R) : RowsIn Fence.wide n P row args w R :=
  fun c cs _ => let ⟨v, w', r, s⟩ := h c cs; ⟨v, w', r, stepsIn_wide.2 s⟩
theorem oper_wpIn_round {l n : Nat} {P : Program} {o : Oper} {a : Act} {w : World} {K : Act → World → Prop} {Q : Exit → Act → World → Prop} (hnd : ∀ c, o.op ≠ .defer c) (h : o.wp P a w K Q) :
    o.wpIn (Fence.wide.inRound l) n P a w K Q := by
  unfold Oper.wpIn
  refine ⟨fun _ _ => trivial, ?_⟩
  rw [Oper.semAt_eq _ _ _ hnd]
  unfold Oper.wp at h
  generalize (execOp a.eval o).run P w = r at *
  cases r with
  | ok x w' =>
    cases x <;> simp only [Oper.upon, Oper.uponIn] at h ⊢ <;> first | exact h | skip
    · exact ⟨fun hd => (by cases hd), CallsIn.mono (CallsIn.inRound l (callsIn_wide.2 h)) (fun e w'' he => by cases e <;> exact he)⟩
    · exact ⟨fun hd => (by cases hd), rows_wide h⟩
  | halt x w' => cases x <;> simp only [Oper.upon, Oper.uponIn] at h ⊢ <;> exact h
theorem wpAnyIn_round {l n : Nat} {P : Program} {md : Region.Mode} {ops : Array Oper} {Q : Exit → Act → World → Prop} (hnd : ∀ o ∈ ops.toList, ∀ c, o.op ≠ .defer c) (hno : ¬ LetsOut Q) :
    ∀ (fuel : Nat) (listed : Array Bool) (a : Act) (w : World), wpAny P md ops Q fuel listed a w → wpAnyIn (Fence.wide.inRound l) n P md ops Q fuel listed a w
  | 0, _, _, _, h => h
  | fuel + 1, listed, a, w, h => by
    refine ⟨h.1, fun i hi => ?_⟩
    have := h.2 i hi
    unfold wpOpIn
    unfold wpOp at this
    split
    · rename_i e; rw [e] at this; exact wpAnyIn_round hnd hno fuel _ _ _ this
    · rename_i o ho
      rw [ho] at this
      simp only at this
      split
      · rename_i hw
        rw [if_pos hw] at this
        have hm : o ∈ ops.toList := by
          obtain ⟨hlt, e⟩ := Array.getElem?_eq_some_iff.1 ho
          rw [← e]; exact Array.getElem_mem_toList hlt
        refine Oper.wpIn_mono (fun a w => wpAnyIn_round hnd hno fuel _ a w) (oper_wpIn_round (hnd o hm) (this.resolve_right fun h => hno h.2))
      · rename_i hw
        rw [if_neg hw] at this
        exact ⟨fun _ _ => trivial, wpAnyIn_round hnd hno fuel _ _ _ this⟩
def noDefer (ops : Array Oper) : Bool := ops.toList.all fun o => match o.op with | .defer _ => false | _ => true
theorem noDefer_spec {ops : Array Oper} (h : noDefer ops = true) : ∀ o ∈ ops.toList, ∀ c, o.op ≠ .defer c := by
  intro o ho c hc
  have := List.all_eq_true.1 h o ho
  rw [hc] at this
  cases this
theorem round_region_held {l n : Nat} {P : Program} {ops : Array Oper} {Q : Exit → Act → World → Prop} {id : Nat} {a : Act} {w : World} (S : World → Prop) (hm : P.follows .mixedOrders = true) (hnd : noDefer ops = true) (hno : ¬ LetsOut Q) (hS : S w.drew)
    (h : S w.drew → wpAnyH P .any ops Q S ops.size (Array.replicate ops.size false) a w.drew) : (Code.region id ops true).wpIn (Fence.wide.inRound l) n P Q a w :=
  wpIn_region_any hm (wpAnyIn_round (noDefer_spec hnd) hno _ _ _ _ (wpAny_of_held _ _ _ _ (h hS)))
end Go.Proofs.Ytipahpkdddijmaa.Q

-- F11
namespace Go.Proofs.Ytipahpkdddijmaa.Q
open Go.RowKit Go.Shelf Go.Proofs.YtipahpkdddijmaaW.PrintWords
set_option linter.unusedVariables false
set_option linter.unusedSimpArgs false
attribute [local go_sem] Oper.semAt_some

/-! ### plain: the notes chunk by chunk -/
def nth (ts : List ByteArray) (k : Nat) : ByteArray := (ts[k]?).getD ⟨#[]⟩
def nAt (ts : List ByteArray) {m : Nat} (x : Fin m) : Option S39 := noteOf (nth ts (4 * x.1)) (nth ts (4 * x.1 + 1)) (nth ts (4 * x.1 + 2)) (nth ts (4 * x.1 + 3))
theorem takeN_cons (a b c d : ByteArray) (r : List ByteArray) : takeN (a :: b :: c :: d :: r) = (noteOf a b c d).bind fun n => (takeN r).map (n :: ·) := rfl
theorem na_succ (a b c d : ByteArray) (r : List ByteArray) {m : Nat} (x : Fin m) : nAt (a :: b :: c :: d :: r) x.succ = nAt r x := by
  unfold nAt nth
  simp only [Fin.val_succ]
  rw [show 4 * (x.1 + 1) = 4 * x.1 + 4 by omega]
  simp
theorem na_zero (a b c d : ByteArray) (r : List ByteArray) {m : Nat} : nAt (a :: b :: c :: d :: r) (0 : Fin (m + 1)) = noteOf a b c d := by
  unfold nAt nth; simp
theorem takeN_na : ∀ (m : Nat) (ts : List ByteArray), ts.length = 4 * m → takeN ts = if (List.finRange m).all (fun x => (nAt ts x).isSome) then some ((List.finRange m).filterMap (nAt ts)) else none
  | 0, ts, h => by
    have : ts = [] := List.eq_nil_of_length_eq_zero (by omega)
    subst this
    simp [takeN]
  | m + 1, ts, h => by
    match ts, h with
    | a :: b :: c :: d :: r, h =>
      have hr : r.length = 4 * m := by simp at h; omega
      rw [takeN_cons, takeN_na m r hr, List.finRange_succ, List.all_cons, List.all_map, List.filterMap_cons, List.filterMap_map, na_zero]
      have e1 : ((fun x => (nAt (a :: b :: c :: d :: r) x).isSome) ∘ Fin.succ) = fun x : Fin m => (nAt r x).isSome := by funext x; show (nAt _ x.succ).isSome = _; rw [na_succ]
      have e2 : (nAt (a :: b :: c :: d :: r) ∘ Fin.succ) = (nAt r : Fin m → Option S39) := by funext x; show nAt _ x.succ = _; rw [na_succ]
      rw [e1, e2]
      cases noteOf a b c d with
      | none => simp
      | some n =>
        simp only [Option.bind_some, Option.isSome_some, Bool.true_and]
        by_cases hh : (List.finRange m).all (fun x => (nAt r x).isSome) = true
        · rw [if_pos hh, if_pos hh]; rfl
        · rw [if_neg hh, if_neg hh]; rfl
theorem takeN_none {m : Nat} {ts : List ByteArray} (h : ts.length = 4 * m) {x : Fin m} (hx : nAt ts x = none) : takeN ts = none := by
  rw [takeN_na m ts h, if_neg]
  intro hh
  have := List.all_eq_true.1 hh x (List.mem_finRange x)
  rw [hx] at this
  cases this
theorem takeN_all {m : Nat} {ts : List ByteArray} (h : ts.length = 4 * m) (hx : ∀ x ∈ List.finRange m, (nAt ts x).isSome = true) : takeN ts = some ((List.finRange m).filterMap (nAt ts)) := by
  rw [takeN_na m ts h, if_pos (List.all_eq_true.2 hx)]
/-- slices.Chunk's value, of whatever row (also of no row). -/
theorem chunk_stops_any (F : Fence) (n : Nat) (h7 : F.fn 58) (hro : F.round = none) (hn : 1 ≤ n) (Bs Bn b m cap : Nat) (A : Option Addr) (hA : A = some ⟨b, 0, none⟩ ∨ (A = none ∧ m = 0 ∧ cap = 0)) (hreach : 4 * m ≤ 100000) (hcap : 4 * m ≤ cap) (hcap2 : cap ≤ 9223372036854775807) (Kp : World → World → Prop) (hK0 : ∀ W, Kp W W) (hKd : ∀ W, Kp W W.drew) (hKt : ∀ {A B C : World}, Kp A B → Kp B C → Kp A C)
    (hKs : ∀ {A B : World}, Kp A B → B.cell? ⟨Bs, 0, none⟩ = A.cell? ⟨Bs, 0, none⟩ ∧ B.cell? ⟨Bn, 0, none⟩ = A.cell? ⟨Bn, 0, none⟩) (w : World) (hbs : Bs < w.heap.size) (hbn : Bn < w.heap.size)
    (hc1 : w.cell? ⟨Bs, 0, none⟩ = some (.slice A (4 * m) cap)) (hc2 : w.cell? ⟨Bn, 0, none⟩ = some (.int .i64 4)) :
    SeqStopsK F n Try.prog 58 #[.pointer (some ⟨Bs, 0, none⟩), .pointer (some ⟨Bn, 0, none⟩)] (fun x : Fin m => #[Value.slice (some ⟨b, 4 * x.1, none⟩) 4 4]) Kp (fun ys => ys = List.finRange m) (fun pre => pre <+: List.finRange m) m w := by
  rcases hA with rfl | ⟨rfl, rfl, rfl⟩
  · exact chunk_stops F n h7 hro hn Bs Bn b m cap hreach hcap hcap2 Kp hK0 hKd hKt hKs w hbs hbn hc1 hc2
  · intro l J Jx W hW hJ _ hY h0
    refine (chunk1_nil_in F n h7 hro l Bs Bn J W ((hW.cell (p := ⟨Bs, 0, none⟩) hbs).trans hc1) h0).mono ?_
    rintro e W' ⟨he, hj⟩
    exact ⟨he, .inl ⟨[], rfl, hj⟩⟩
theorem string_row {w : World} {base : Nat} {v : Value} {ts : List ByteArray} {ok : Nat → Prop} (h : Kd.R Kd.string 9 w base ok v ts) :
    ∃ A b c, v = .slice A ts.length c ∧ ts.length ≤ c ∧ c ≤ maxLen ∧ (A = some ⟨b, 0, none⟩ ∧ (∀ k, k < ts.length → w.cell? ⟨b, k, none⟩ = some (.string (nth ts k))) ∧ base ≤ b ∧ b < w.heap.size ∨ (A = none ∧ ts.length = 0 ∧ c = 0)) := by
  obtain ⟨A, c, rfl, hc, hr⟩ := Kd.R_reads h
  obtain ⟨_, inner, ho, hi⟩ := h
  rcases ho.2 with ⟨he, h0⟩ | ⟨g, cap, cur, he, hg, hh, hn, hm, _⟩
  · injection he with e1 e2 e3
    subst e1 e3
    exact ⟨none, 0, 0, rfl, hc, Nat.zero_le _, .inr ⟨rfl, h0, rfl⟩⟩
  · injection he with e1 e2 e3
    subst e1 e3
    refine ⟨_, g, c, rfl, hc, hm, .inl ⟨rfl, fun k hk => ?_, hg, (Array.getElem?_eq_some_iff.1 hh).1⟩⟩
    obtain ⟨ad, e, hcell⟩ := at_str hr (Below.refl _ _) k hk
    cases e
    have : (Addr.add ⟨g, 0, none⟩ k) = ⟨g, k, none⟩ := by unfold Addr.add; split <;> simp_all
    rw [this] at hcell
    rw [hcell, nth, List.getElem?_eq_getElem hk]; rfl
end Go.Proofs.Ytipahpkdddijmaa.Q

-- F12
namespace Go.Proofs.Ytipahpkdddijmaa.Q
open Go.RowKit Go.Shelf Go.Proofs.YtipahpkdddijmaaW.PrintWords
set_option linter.unusedVariables false
set_option linter.unusedSimpArgs false
attribute [local go_sem] Oper.semAt_some

theorem takeLoop_len : ∀ (n : Nat) (rest : ByteArray) (out : List ByteArray), (takeLoop n rest out).2.2.length ≤ out.length + n
  | 0, _, _ => Nat.le_refl _
  | n + 1, rest, out => by
    unfold takeLoop
    split
    · have := takeLoop_len n (takeW rest).2.1 (out ++ [(takeW rest).1])
      simp at this
      omega
    · simp only; omega
theorem wholeW_len {s : ByteArray} {ts : List ByteArray} (h : wholeW s = (ts, 0)) : ts.length ≤ 4000 := by
  have h2 := congrArg Prod.fst h
  have h3 : (takeListW s).1.length ≤ 4000 := by
    have hc := countW_le s
    unfold takeListW outT
    split
    · unfold finT
      split
      · have := takeLoop_len (countW s).1.toNat (countW s).2.1 []
        simp at this
        simp only
        omega
      · simp
    · simp
  unfold wholeW at h2
  split at h2
  · split at h2
    · simp only at h2; rw [← h2]; exact h3
    · simp only at h2; rw [← h2]; simp
  · simp only at h2; rw [← h2]; simp
theorem belowN {B : Nat} {a w : World} (h : Below B a w) (n : Nat) : Below B a (w.drewN n) := h.trans ⟨rfl, rfl, rfl, Nat.le_refl _, fun _ _ => rfl⟩
/-- What a round of change.Take keeps at hand: the box of out, its row, the two boxes of the iterator. -/
structure RB (B : Nat) (a b v : Value) (n : Nat) (xs : List Value) (w1 W W' : World) : Prop where
  box : Boxed W' B 22 v
  row : W'.ownsRow B 39 4 v n xs
  bs : Boxed W' (B + 1) 59 a
  bn : Boxed W' (B + 1 + 1) 3 b
  keep : KeepsOthers W W'
  bel : Below B w1 W'
theorem RB.step {B n : Nat} {a b v : Value} {xs : List Value} {w1 W W1 W2 : World} (h : RB B a b v n xs w1 W W1) (hb : Below W1.heap.size W1 W2) : RB B a b v n xs w1 W W2 :=
  ⟨(hb.block _ h.box.lt).trans h.box, owns_row_below h.row hb, (hb.block _ h.bs.lt).trans h.bs, (hb.block _ h.bn.lt).trans h.bn,
   h.keep.trans ⟨hb.size, fun k o hk _ => (hb.block k (Array.getElem?_eq_some_iff.1 hk).1).trans hk⟩, h.bel.trans (hb.mono (Nat.le_of_lt h.box.lt))⟩
theorem RB.append {B n k : Nat} {a b v v' : Value} {xs ys : List Value} {w1 W W1 W2 : World} (h : RB B a b v n xs w1 W W1) (ho : W2.ownsRow B 39 4 v' k ys) (hg : W1.grownBy W2 v.ownBlock) :
    Boxed W2 B 22 v ∧ Below B w1 W2 ∧ RB B a b v' k ys w1 W (W2.setCell ⟨B, 0, none⟩ v') := by
  have hb2 : Below B w1 W2 := by
    refine (h.bel).grown hg (Nat.le_of_lt h.box.lt) fun j ej => ?_
    rcases h.row.2 with ⟨rfl, _⟩ | ⟨g, cap, cur, rfl, hb, _, _⟩
    · simp [Value.ownBlock] at ej
    · obtain rfl : g = j := by simpa [Value.ownBlock] using ej
      exact hb
  have h1 : Boxed W2 B 22 v := h.box.kept hg (h.box.not_row (by decide) h.row)
  have h2 : Boxed W2 (B + 1) 59 a := h.bs.kept hg (h.bs.not_row (by decide) h.row)
  have h3 : Boxed W2 (B + 1 + 1) 3 b := h.bn.kept hg (h.bn.not_row (by decide) h.row)
  refine ⟨h1, hb2, h1.set v', ho.kept (grownBy_setCell' W2 B v') (.inr (h1.not_row (by decide) ho).symm), ?_, ?_, ?_, ?_⟩
  · exact (Below.heap_setCell _ _ _ _ (by show B + 1 ≠ B; omega)).trans h2
  · exact (Below.heap_setCell _ _ _ _ (by show B + 1 + 1 ≠ B; omega)).trans h3
  · refine (h.keep.trans (KeepsOthers.of_grownBy hg fun j o ej hj => ?_)).trans (KeepsOthers.setCell _ _ _)
    rcases h.row.2 with ⟨rfl, _⟩ | ⟨g, cap, cur, rfl, _, hgb, _⟩
    · simp [Value.ownBlock] at ej
    · obtain rfl : g = j := by simpa [Value.ownBlock] using ej
      rw [hgb] at hj; cases hj; rfl
  · exact hb2.setCell (p := ⟨B, 0, none⟩) (Nat.le_refl _) v'
/-- Between two rounds. -/
def TI (ts : List ByteArray) {m : Nat} (B : Nat) (a b : Value) (w1 : World) (pre : List (Fin m)) (W : World) : Prop :=
  (∃ v, Boxed W B 22 v ∧ W.ownsRow B 39 4 v (pre.filterMap (nAt ts)).length (fl (pre.filterMap (nAt ts))) ∧ (∀ x ∈ pre, (nAt ts x).isSome = true)) ∧ Below B w1 W ∧ Boxed W (B + 1) 59 a ∧ Boxed W (B + 1 + 1) 3 b
/-- A round has left by 'return nil, ErrForm'. -/
def TX (ts : List ByteArray) {m : Nat} (n0 : Nat) (w : World) (c : Code) (pre : List (Fin m)) (W : World) : Prop :=
  c = .ret ∧ (∃ x ∈ pre, nAt ts x = none) ∧ W.cell? ⟨n0, 0, none⟩ = some (.slice none 0 0) ∧ W.cell? ⟨n0 + 1, 0, none⟩ = some (.int .i64 2) ∧ Below n0 w W
theorem boxed_own1 {β : Type} (B' B : Nat) (t : TypeId) (v : Value) : OwnFrom (β := β) B' (fun _ W => Boxed W B t v) := by
  intro s X Y row hv hg hr
  refine hv.kept hg (fun e' => ?_)
  obtain ⟨_, o, ho, hc⟩ := hr B e'.symm
  rw [show X.heap[B]? = _ from hv] at ho; cases ho; cases hc
theorem TI_own (ts : List ByteArray) {m : Nat} (B B' : Nat) (a b : Value) (w1 : World) (h1 : B ≤ w1.heap.size) (h2 : B ≤ B') : OwnFrom B' (TI ts (m := m) B a b w1) :=
  OwnFrom.and (Own.from (holdsRow_own B B 22 39 4 (fun (pre : List (Fin m)) => (pre.filterMap (nAt ts)).length) (fun (pre : List (Fin m)) => fl (pre.filterMap (nAt ts))) (fun (pre : List (Fin m)) v => ∀ x ∈ pre, (nAt ts x).isSome = true)) _)
    (OwnFrom.and (ownFrom_below h1 h2) (OwnFrom.and (boxed_own1 _ _ _ _) (boxed_own1 _ _ _ _)))
theorem TX_own (ts : List ByteArray) {m : Nat} (n0 B' : Nat) (w : World) (h1 : n0 ≤ w.heap.size) (h2 : n0 ≤ B') (c : Code) : OwnFrom B' (TX ts (m := m) n0 w c) := by
  intro s A B row hs hg hr
  obtain ⟨e1, e2, e3, e4, e5⟩ := hs
  refine ⟨e1, e2, cell_kept e3 hg (fun r e => (hr r e).2), cell_kept e4 hg (fun r e => (hr r e).2), ?_⟩
  exact ownFrom_below (β := List (Fin m)) h1 h2 s A B row e5 hg hr
theorem TX_ret {ts : List ByteArray} {m n0 B nd : Nat} {w w1 W : World} {pre : List (Fin m)} {x : Fin m} (hn : n0 ≤ w.heap.size) (hB : n0 ≤ B) (hb0 : Below n0 w w1) (hb : Below B w1 W) (hx : nAt ts x = none)
    (r0 : W.cell? ⟨n0, 0, none⟩ = some (.slice none 0 0)) (r1 : W.cell? ⟨n0 + 1, 0, none⟩ = some (.int .i64 0)) :
    KeepsOthers W (((W.drewN nd).setCell ⟨n0, 0, none⟩ (.slice none 0 0)).setCell ⟨n0 + 1, 0, none⟩ (.int .i64 2)) ∧ TX ts n0 w .ret (pre ++ [x]) (((W.drewN nd).setCell ⟨n0, 0, none⟩ (.slice none 0 0)).setCell ⟨n0 + 1, 0, none⟩ (.int .i64 2)) := by
  have d0 : (W.drewN nd).cell? ⟨n0, 0, none⟩ = some (.slice none 0 0) := r0
  have d1 : (W.drewN nd).cell? ⟨n0 + 1, 0, none⟩ = some (.int .i64 0) := r1
  have kd : KeepsOthers W (W.drewN nd) := ⟨Nat.le_refl _, fun _ _ h _ => h⟩
  have e0 : ((W.drewN nd).setCell ⟨n0, 0, none⟩ (.slice none 0 0)).cell? ⟨n0, 0, none⟩ = some (.slice none 0 0) := World.cell?_setCell_same' _ _ _ (by rw [d0]; rfl)
  have e1 : ((W.drewN nd).setCell ⟨n0, 0, none⟩ (.slice none 0 0)).cell? ⟨n0 + 1, 0, none⟩ = some (.int .i64 0) := by
    rw [World.cell?_of_block (Below.heap_setCell _ _ _ _ (by show n0 + 1 ≠ n0; omega))]; exact d1
  refine ⟨(kd.trans (KeepsOthers.setCell _ _ _)).trans (KeepsOthers.setCell _ _ _), rfl, ⟨x, by simp, hx⟩, ?_, World.cell?_setCell_same' _ _ _ (by rw [e1]; rfl), ?_⟩
  · rw [World.cell?_of_block (Below.heap_setCell _ _ _ _ (by show n0 ≠ n0 + 1; omega))]; exact e0
  · exact (belowN (hb0.trans (hb.mono hB)) nd).setCell (p := ⟨n0, 0, none⟩) (Nat.le_refl _) _ |>.setCell (p := ⟨n0 + 1, 0, none⟩) (by show n0 ≤ n0 + 1; omega) _
theorem TI_next {ts : List ByteArray} {m B : Nat} {a b v' : Value} {w1 W W' : World} {pre : List (Fin m)} {x : Fin m} {n : S39} (hall : ∀ y ∈ pre, (nAt ts y).isSome = true) (HE : nAt ts x = some n) (hbs : Boxed W (B + 1) 59 a) (hbn : Boxed W (B + 1 + 1) 3 b)
    (h : RB B a b v' ((pre.filterMap (nAt ts)).length + 1) (fl (pre.filterMap (nAt ts)) ++ [.int .u64 n.f0, .string n.f1.f0, .string n.f1.f1, .bool n.f1.f2]) w1 W W') :
    KeepsOthers W W' ∧ (W'.cell? ⟨B + 1, 0, none⟩ = W.cell? ⟨B + 1, 0, none⟩ ∧ W'.cell? ⟨B + 1 + 1, 0, none⟩ = W.cell? ⟨B + 1 + 1, 0, none⟩) ∧ TI ts B a b w1 (pre ++ [x]) W' := by
  have hr : NRow W' B v' (pre.filterMap (nAt ts) ++ [n]) := NRow.snoc h.row
  have he : (pre ++ [x]).filterMap (nAt ts) = pre.filterMap (nAt ts) ++ [n] := by rw [List.filterMap_append]; simp [HE]
  refine ⟨h.keep, ⟨h.bs.cell.trans hbs.cell.symm, h.bn.cell.trans hbn.cell.symm⟩, ⟨v', h.box, ?_, ?_⟩, h.bel, h.bs, h.bn⟩
  · rw [he]; exact hr
  · intro y hy
    rcases List.mem_append.1 hy with h1 | h1
    · exact hall y h1
    · obtain rfl : y = x := by simpa using h1
      rw [HE]; rfl
theorem fin_world {w w3 : World} {D n0 : Nat} {v0 v1 u0 u1 : Value} (hK : w3.heap[D]? = some (.deferred (some []))) (q0 : w3.cell? ⟨n0, 0, none⟩ = some u0) (q1 : w3.cell? ⟨n0 + 1, 0, none⟩ = some u1) (hn : n0 ≤ w.heap.size) (hD : w.heap.size ≤ D) (hw : w.heap.size ≤ w3.heap.size) (hb : Below n0 w w3) :
    ((w3.setCell ⟨n0, 0, none⟩ v0).setCell ⟨n0 + 1, 0, none⟩ v1).heap[D]? = some (.deferred (some [])) ∧
    (((w3.setCell ⟨n0, 0, none⟩ v0).setCell ⟨n0 + 1, 0, none⟩ v1).putObj D (.deferred none)).cell? ⟨n0, 0, none⟩ = some v0 ∧
    (((w3.setCell ⟨n0, 0, none⟩ v0).setCell ⟨n0 + 1, 0, none⟩ v1).putObj D (.deferred none)).cell? ⟨n0 + 1, 0, none⟩ = some v1 ∧
    Below n0 w (((w3.setCell ⟨n0, 0, none⟩ v0).setCell ⟨n0 + 1, 0, none⟩ v1).putObj D (.deferred none)) := by
  have e0 : (w3.setCell ⟨n0, 0, none⟩ v0).cell? ⟨n0, 0, none⟩ = some v0 := World.cell?_setCell_same' _ _ _ (by rw [q0]; rfl)
  have e1 : (w3.setCell ⟨n0, 0, none⟩ v0).cell? ⟨n0 + 1, 0, none⟩ = some u1 := by
    rw [World.cell?_of_block (Below.heap_setCell _ _ _ _ (by show n0 + 1 ≠ n0; omega))]; exact q1
  have g0 : ((w3.setCell ⟨n0, 0, none⟩ v0).setCell ⟨n0 + 1, 0, none⟩ v1).cell? ⟨n0, 0, none⟩ = some v0 := by
    rw [World.cell?_of_block (Below.heap_setCell _ _ _ _ (by show n0 ≠ n0 + 1; omega))]; exact e0
  have g1 : ((w3.setCell ⟨n0, 0, none⟩ v0).setCell ⟨n0 + 1, 0, none⟩ v1).cell? ⟨n0 + 1, 0, none⟩ = some v1 := World.cell?_setCell_same' _ _ _ (by rw [e1]; rfl)
  have hK5 : ((w3.setCell ⟨n0, 0, none⟩ v0).setCell ⟨n0 + 1, 0, none⟩ v1).heap[D]? = some (.deferred (some [])) := (KeepsOthers.setCell _ _ _).same D _ ((KeepsOthers.setCell _ _ _).same D _ hK rfl) rfl
  refine ⟨hK5, cell_kept g0 (grownBy_putObj' _ D (.deferred none)) (fun r e => by cases e; exact ⟨_, hK5, rfl⟩), cell_kept g1 (grownBy_putObj' _ D (.deferred none)) (fun r e => by cases e; exact ⟨_, hK5, rfl⟩), ?_⟩
  exact ((hb.setCell (p := ⟨n0, 0, none⟩) (Nat.le_refl _) _).setCell (p := ⟨n0 + 1, 0, none⟩) (by show n0 ≤ n0 + 1; omega) _).trans (belowK_b (w := w) hn _ D _ _ hD hK5 rfl rfl)
theorem fin_row {w3 : World} {D n0 B : Nat} {v0 v1 v : Value} {l : List S39} (h : NRow w3 B v l) (hB : n0 + 1 < B) (hK5 : ((w3.setCell ⟨n0, 0, none⟩ v0).setCell ⟨n0 + 1, 0, none⟩ v1).heap[D]? = some (.deferred (some []))) :
    NRow (((w3.setCell ⟨n0, 0, none⟩ v0).setCell ⟨n0 + 1, 0, none⟩ v1).putObj D (.deferred none)) n0 v l := by
  have h1 : NRow (w3.setCell ⟨n0, 0, none⟩ v0) B v l := h.grown (grownBy_setCell' w3 n0 v0) (fun g e => by intro e2; exact h.ne_low (b := n0) (by omega) (by rw [e, e2]))
  have h2 : NRow ((w3.setCell ⟨n0, 0, none⟩ v0).setCell ⟨n0 + 1, 0, none⟩ v1) B v l := h1.grown (grownBy_setCell' _ (n0 + 1) v1) (fun g e => by intro e2; exact h1.ne_low (b := n0 + 1) (by omega) (by rw [e, e2]))
  have h3 : NRow (((w3.setCell ⟨n0, 0, none⟩ v0).setCell ⟨n0 + 1, 0, none⟩ v1).putObj D (.deferred none)) B v l := ownsRow_putObj h2 _ hK5 rfl
  exact h3.mono (by omega)
set_option maxRecDepth 100000 in
set_option maxHeartbeats 4000000 in
theorem take_all.walk (s : ByteArray) (w : World) (ts : List ByteArray) (m : Nat) (hts : wholeW s = (ts, 0)) (hm : ts.length = 4 * m) :
    Calls Try.prog 13 #[.string s] w fun e w' => ∃ v, e = .returned (.tuple #[v, .int .i64 (takeR s).2]) ∧ NRow w' w.heap.size v (takeR s).1 ∧ Below w.heap.size w w' := by
  have hm4 : 4 * m ≤ 4000 := hm ▸ wholeW_len hts
  obtain ⟨i0, hi, hy0, hy1, hy2⟩ := info_parts info39
  refine (callsIn_wide (n := 5)).1 ?_
  refine callsIn_of_wp_marks Try.func13 rfl trivial ?_ rfl
  simp only [Try.ntmps13, List.size_toArray, List.length_cons, List.length_nil, Nat.reduceAdd, Nat.reduceSub, Array.replicate_succ, Array.replicate_zero, List.push_toArray, List.append_toArray, List.nil_append, List.cons_append]
  have hrem : Int.tmod ((4 * m : Nat) : Int) 4 = 0 := by rw [show (((4 * m : Nat)) : Int) = 4 * (m : Int) by omega]; exact Int.mul_tmod_right _ _
  have hrem2 : Int.tmod (4 * (m : Int)) 4 = 0 := Int.mul_tmod_right _ _
  gi_wp2_with (first | (refine ⟨trivial, ?_⟩; gi_at_call 34; refine (callsIn_wide.2 (whole.walk s _)).mono ?_; rintro e w1 ⟨v, rfl, ho, hb⟩; rw [hts] at ho ⊢; obtain ⟨A, b, c, rfl, hc, hcm, hA⟩ := string_row ho; clear ho; simp only [hm] at hc hA ⊢) | (refine ⟨trivial, ?_⟩; gi_at_call 35; refine (chunk_in _ _ trivial rfl A (4 * m) c _).mono ?_; rintro e w2 ⟨rfl, rfl⟩))
  have hR0 : Boxed w1 w.heap.size 22 (.slice none 0 0) := (hb.block _ (by simp; try omega)).trans (((Boxed.new w 22 (.slice none 0 0)).alloc _))
  have hR1 : Boxed w1 (w.heap.size + 1) 24 (.int .i64 0) := (hb.block _ (by simp)).trans (by have := Boxed.new (w.alloc (.cells #[.slice none 0 0] 22)) 24 (.int .i64 0); rwa [World.size_alloc] at this)
  have hs1 : w.heap.size + 2 ≤ w1.heap.size := by have := hb.size; simpa using this
  have hb0 : Below w.heap.size w w1 := (((Below.refl _ w).alloc (Nat.le_refl _) _).alloc (by simp) _).trans (hb.mono (by simp; try omega))
  clear hb
  obtain ⟨b, hA⟩ : ∃ b, (A = some ⟨b, 0, none⟩ ∧ (∀ k, k < 4 * m → w1.cell? ⟨b, k, none⟩ = some (.string (nth ts k))) ∧ b < w1.heap.size ∨ (A = none ∧ m = 0 ∧ c = 0)) := by
    rcases hA with ⟨e, h1, _, h2⟩ | ⟨e, h1, h2⟩
    · exact ⟨b, .inl ⟨e, h1, h2⟩⟩
    · exact ⟨0, .inr ⟨e, by omega, h2⟩⟩
  have bO := Boxed.new w1 22 (.slice none 0 0)
  have bS := Boxed.new (w1.alloc (.cells #[.slice none 0 0] 22)) 59 (.slice A (4 * m) c)
  have bN := Boxed.new ((w1.alloc (.cells #[.slice none 0 0] 22)).alloc (.cells #[.slice A (4 * m) c] 59)) 3 (.int .i64 4)
  rw [World.size_alloc] at bS
  rw [World.size_alloc, World.size_alloc] at bN
  refine wpIn_rangeFunc_ownF (F := Fence.wide) (n := 5) rfl (by omega) (gf := 58) (lb := #[.pointer (some ⟨w1.heap.size + 1, 0, none⟩), .pointer (some ⟨w1.heap.size + 1 + 1, 0, none⟩)]) rfl trivial (enters_of Try.func58 (by kernel_rfl) rfl)
    (chunk_stops_any Fence.wide (5 - 1) trivial rfl (by omega) (w1.heap.size + 1) (w1.heap.size + 1 + 1) b m c A ?hA (by omega) hc hcm
      (fun X Y => Y.cell? ⟨w1.heap.size + 1, 0, none⟩ = X.cell? ⟨w1.heap.size + 1, 0, none⟩ ∧ Y.cell? ⟨w1.heap.size + 1 + 1, 0, none⟩ = X.cell? ⟨w1.heap.size + 1 + 1, 0, none⟩) (fun _ => ⟨rfl, rfl⟩) (fun _ => ⟨rfl, rfl⟩) (fun h k => ⟨k.1.trans h.1, k.2.trans h.2⟩) (fun h => h)
      (((w1.alloc (.cells #[.slice none 0 0] 22)).alloc (.cells #[.slice A (4 * m) c] 59)).alloc (.cells #[.int .i64 4] 3)) (by simp; try omega) (by simp; try omega) (bS.alloc _).cell bN.cell)
    (fun h k => ⟨k.1.trans h.1, k.2.trans h.2⟩) ?hKb (Below.refl _ _) (fun _ => rfl)
    (TI ts w1.heap.size (.slice A (4 * m) c) (.int .i64 4) w1) (TX ts w.heap.size w)
    (TI_own ts _ _ _ _ w1 (Nat.le_refl _) (by simp; try omega)) (TX_own ts _ _ w (Nat.le_refl _) (by simp; try omega)) ?h0
    (fun x => { tmps := #[Value.string s, undef, Value.pointer (some { block := w.heap.size, off := 0 }),
          Value.pointer (some { block := w.heap.size + 1, off := 0 }), Value.slice A (4 * m) c, Value.int IntKind.i64 0,
          Value.pointer (some { block := w1.heap.size, off := 0 }),
          Value.slice (some { block := b, off := 4 * x.1 }) 4 4, undef, undef, undef, undef, undef,
          Value.tuple #[Value.slice A (4 * m) c, Value.int IntKind.i64 0], Value.string s,
          Value.tuple #[Value.slice A (4 * m) c, Value.int IntKind.i64 0], Value.slice A (4 * m) c,
          Value.int IntKind.i64 0, Value.int IntKind.i64 0, Value.bool false, Value.bool false, Value.slice A (4 * m) c,
          Value.int IntKind.i64 (4 * (m : Int)), Value.int IntKind.i64 0, Value.bool false, Value.bool false,
          Value.slice A (4 * m) c,
          Value.func (Fn.func 58) #[]
            #[Value.pointer (some { block := w1.heap.size + 1, off := 0 }),
              Value.pointer (some { block := w1.heap.size + 1 + 1, off := 0 })],
          Value.slice (some { block := b, off := 4 * x.1 }) 4 4, undef, undef, undef, undef, undef, undef, undef, undef,
          undef, undef, undef, undef, undef, undef, undef, undef, undef, undef, undef, undef, undef, undef, undef,
          undef, undef, undef, undef, undef, undef, undef, undef, undef, undef, undef, undef, undef, undef, undef,
          undef, undef, undef, undef, undef, undef], defers := [] }) ?assign ?body ?done ?stop
  case hA => rcases hA with ⟨e, _⟩ | ⟨e, h1, h2⟩
             · exact .inl e
             · exact .inr ⟨e, h1, h2⟩
  case h0 => exact ⟨⟨_, (bO.alloc _).alloc _, World.ownsRow_nil _ _ _ _, fun x hx => by cases hx⟩, (((Below.refl _ w1).alloc (Nat.le_refl _) _).alloc (by simp) _).alloc (by simp; try omega) _, bS.alloc _, bN⟩
  case hKb =>
    intro W l o o' hl ho hc _
    have hl2 : w1.heap.size + 3 ≤ l := by simpa using hl
    exact ⟨World.cell?_of_block (World.putObj_heap_other (by show w1.heap.size + 1 ≠ l; omega)), World.cell?_of_block (World.putObj_heap_other (by show w1.heap.size + 1 + 1 ≠ l; omega))⟩
  case assign =>
    intro l x W K hK
    gi_wp2
    exact hK
  case body =>
    rintro l pre x W ⟨⟨v, hv, hrow, hall⟩, hB, hbs, hbn⟩ hlt
    obtain ⟨k, hk⟩ := x
    have hA2 : A = some ⟨b, 0, none⟩ ∧ (∀ k, k < 4 * m → w1.cell? ⟨b, k, none⟩ = some (.string (nth ts k))) ∧ b < w1.heap.size := by
      rcases hA with h | ⟨_, h, _⟩
      · exact h
      · omega
    obtain ⟨rfl, hcl, hblt⟩ := hA2
    have c0 := (hB.cell (p := ⟨b, 4 * k, none⟩) hblt).trans (hcl (4 * k) (by omega))
    have c1 := (hB.cell (p := ⟨b, 4 * k + 1, none⟩) hblt).trans (hcl (4 * k + 1) (by omega))
    have c2 := (hB.cell (p := ⟨b, 4 * k + 2, none⟩) hblt).trans (hcl (4 * k + 2) (by omega))
    have c3 := (hB.cell (p := ⟨b, 4 * k + 3, none⟩) hblt).trans (hcl (4 * k + 3) (by omega))
    have HN := fun W => takeNum.walk (nth ts (4 * k)) W
    have HE : nAt ts (⟨k, hk⟩ : Fin m) = noteOf (nth ts (4 * k)) (nth ts (4 * k + 1)) (nth ts (4 * k + 2)) (nth ts (4 * k + 3)) := rfl
    have e1 := hcl (4 * k + 1) (by omega)
    have e2 := hcl (4 * k + 2) (by omega)
    have e3 := hcl (4 * k + 3) (by omega)
    dsimp only
    generalize nth ts (4 * k) = t0 at *
    generalize nth ts (4 * k + 1) = t1 at *
    generalize nth ts (4 * k + 2) = t2 at *
    generalize nth ts (4 * k + 3) = t3 at *
    unfold noteOf at HE
    generalize numW t0 = q at *
    obtain ⟨qn, qr, qe⟩ := q
    simp only at HE HN
    clear hA hcl
    have r0 := (hB.cell (p := ⟨w.heap.size, 0, none⟩) (by show w.heap.size < _; omega)).trans hR0.cell
    have r1 := (hB.cell (p := ⟨w.heap.size + 1, 0, none⟩) (by show w.heap.size + 1 < _; omega)).trans hR1.cell
    have f0 := (hB.frozen (p := ⟨w.heap.size, 0, none⟩) (by show w.heap.size < _; omega)).trans hR0.frozen
    have f1 := (hB.frozen (p := ⟨w.heap.size + 1, 0, none⟩) (by show w.heap.size + 1 < _; omega)).trans hR1.frozen
    have hnl : (pre.filterMap (nAt ts)).length ≤ 4000 := by have := List.length_filterMap_le (nAt ts) pre; omega
    have hb1 : (pre.filterMap (nAt ts)).length + 1 ≤ maxLen := by unfold maxLen; omega
    have hb2 : ((pre.filterMap (nAt ts)).length + 1) * 48 ≤ 140737488355328 := by omega
    by_cases hq : qe = 0 ∧ qr.toList.isEmpty = true
    · obtain ⟨rfl, hq⟩ := hq
      rw [if_pos ⟨rfl, hq⟩] at HE
      have HG := Lib.hid (fun W => change_gone.calls 9 true (goneN true) W (gone8_eq _))
      gi_wp2_with (refine ⟨trivial, ?_⟩; gi_at_call 36; refine (CallsIn.inRound l (callsIn_wide.2 (HN _))).mono ?_; rintro e w2 ⟨rfl, ⟨⟨nd, rfl⟩⟩⟩)
      have RB0 : Hid (RB w1.heap.size (.slice (some ⟨b, 0, none⟩) (4 * m) c) (.int .i64 4) v (pre.filterMap (nAt ts)).length (fl (pre.filterMap (nAt ts))) w1 W (W.drewN nd)) := RB.step ⟨hv, hrow, hbs, hbn, KeepsOthers.refl _, hB⟩ (belowN (Below.refl _ _) nd)
      have d1 : (W.drewN nd).cell? ⟨b, 4 * k + 1, none⟩ = some (.string t1) := c1
      have d2 : (W.drewN nd).cell? ⟨b, 4 * k + 2, none⟩ = some (.string t2) := c2
      have d3 : (W.drewN nd).cell? ⟨b, 4 * k + 3, none⟩ = some (.string t3) := c3
      clear c0 c1 c2 c3 hv hrow hB r0 r1 f0 f1 HN
      generalize W.drewN nd = W' at *
      have RBX := Lib.hid (RB0.out.step (W2 := W'.drew) ((Below.refl _ _).trans ⟨rfl, rfl, rfl, Nat.le_refl _, fun _ _ => rfl⟩))
      refine round_region_held (S := fun W' => W'.cell? ⟨b, 4 * k + 1, none⟩ = some (.string t1) ∧ W'.cell? ⟨b, 4 * k + 2, none⟩ = some (.string t2) ∧ W'.cell? ⟨b, 4 * k + 3, none⟩ = some (.string t3)) (by kernel_rfl) (by kernel_rfl) (by rintro ⟨a, w, h⟩; exact h) ⟨d1, d2, d3⟩ (fun hHeld => ?_)
      refine wpAnyH_take (i := 1) (oi := { dst := some 44, op := Op.move (Operand.tmp 8), type := 35, pos := "change.go:63", after := #[], guard := none }) (v := ?v1) rfl (by kernel_rfl) (by kernel_rfl) (by kernel_rfl) (fun _ _ _ h => h) (Or.inl ⟨by rfl, ?y1⟩) (by assumption) ?r1
      case y1 => (intro w hSw; obtain ⟨s1, s2, s3⟩ := hSw; go_simp; try with_reducible rfl)
      try simp only [Act.put, List.setIfInBounds_toArray, List.set_cons_zero, List.set_cons_succ]
      refine wpAnyH_take (i := 2) (oi := { dst := some 45, op := Op.move (Operand.tmp 7), type := 59, pos := "change.go:63", after := #[], guard := none }) (v := ?v2) rfl (by kernel_rfl) (by kernel_rfl) (by kernel_rfl) (fun _ _ _ h => h) (Or.inl ⟨by rfl, ?y2⟩) (by assumption) ?r2
      case y2 => (intro w hSw; obtain ⟨s1, s2, s3⟩ := hSw; go_simp; try with_reducible rfl)
      try simp only [Act.put, List.setIfInBounds_toArray, List.set_cons_zero, List.set_cons_succ]
      refine wpAnyH_take (i := 3) (oi := { dst := some 46, op := Op.indexAddr 59 (Operand.tmp 45) (Operand.const (Value.int IntKind.i64 1)), type := 0, pos := "change.go:63", after := #[{ on := 2, ground := Ground.data }], guard := none }) (v := ?v3) rfl (by kernel_rfl) (by kernel_rfl) (by kernel_rfl) (fun _ _ _ h => h) (Or.inl ⟨by rfl, ?y3⟩) (by assumption) ?r3
      case y3 => (intro w hSw; obtain ⟨s1, s2, s3⟩ := hSw; go_simp; try with_reducible rfl)
      try simp only [Act.put, List.setIfInBounds_toArray, List.set_cons_zero, List.set_cons_succ]
      refine wpAnyH_take (i := 4) (oi := { dst := some 47, op := Op.load 9 (Operand.tmp 46), type := 9, pos := "change.go:63", after := #[{ on := 3, ground := Ground.data }], guard := none }) (v := ?v4) rfl (by kernel_rfl) (by kernel_rfl) (by kernel_rfl) (fun _ _ _ h => h) (Or.inl ⟨by rfl, ?y4⟩) (by assumption) ?r4
      case y4 => (intro w hSw; obtain ⟨s1, s2, s3⟩ := hSw; go_simp; try with_reducible rfl)
      try simp only [Act.put, List.setIfInBounds_toArray, List.set_cons_zero, List.set_cons_succ]
      refine wpAnyH_take (i := 5) (oi := { dst := some 48, op := Op.move (Operand.tmp 7), type := 59, pos := "change.go:63", after := #[], guard := none }) (v := ?v5) rfl (by kernel_rfl) (by kernel_rfl) (by kernel_rfl) (fun _ _ _ h => h) (Or.inl ⟨by rfl, ?y5⟩) (by assumption) ?r5
      case y5 => (intro w hSw; obtain ⟨s1, s2, s3⟩ := hSw; go_simp; try with_reducible rfl)
      try simp only [Act.put, List.setIfInBounds_toArray, List.set_cons_zero, List.set_cons_succ]
      refine wpAnyH_take (i := 6) (oi := { dst := some 49, op := Op.indexAddr 59 (Operand.tmp 48) (Operand.const (Value.int IntKind.i64 2)), type := 0, pos := "change.go:63", after := #[{ on := 5, ground := Ground.data }], guard := none }) (v := ?v6) rfl (by kernel_rfl) (by kernel_rfl) (by kernel_rfl) (fun _ _ _ h => h) (Or.inl ⟨by rfl, ?y6⟩) (by assumption) ?r6
      case y6 => (intro w hSw; obtain ⟨s1, s2, s3⟩ := hSw; go_simp; try with_reducible rfl)
      try simp only [Act.put, List.setIfInBounds_toArray, List.set_cons_zero, List.set_cons_succ]
      refine wpAnyH_take (i := 7) (oi := { dst := some 50, op := Op.load 9 (Operand.tmp 49), type := 9, pos := "change.go:63", after := #[{ on := 6, ground := Ground.data }], guard := none }) (v := ?v7) rfl (by kernel_rfl) (by kernel_rfl) (by kernel_rfl) (fun _ _ _ h => h) (Or.inl ⟨by rfl, ?y7⟩) (by assumption) ?r7
      case y7 => (intro w hSw; obtain ⟨s1, s2, s3⟩ := hSw; go_simp; try with_reducible rfl)
      try simp only [Act.put, List.setIfInBounds_toArray, List.set_cons_zero, List.set_cons_succ]
      refine wpAnyH_take (i := 10) (oi := { dst := some 53, op := Op.move (Operand.tmp 7), type := 59, pos := "change.go:63", after := #[], guard := none }) (v := ?v8) rfl (by kernel_rfl) (by kernel_rfl) (by kernel_rfl) (fun _ _ _ h => h) (Or.inl ⟨by rfl, ?y8⟩) (by assumption) ?r8
      case y8 => (intro w hSw; obtain ⟨s1, s2, s3⟩ := hSw; go_simp; try with_reducible rfl)
      try simp only [Act.put, List.setIfInBounds_toArray, List.set_cons_zero, List.set_cons_succ]
      refine wpAnyH_take (i := 11) (oi := { dst := some 54, op := Op.indexAddr 59 (Operand.tmp 53) (Operand.const (Value.int IntKind.i64 3)), type := 0, pos := "change.go:63", after := #[{ on := 10, ground := Ground.data }], guard := none }) (v := ?v9) rfl (by kernel_rfl) (by kernel_rfl) (by kernel_rfl) (fun _ _ _ h => h) (Or.inl ⟨by rfl, ?y9⟩) (by assumption) ?r9
      case y9 => (intro w hSw; obtain ⟨s1, s2, s3⟩ := hSw; go_simp; try with_reducible rfl)
      try simp only [Act.put, List.setIfInBounds_toArray, List.set_cons_zero, List.set_cons_succ]
      refine wpAnyH_take (i := 12) (oi := { dst := some 55, op := Op.load 9 (Operand.tmp 54), type := 9, pos := "change.go:63", after := #[{ on := 11, ground := Ground.data }], guard := none }) (v := ?v10) rfl (by kernel_rfl) (by kernel_rfl) (by kernel_rfl) (fun _ _ _ h => h) (Or.inl ⟨by rfl, ?y10⟩) (by assumption) ?r10
      case y10 => (intro w hSw; obtain ⟨s1, s2, s3⟩ := hSw; go_simp; try with_reducible rfl)
      try simp only [Act.put, List.setIfInBounds_toArray, List.set_cons_zero, List.set_cons_succ]
      refine wpAnyH_ready (rs := [0, 8]) (by kernel_rfl) (by simp) ?_
      refine AllReadyH.cons (o := { dst := some 43, op := Op.load 22 (Operand.tmp 6), type := 22, pos := "change.go:63", after := #[], guard := none }) rfl (fun K hK => ?_) ?_
      · skip
        rw [if_pos (by rfl)]
        have hc0 := RBX.out.box.cell
        have hc1 := RB0.out.box.cell
        go_simp
        refine hK.out _ _ (by assumption) (fun hHeld => ?_)
        clear hK K hc0 hc1
        try simp only [Act.put, List.setIfInBounds_toArray, List.set_cons_zero, List.set_cons_succ]
        refine wpAnyH_ready (rs := [8]) (by kernel_rfl) (by simp) ?_
        refine AllReadyH.cons (o := { dst := some 51, op := Op.call { callee := Callee.value (Operand.func 30), args := #[Operand.const (Value.bool true)], argTypes := #[4] }, type := 9, pos := "change.go:63", after := #[], guard := none }) rfl (fun K hK => ?_) ?_
        · skip
          rw [if_pos (by rfl)]
          go_simp
          refine (HG.out _).mono ?_
          rintro e8 w8 ⟨rfl, hb8⟩
          refine hK.out _ _ (by obtain ⟨s1, s2, s3⟩ := hHeld; exact ⟨(keepc hb8 s1), (keepc hb8 s2), (keepc hb8 s3)⟩) (fun hHeld => ?_)
          replace RBX := Lib.hid (RBX.out.step hb8)
          clear hK K hb8
          try simp only [Act.put, List.setIfInBounds_toArray, List.set_cons_zero, List.set_cons_succ]
          refine wpAnyH_take (i := 9) (oi := { dst := some 52, op := Op.binOp BinOp.eql 9 (Operand.tmp 50) (Operand.tmp 51) 9, type := 4, pos := "change.go:63", after := #[{ on := 7, ground := Ground.data }, { on := 8, ground := Ground.data }], guard := none }) (v := ?v11) rfl (by kernel_rfl) (by kernel_rfl) (by kernel_rfl) (fun _ _ _ h => h) (Or.inl ⟨by rfl, ?y11⟩) (by assumption) ?r11
          case y11 => (intro w hSw; obtain ⟨s1, s2, s3⟩ := hSw; go_simp; try with_reducible rfl)
          try simp only [Act.put, List.setIfInBounds_toArray, List.set_cons_zero, List.set_cons_succ]
          refine wpAnyH_take (i := 13) (oi := { dst := some 56, op := Op.build 37 #[(0, Operand.tmp 47), (2, Operand.tmp 52), (1, Operand.tmp 55)], type := 37, pos := "change.go:63", after := #[{ on := 4, ground := Ground.data }, { on := 9, ground := Ground.data }, { on := 12, ground := Ground.data }], guard := none }) (v := ?v12) rfl (by kernel_rfl) (by kernel_rfl) (by kernel_rfl) (fun _ _ _ h => h) (Or.inl ⟨by rfl, ?y12⟩) (by assumption) ?r12
          case y12 => (intro w hSw; obtain ⟨s1, s2, s3⟩ := hSw; go_simp; try with_reducible rfl)
          try simp only [Act.put, List.setIfInBounds_toArray, List.set_cons_zero, List.set_cons_succ]
          refine wpAnyH_take (i := 14) (oi := { dst := some 57, op := Op.build 39 #[(0, Operand.tmp 44), (1, Operand.tmp 56)], type := 39, pos := "change.go:63", after := #[{ on := 1, ground := Ground.data }, { on := 13, ground := Ground.data }], guard := none }) (v := ?v13) rfl (by kernel_rfl) (by kernel_rfl) (by kernel_rfl) (fun _ _ _ h => h) (Or.inl ⟨by rfl, ?y13⟩) (by assumption) ?r13
          case y13 => (intro w hSw; obtain ⟨s1, s2, s3⟩ := hSw; go_simp; try with_reducible rfl)
          try simp only [Act.put, List.setIfInBounds_toArray, List.set_cons_zero, List.set_cons_succ]
          refine wpAnyH_ready (rs := [15]) (by kernel_rfl) (by simp) ?_
          refine AllReadyH.cons (o := { dst := some 58, op := Op.buildSlice 22 1 #[(0, Operand.tmp 57)], type := 22, pos := "change.go:63", after := #[{ on := 14, ground := Ground.data }], guard := none }) rfl (fun K hK => ?_) ?_
          · skip
            rw [if_pos (by rfl)]
            go_simp
            have BK : Hid ((w8.alloc (.cells #[.int .u64 qn, .string t1, .string t3, .bool (t2.toList == (goneN true).toList)] 39)).heap[w8.heap.size]? = some (.cells #[.int .u64 qn, .string t1, .string t3, .bool (t2.toList == (goneN true).toList)] 39 (0, 0))) := blk_new _ _
            have RB9 := Lib.hid (RBX.out.step (belowA w8 (.cells #[.int .u64 qn, .string t1, .string t3, .bool (t2.toList == (goneN true).toList)] 39)))
            have S9 := (⟨keepcA (.cells #[.int .u64 qn, .string t1, .string t3, .bool (t2.toList == (goneN true).toList)] 39) hHeld.1, keepcA _ hHeld.2.1, keepcA _ hHeld.2.2⟩ : (w8.alloc (.cells #[.int .u64 qn, .string t1, .string t3, .bool (t2.toList == (goneN true).toList)] 39)).cell? ⟨b, 4 * k + 1, none⟩ = some (.string t1) ∧ (w8.alloc (.cells #[.int .u64 qn, .string t1, .string t3, .bool (t2.toList == (goneN true).toList)] 39)).cell? ⟨b, 4 * k + 2, none⟩ = some (.string t2) ∧ (w8.alloc (.cells #[.int .u64 qn, .string t1, .string t3, .bool (t2.toList == (goneN true).toList)] 39)).cell? ⟨b, 4 * k + 3, none⟩ = some (.string t3))
            clear hHeld RBX
            have RBX := RB9
            clear RB9
            generalize w8.alloc (.cells #[.int .u64 qn, .string t1, .string t3, .bool (t2.toList == (goneN true).toList)] 39) = w9 at BK RBX S9 ⊢
            generalize w8.heap.size = g9 at BK ⊢
            refine hK.out _ _ S9 (fun hHeld => ?_)
            clear hK K S9
            try simp only [Act.put, List.setIfInBounds_toArray, List.set_cons_zero, List.set_cons_succ]
            refine wpAnyH_ready (rs := [16]) (by kernel_rfl) (by simp) ?_
            refine AllReadyH.cons (o := { dst := some 59, op := Op.call { callee := Callee.builtin Builtin.append, args := #[Operand.tmp 43, Operand.tmp 58], argTypes := #[22, 22] }, type := 22, pos := "change.go:63", after := #[{ on := 0, ground := Ground.data }, { on := 15, ground := Ground.data }, { on := 8, ground := Ground.chain }], guard := none }) rfl (fun K hK => ?_) AllReadyH.nil
            refine step_append_lies _ rfl (.tmp 43) (.tmp 58) 22 rfl w1.heap.size 39 i0 (.agg #[(.int .u64 0), (.string ⟨#[]⟩), (.string ⟨#[]⟩), (.bool false)]) 4 48 Try.underlying22 hi hy0 hy1 hy2 rfl (by decide) v (pre.filterMap (nAt ts)).length (fl (pre.filterMap (nAt ts))) rfl RBX.out.row _ 1 1 [.int .u64 qn, .string t1, .string t3, .bool (t2.toList == (goneN true).toList)] rfl rfl (World.news_of_block BK.out) (enc_one ⟨qn, ⟨t1, t3, _⟩⟩) (by decide) hb1 hb2 (Nat.le_of_lt RBX.out.box.lt) _ rfl ?_
            intro g cap w10 hown hgrow _ _
            obtain ⟨hx, hbx, RBY⟩ := RBX.out.append hown hgrow
            refine hK.out _ _ ⟨(hbx.cell (p := ⟨b, 4 * k + 1, none⟩) hblt).trans e1, (hbx.cell (p := ⟨b, 4 * k + 2, none⟩) hblt).trans e2, (hbx.cell (p := ⟨b, 4 * k + 3, none⟩) hblt).trans e3⟩ (fun hHeld => ?_)
            clear hK K hHeld
            try simp only [Act.put, List.setIfInBounds_toArray, List.set_cons_zero, List.set_cons_succ]
            refine wpAnyH_ready (rs := [17]) (by kernel_rfl) (by simp) ?_
            refine AllReadyH.cons (o := { dst := none, op := Op.store 22 (Operand.tmp 6) (Operand.tmp 59), type := 0, pos := "change.go:63", after := #[{ on := 16, ground := Ground.data }, { on := 16, ground := Ground.chain }, { on := 0, ground := Ground.phase }, { on := 1, ground := Ground.phase }, { on := 2, ground := Ground.phase }, { on := 3, ground := Ground.phase }, { on := 4, ground := Ground.phase }, { on := 5, ground := Ground.phase }, { on := 6, ground := Ground.phase }, { on := 7, ground := Ground.phase }, { on := 8, ground := Ground.phase }, { on := 9, ground := Ground.phase }, { on := 10, ground := Ground.phase }, { on := 11, ground := Ground.phase }, { on := 12, ground := Ground.phase }, { on := 13, ground := Ground.phase }, { on := 14, ground := Ground.phase }, { on := 15, ground := Ground.phase }, { on := 16, ground := Ground.phase }], guard := none }) rfl (fun K hK => ?_) AllReadyH.nil
            rw [if_pos (by rfl)]
            have hxc := hx.cell
            have hxf := hx.frozen
            have hRBY := Lib.hid RBY
            clear RBY hgrow hown hbx RBX
            go_simp
            refine hK.out _ _ ⟨(hRBY.out.bel.cell (p := ⟨b, 4 * k + 1, none⟩) hblt).trans e1, (hRBY.out.bel.cell (p := ⟨b, 4 * k + 2, none⟩) hblt).trans e2, (hRBY.out.bel.cell (p := ⟨b, 4 * k + 3, none⟩) hblt).trans e3⟩ (fun hHeld => ?_)
            refine wpAnyH_done (by kernel_rfl) ?_ _
            exact TI_next hall HE hbs hbn hRBY.out
          exact AllReadyH.nil
        exact AllReadyH.nil
      refine AllReadyH.cons (o := { dst := some 51, op := Op.call { callee := Callee.value (Operand.func 30), args := #[Operand.const (Value.bool true)], argTypes := #[4] }, type := 9, pos := "change.go:63", after := #[], guard := none }) rfl (fun K hK => ?_) ?_
      · skip
        rw [if_pos (by rfl)]
        go_simp
        refine (HG.out _).mono ?_
        rintro e8 w8 ⟨rfl, hb8⟩
        refine hK.out _ _ (by obtain ⟨s1, s2, s3⟩ := hHeld; exact ⟨(keepc hb8 s1), (keepc hb8 s2), (keepc hb8 s3)⟩) (fun hHeld => ?_)
        replace RBX := Lib.hid (RBX.out.step hb8)
        clear hK K hb8
        try simp only [Act.put, List.setIfInBounds_toArray, List.set_cons_zero, List.set_cons_succ]
        refine wpAnyH_take (i := 9) (oi := { dst := some 52, op := Op.binOp BinOp.eql 9 (Operand.tmp 50) (Operand.tmp 51) 9, type := 4, pos := "change.go:63", after := #[{ on := 7, ground := Ground.data }, { on := 8, ground := Ground.data }], guard := none }) (v := ?v14) rfl (by kernel_rfl) (by kernel_rfl) (by kernel_rfl) (fun _ _ _ h => h) (Or.inl ⟨by rfl, ?y14⟩) (by assumption) ?r14
        case y14 => (intro w hSw; obtain ⟨s1, s2, s3⟩ := hSw; go_simp; try with_reducible rfl)
        try simp only [Act.put, List.setIfInBounds_toArray, List.set_cons_zero, List.set_cons_succ]
        refine wpAnyH_take (i := 13) (oi := { dst := some 56, op := Op.build 37 #[(0, Operand.tmp 47), (2, Operand.tmp 52), (1, Operand.tmp 55)], type := 37, pos := "change.go:63", after := #[{ on := 4, ground := Ground.data }, { on := 9, ground := Ground.data }, { on := 12, ground := Ground.data }], guard := none }) (v := ?v15) rfl (by kernel_rfl) (by kernel_rfl) (by kernel_rfl) (fun _ _ _ h => h) (Or.inl ⟨by rfl, ?y15⟩) (by assumption) ?r15
        case y15 => (intro w hSw; obtain ⟨s1, s2, s3⟩ := hSw; go_simp; try with_reducible rfl)
        try simp only [Act.put, List.setIfInBounds_toArray, List.set_cons_zero, List.set_cons_succ]
        refine wpAnyH_take (i := 14) (oi := { dst := some 57, op := Op.build 39 #[(0, Operand.tmp 44), (1, Operand.tmp 56)], type := 39, pos := "change.go:63", after := #[{ on := 1, ground := Ground.data }, { on := 13, ground := Ground.data }], guard := none }) (v := ?v16) rfl (by kernel_rfl) (by kernel_rfl) (by kernel_rfl) (fun _ _ _ h => h) (Or.inl ⟨by rfl, ?y16⟩) (by assumption) ?r16
        case y16 => (intro w hSw; obtain ⟨s1, s2, s3⟩ := hSw; go_simp; try with_reducible rfl)
        try simp only [Act.put, List.setIfInBounds_toArray, List.set_cons_zero, List.set_cons_succ]
        refine wpAnyH_ready (rs := [0, 15]) (by kernel_rfl) (by simp) ?_
        refine AllReadyH.cons (o := { dst := some 43, op := Op.load 22 (Operand.tmp 6), type := 22, pos := "change.go:63", after := #[], guard := none }) rfl (fun K hK => ?_) ?_
        · skip
          rw [if_pos (by rfl)]
          have hc0 := RBX.out.box.cell
          have hc1 := RB0.out.box.cell
          go_simp
          refine hK.out _ _ (by assumption) (fun hHeld => ?_)
          clear hK K hc0 hc1
          try simp only [Act.put, List.setIfInBounds_toArray, List.set_cons_zero, List.set_cons_succ]
          refine wpAnyH_ready (rs := [15]) (by kernel_rfl) (by simp) ?_
          refine AllReadyH.cons (o := { dst := some 58, op := Op.buildSlice 22 1 #[(0, Operand.tmp 57)], type := 22, pos := "change.go:63", after := #[{ on := 14, ground := Ground.data }], guard := none }) rfl (fun K hK => ?_) ?_
          · skip
            rw [if_pos (by rfl)]
            go_simp
            have BK : Hid ((w8.alloc (.cells #[.int .u64 qn, .string t1, .string t3, .bool (t2.toList == (goneN true).toList)] 39)).heap[w8.heap.size]? = some (.cells #[.int .u64 qn, .string t1, .string t3, .bool (t2.toList == (goneN true).toList)] 39 (0, 0))) := blk_new _ _
            have RB9 := Lib.hid (RBX.out.step (belowA w8 (.cells #[.int .u64 qn, .string t1, .string t3, .bool (t2.toList == (goneN true).toList)] 39)))
            have S9 := (⟨keepcA (.cells #[.int .u64 qn, .string t1, .string t3, .bool (t2.toList == (goneN true).toList)] 39) hHeld.1, keepcA _ hHeld.2.1, keepcA _ hHeld.2.2⟩ : (w8.alloc (.cells #[.int .u64 qn, .string t1, .string t3, .bool (t2.toList == (goneN true).toList)] 39)).cell? ⟨b, 4 * k + 1, none⟩ = some (.string t1) ∧ (w8.alloc (.cells #[.int .u64 qn, .string t1, .string t3, .bool (t2.toList == (goneN true).toList)] 39)).cell? ⟨b, 4 * k + 2, none⟩ = some (.string t2) ∧ (w8.alloc (.cells #[.int .u64 qn, .string t1, .string t3, .bool (t2.toList == (goneN true).toList)] 39)).cell? ⟨b, 4 * k + 3, none⟩ = some (.string t3))
            clear hHeld RBX
            have RBX := RB9
            clear RB9
            generalize w8.alloc (.cells #[.int .u64 qn, .string t1, .string t3, .bool (t2.toList == (goneN true).toList)] 39) = w9 at BK RBX S9 ⊢
            generalize w8.heap.size = g9 at BK ⊢
            refine hK.out _ _ S9 (fun hHeld => ?_)
            clear hK K S9
            try simp only [Act.put, List.setIfInBounds_toArray, List.set_cons_zero, List.set_cons_succ]
            refine wpAnyH_ready (rs := [16]) (by kernel_rfl) (by simp) ?_
            refine AllReadyH.cons (o := { dst := some 59, op := Op.call { callee := Callee.builtin Builtin.append, args := #[Operand.tmp 43, Operand.tmp 58], argTypes := #[22, 22] }, type := 22, pos := "change.go:63", after := #[{ on := 0, ground := Ground.data }, { on := 15, ground := Ground.data }, { on := 8, ground := Ground.chain }], guard := none }) rfl (fun K hK => ?_) AllReadyH.nil
            refine step_append_lies _ rfl (.tmp 43) (.tmp 58) 22 rfl w1.heap.size 39 i0 (.agg #[(.int .u64 0), (.string ⟨#[]⟩), (.string ⟨#[]⟩), (.bool false)]) 4 48 Try.underlying22 hi hy0 hy1 hy2 rfl (by decide) v (pre.filterMap (nAt ts)).length (fl (pre.filterMap (nAt ts))) rfl RBX.out.row _ 1 1 [.int .u64 qn, .string t1, .string t3, .bool (t2.toList == (goneN true).toList)] rfl rfl (World.news_of_block BK.out) (enc_one ⟨qn, ⟨t1, t3, _⟩⟩) (by decide) hb1 hb2 (Nat.le_of_lt RBX.out.box.lt) _ rfl ?_
            intro g cap w10 hown hgrow _ _
            obtain ⟨hx, hbx, RBY⟩ := RBX.out.append hown hgrow
            refine hK.out _ _ ⟨(hbx.cell (p := ⟨b, 4 * k + 1, none⟩) hblt).trans e1, (hbx.cell (p := ⟨b, 4 * k + 2, none⟩) hblt).trans e2, (hbx.cell (p := ⟨b, 4 * k + 3, none⟩) hblt).trans e3⟩ (fun hHeld => ?_)
            clear hK K hHeld
            try simp only [Act.put, List.setIfInBounds_toArray, List.set_cons_zero, List.set_cons_succ]
            refine wpAnyH_ready (rs := [17]) (by kernel_rfl) (by simp) ?_
            refine AllReadyH.cons (o := { dst := none, op := Op.store 22 (Operand.tmp 6) (Operand.tmp 59), type := 0, pos := "change.go:63", after := #[{ on := 16, ground := Ground.data }, { on := 16, ground := Ground.chain }, { on := 0, ground := Ground.phase }, { on := 1, ground := Ground.phase }, { on := 2, ground := Ground.phase }, { on := 3, ground := Ground.phase }, { on := 4, ground := Ground.phase }, { on := 5, ground := Ground.phase }, { on := 6, ground := Ground.phase }, { on := 7, ground := Ground.phase }, { on := 8, ground := Ground.phase }, { on := 9, ground := Ground.phase }, { on := 10, ground := Ground.phase }, { on := 11, ground := Ground.phase }, { on := 12, ground := Ground.phase }, { on := 13, ground := Ground.phase }, { on := 14, ground := Ground.phase }, { on := 15, ground := Ground.phase }, { on := 16, ground := Ground.phase }], guard := none }) rfl (fun K hK => ?_) AllReadyH.nil
            rw [if_pos (by rfl)]
            have hxc := hx.cell
            have hxf := hx.frozen
            have hRBY := Lib.hid RBY
            clear RBY hgrow hown hbx RBX
            go_simp
            refine hK.out _ _ ⟨(hRBY.out.bel.cell (p := ⟨b, 4 * k + 1, none⟩) hblt).trans e1, (hRBY.out.bel.cell (p := ⟨b, 4 * k + 2, none⟩) hblt).trans e2, (hRBY.out.bel.cell (p := ⟨b, 4 * k + 3, none⟩) hblt).trans e3⟩ (fun hHeld => ?_)
            refine wpAnyH_done (by kernel_rfl) ?_ _
            exact TI_next hall HE hbs hbn hRBY.out
          exact AllReadyH.nil
        refine AllReadyH.cons (o := { dst := some 58, op := Op.buildSlice 22 1 #[(0, Operand.tmp 57)], type := 22, pos := "change.go:63", after := #[{ on := 14, ground := Ground.data }], guard := none }) rfl (fun K hK => ?_) ?_
        · skip
          rw [if_pos (by rfl)]
          go_simp
          have BK : Hid ((w8.alloc (.cells #[.int .u64 qn, .string t1, .string t3, .bool (t2.toList == (goneN true).toList)] 39)).heap[w8.heap.size]? = some (.cells #[.int .u64 qn, .string t1, .string t3, .bool (t2.toList == (goneN true).toList)] 39 (0, 0))) := blk_new _ _
          have RB9 := Lib.hid (RBX.out.step (belowA w8 (.cells #[.int .u64 qn, .string t1, .string t3, .bool (t2.toList == (goneN true).toList)] 39)))
          have S9 := (⟨keepcA (.cells #[.int .u64 qn, .string t1, .string t3, .bool (t2.toList == (goneN true).toList)] 39) hHeld.1, keepcA _ hHeld.2.1, keepcA _ hHeld.2.2⟩ : (w8.alloc (.cells #[.int .u64 qn, .string t1, .string t3, .bool (t2.toList == (goneN true).toList)] 39)).cell? ⟨b, 4 * k + 1, none⟩ = some (.string t1) ∧ (w8.alloc (.cells #[.int .u64 qn, .string t1, .string t3, .bool (t2.toList == (goneN true).toList)] 39)).cell? ⟨b, 4 * k + 2, none⟩ = some (.string t2) ∧ (w8.alloc (.cells #[.int .u64 qn, .string t1, .string t3, .bool (t2.toList == (goneN true).toList)] 39)).cell? ⟨b, 4 * k + 3, none⟩ = some (.string t3))
          clear hHeld RBX
          have RBX := RB9
          clear RB9
          generalize w8.alloc (.cells #[.int .u64 qn, .string t1, .string t3, .bool (t2.toList == (goneN true).toList)] 39) = w9 at BK RBX S9 ⊢
          generalize w8.heap.size = g9 at BK ⊢
          refine hK.out _ _ S9 (fun hHeld => ?_)
          clear hK K S9
          try simp only [Act.put, List.setIfInBounds_toArray, List.set_cons_zero, List.set_cons_succ]
          refine wpAnyH_ready (rs := [0]) (by kernel_rfl) (by simp) ?_
          refine AllReadyH.cons (o := { dst := some 43, op := Op.load 22 (Operand.tmp 6), type := 22, pos := "change.go:63", after := #[], guard := none }) rfl (fun K hK => ?_) ?_
          · skip
            rw [if_pos (by rfl)]
            have hc0 := RBX.out.box.cell
            have hc1 := RB0.out.box.cell
            go_simp
            refine hK.out _ _ (by assumption) (fun hHeld => ?_)
            clear hK K hc0 hc1
            try simp only [Act.put, List.setIfInBounds_toArray, List.set_cons_zero, List.set_cons_succ]
            refine wpAnyH_ready (rs := [16]) (by kernel_rfl) (by simp) ?_
            refine AllReadyH.cons (o := { dst := some 59, op := Op.call { callee := Callee.builtin Builtin.append, args := #[Operand.tmp 43, Operand.tmp 58], argTypes := #[22, 22] }, type := 22, pos := "change.go:63", after := #[{ on := 0, ground := Ground.data }, { on := 15, ground := Ground.data }, { on := 8, ground := Ground.chain }], guard := none }) rfl (fun K hK => ?_) AllReadyH.nil
            refine step_append_lies _ rfl (.tmp 43) (.tmp 58) 22 rfl w1.heap.size 39 i0 (.agg #[(.int .u64 0), (.string ⟨#[]⟩), (.string ⟨#[]⟩), (.bool false)]) 4 48 Try.underlying22 hi hy0 hy1 hy2 rfl (by decide) v (pre.filterMap (nAt ts)).length (fl (pre.filterMap (nAt ts))) rfl RBX.out.row _ 1 1 [.int .u64 qn, .string t1, .string t3, .bool (t2.toList == (goneN true).toList)] rfl rfl (World.news_of_block BK.out) (enc_one ⟨qn, ⟨t1, t3, _⟩⟩) (by decide) hb1 hb2 (Nat.le_of_lt RBX.out.box.lt) _ rfl ?_
            intro g cap w10 hown hgrow _ _
            obtain ⟨hx, hbx, RBY⟩ := RBX.out.append hown hgrow
            refine hK.out _ _ ⟨(hbx.cell (p := ⟨b, 4 * k + 1, none⟩) hblt).trans e1, (hbx.cell (p := ⟨b, 4 * k + 2, none⟩) hblt).trans e2, (hbx.cell (p := ⟨b, 4 * k + 3, none⟩) hblt).trans e3⟩ (fun hHeld => ?_)
            clear hK K hHeld
            try simp only [Act.put, List.setIfInBounds_toArray, List.set_cons_zero, List.set_cons_succ]
            refine wpAnyH_ready (rs := [17]) (by kernel_rfl) (by simp) ?_
            refine AllReadyH.cons (o := { dst := none, op := Op.store 22 (Operand.tmp 6) (Operand.tmp 59), type := 0, pos := "change.go:63", after := #[{ on := 16, ground := Ground.data }, { on := 16, ground := Ground.chain }, { on := 0, ground := Ground.phase }, { on := 1, ground := Ground.phase }, { on := 2, ground := Ground.phase }, { on := 3, ground := Ground.phase }, { on := 4, ground := Ground.phase }, { on := 5, ground := Ground.phase }, { on := 6, ground := Ground.phase }, { on := 7, ground := Ground.phase }, { on := 8, ground := Ground.phase }, { on := 9, ground := Ground.phase }, { on := 10, ground := Ground.phase }, { on := 11, ground := Ground.phase }, { on := 12, ground := Ground.phase }, { on := 13, ground := Ground.phase }, { on := 14, ground := Ground.phase }, { on := 15, ground := Ground.phase }, { on := 16, ground := Ground.phase }], guard := none }) rfl (fun K hK => ?_) AllReadyH.nil
            rw [if_pos (by rfl)]
            have hxc := hx.cell
            have hxf := hx.frozen
            have hRBY := Lib.hid RBY
            clear RBY hgrow hown hbx RBX
            go_simp
            refine hK.out _ _ ⟨(hRBY.out.bel.cell (p := ⟨b, 4 * k + 1, none⟩) hblt).trans e1, (hRBY.out.bel.cell (p := ⟨b, 4 * k + 2, none⟩) hblt).trans e2, (hRBY.out.bel.cell (p := ⟨b, 4 * k + 3, none⟩) hblt).trans e3⟩ (fun hHeld => ?_)
            refine wpAnyH_done (by kernel_rfl) ?_ _
            exact TI_next hall HE hbs hbn hRBY.out
          exact AllReadyH.nil
        exact AllReadyH.nil
      exact AllReadyH.nil
    · rw [if_neg hq] at HE
      have hq2 : qe ≠ 0 ∨ qr.toList.isEmpty = false := by
        by_cases h : qe = 0
        · exact .inr (by cases h2 : qr.toList.isEmpty; rfl; exact absurd ⟨h, h2⟩ hq)
        · exact .inl h
      rcases hq2 with hq2 | hq2
      · gi_wp2_with (refine ⟨trivial, ?_⟩; gi_at_call 36; refine (CallsIn.inRound l (callsIn_wide.2 (HN _))).mono ?_; rintro e w2 ⟨rfl, ⟨⟨nd, rfl⟩⟩⟩)
        exact TX_ret (Nat.le_refl _) (by omega) hb0 hB HE r0 r1
      · gi_wp2_with (refine ⟨trivial, ?_⟩; gi_at_call 36; refine (CallsIn.inRound l (callsIn_wide.2 (HN _))).mono ?_; rintro e w2 ⟨rfl, ⟨⟨nd, rfl⟩⟩⟩)
        all_goals exact TX_ret (Nat.le_refl _) (by omega) hb0 hB HE r0 r1
  case done =>
    rintro D ys W hD rfl ⟨⟨v, hv, hrow, hall⟩, hB, hbs, hbn⟩ hK
    have hN : NRow W w1.heap.size v ((List.finRange m).filterMap (nAt ts)) := hrow
    have hT : takeR s = if (layR ((List.finRange m).filterMap (nAt ts))).2 = 0 ∧ (layR ((List.finRange m).filterMap (nAt ts))).1 = s then ((List.finRange m).filterMap (nAt ts), 0) else ([], 2) := by
      unfold takeR
      rw [hts]
      simp only
      rw [if_pos ⟨trivial, by omega⟩, takeN_all hm hall]
    obtain ⟨A2, c2, rfl, hc2, hC⟩ := hN.reads
    have HT := Lib.hid hT
    have HN := Lib.hid hN
    clear hT hall hbs hbn hN hrow
    have r0 := (hB.cell (p := ⟨w.heap.size, 0, none⟩) (by show w.heap.size < _; omega)).trans hR0.cell
    have r1 := (hB.cell (p := ⟨w.heap.size + 1, 0, none⟩) (by show w.heap.size + 1 < _; omega)).trans hR1.cell
    have f0 := (hB.frozen (p := ⟨w.heap.size, 0, none⟩) (by show w.heap.size < _; omega)).trans hR0.frozen
    have f1 := (hB.frozen (p := ⟨w.heap.size + 1, 0, none⟩) (by show w.heap.size + 1 < _; omega)).trans hR1.frozen
    have hRlt : w.heap.size + 1 < W.heap.size := by have := hB.size; omega
    have HL := Lib.hid (lay.walk A2 c2 _ W hC)
    have hvc := hv.cell
    have HB := Lib.hid (hb0.trans (hB.mono (by omega)))
    have hDs : w.heap.size ≤ D := by simp at hD; omega
    have hDlt : D < W.heap.size := (Array.getElem?_eq_some_iff.1 hK).1
    generalize hns : (List.finRange m).filterMap (nAt ts) = ns at *
    have HC := Lib.hid hC
    clear hC hns hB hD
    generalize layR ns = lr at *
    obtain ⟨own, le⟩ := lr
    have HV := Lib.hid hv
    by_cases hl : le = 0 ∧ own = s
    · obtain ⟨rfl, rfl⟩ := hl
      gi_wp2_with (refine ⟨trivial, ?_⟩; gi_at_call 11; refine (callsIn_wide.2 HL.out).mono ?_; rintro e w3 ⟨rfl, hb3⟩; have v3 := (hb3.cell (p := ⟨w1.heap.size, 0, none⟩) HV.out.lt).trans hvc; have q0 := (hb3.cell (p := ⟨w.heap.size, 0, none⟩) (by show w.heap.size < _; omega)).trans r0; have q1 := (hb3.cell (p := ⟨w.heap.size + 1, 0, none⟩) hRlt).trans r1; have g0 := (hb3.frozen (p := ⟨w.heap.size, 0, none⟩) (by show w.heap.size < _; omega)).trans f0; have g1 := (hb3.frozen (p := ⟨w.heap.size + 1, 0, none⟩) hRlt).trans f1; have HB3 := Lib.hid hb3; clear hb3)
      obtain ⟨hK5, z0, z1, hbF⟩ := fin_world (D := D) (v0 := .slice A2 ns.length c2) (v1 := .int .i64 0) ((HB3.out.block _ hDlt).trans hK) q0 q1 (Nat.le_refl _) hDs (Nat.le_trans HB.out.size HB3.out.size) (HB.out.trans (HB3.out.mono (by omega)))
      refine ⟨by simp, .inl ⟨_, _, rfl, run_takeDeferred hK5, ?_⟩⟩
      rw [HT.out, if_pos (by simp)]
      exact ⟨.tuple #[.slice A2 ns.length c2, .int .i64 0], by simp [results, Try.f13, go_sem, z0, z1], _, rfl, fin_row (HN.out.below HB3.out) (by omega) hK5, hbF⟩
    · gi_wp2_with (refine ⟨trivial, ?_⟩; gi_at_call 11; refine (callsIn_wide.2 HL.out).mono ?_; rintro e w3 ⟨rfl, hb3⟩; have v3 := (hb3.cell (p := ⟨w1.heap.size, 0, none⟩) HV.out.lt).trans hvc; have q0 := (hb3.cell (p := ⟨w.heap.size, 0, none⟩) (by show w.heap.size < _; omega)).trans r0; have q1 := (hb3.cell (p := ⟨w.heap.size + 1, 0, none⟩) hRlt).trans r1; have g0 := (hb3.frozen (p := ⟨w.heap.size, 0, none⟩) (by show w.heap.size < _; omega)).trans f0; have g1 := (hb3.frozen (p := ⟨w.heap.size + 1, 0, none⟩) hRlt).trans f1; have HB3 := Lib.hid hb3; clear hb3)
      all_goals (try (exfalso; rename_i ha hb; exact hl ⟨ha, bytes_eq (by simpa using hb)⟩))
      all_goals
        obtain ⟨hK5, z0, z1, hbF⟩ := fin_world (D := D) (v0 := .slice none 0 0) (v1 := .int .i64 2) ((HB3.out.block _ hDlt).trans hK) q0 q1 (Nat.le_refl _) hDs (Nat.le_trans HB.out.size HB3.out.size) (HB.out.trans (HB3.out.mono (by omega)))
        refine ⟨by simp, .inl ⟨_, _, rfl, run_takeDeferred hK5, ?_⟩⟩
        rw [HT.out, if_neg hl]
        exact ⟨.tuple #[.slice none 0 0, .int .i64 2], by simp [results, Try.f13, go_sem, z0, z1], _, rfl, NRow.nil _ _, hbF⟩
  case stop =>
    rintro D c pre W hD hpre ⟨rfl, ⟨x, hx, hn⟩, q0, q1, hB⟩ hK
    have hT : takeR s = ([], 2) := by
      unfold takeR
      rw [hts]
      simp only
      rw [if_pos ⟨trivial, by omega⟩, takeN_none hm hn]
    have HT := Lib.hid hT
    clear hT
    gi_wp2
    refine ⟨by simp, .inl ⟨_, _, rfl, run_takeDeferred hK, ?_⟩⟩
    have z0 := cell_kept q0 (grownBy_putObj' _ D (.deferred none)) (fun r e => by cases e; exact ⟨_, hK, rfl⟩)
    have z1 := cell_kept q1 (grownBy_putObj' _ D (.deferred none)) (fun r e => by cases e; exact ⟨_, hK, rfl⟩)
    rw [HT.out]
    refine ⟨.tuple #[.slice none 0 0, .int .i64 2], by simp [results, Try.f13, go_sem, z0, z1], _, rfl, NRow.nil _ _, hB.trans (belowK_b (w := w) (Nat.le_refl _) W D _ _ (by simp at hD; omega) hK rfl rfl)⟩

end Go.Proofs.Ytipahpkdddijmaa.Q

-- F13
namespace Go.Proofs.Ytipahpkdddijmaa.Q
open Go.RowKit Go.Shelf Go.Proofs.YtipahpkdddijmaaW.PrintWords
set_option linter.unusedVariables false
set_option linter.unusedSimpArgs false
set_option maxRecDepth 100000 in
set_option maxHeartbeats 4000000 in
/-- change.Take, at any octets. -/
theorem take_any.walk (s : ByteArray) (w : World) :
    Calls Try.prog 13 #[.string s] w fun e w' => ∃ v, e = .returned (.tuple #[v, .int .i64 (takeR s).2]) ∧ NRow w' w.heap.size v (takeR s).1 ∧ Below w.heap.size w w' := by
  by_cases hc : (wholeW s).2 = 0 ∧ (wholeW s).1.length % 4 = 0
  · obtain ⟨ts, hts⟩ : ∃ ts, wholeW s = (ts, 0) := ⟨(wholeW s).1, by rw [← hc.1]⟩
    rw [hts] at hc
    exact take_all.walk s w ts (ts.length / 4) hts (by have := hc.2; simp only at this; omega)
  · have HT : takeR s = ([], 2) := by unfold takeR; rw [if_neg hc]
    rw [HT]
    have HW := Lib.hid (whole.walk s)
    generalize wholeW s = q at *
    obtain ⟨ts, e⟩ := q
    simp only at hc HW
    have hc' : e ≠ 0 ∨ (e = 0 ∧ ((ts.length : Int).tmod 4 == 0) = false) := by
      by_cases h : e = 0
      · refine .inr ⟨h, ?_⟩
        rw [beq_eq_false_iff_ne]
        intro h2
        rw [Int.tmod_eq_emod_of_nonneg (by omega)] at h2
        exact hc ⟨h, by omega⟩
      · exact .inl h
    have hc2 : e = 0 → ((ts.length : Int) % 4 != 0) = true := by
      intro h
      rw [bne_iff_ne]
      intro h2
      exact hc ⟨h, by omega⟩
    rcases hc' with hc' | ⟨rfl, hc'⟩
    · go_enter Try.func13, Try.ntmps13
      go_wp2_with (go_at_call 34; go_must (refine (HW.out _).mono ?_; rintro e w1 ⟨v, rfl, ho, hb⟩; obtain ⟨A, b, c, rfl, hcc, hcm, hA⟩ := string_row ho; clear ho hcc hcm hA; have HB1 := Lib.hid hb; have hR0 : Boxed w1 w.heap.size 22 (.slice none 0 0) := (hb.block _ (by simp; try omega)).trans (((Boxed.new w 22 (.slice none 0 0)).alloc _)); have hR1 : Boxed w1 (w.heap.size + 1) 24 (.int .i64 0) := (hb.block _ (by simp)).trans (by have := Boxed.new (w.alloc (.cells #[.slice none 0 0] 22)) 24 (.int .i64 0); rwa [World.size_alloc] at this); have q0 := hR0.cell; have q1 := hR1.cell; have g0 := hR0.frozen; have g1 := hR1.frozen; have HB2 := Lib.hid ((((Below.refl _ w).alloc (Nat.le_refl _) (.cells #[.slice none 0 0] 22)).alloc (by simp) (.cells #[.int .i64 0] 24)).trans (hb.mono (by simp; try omega)) : Below w.heap.size w w1); clear hb hR0 hR1))
      have e0 : (w1.setCell ⟨w.heap.size, 0, none⟩ (.slice none 0 0)).cell? ⟨w.heap.size, 0, none⟩ = some (.slice none 0 0) := World.cell?_setCell_same' _ _ _ (by rw [q0]; rfl)
      have e2 : ((w1.setCell ⟨w.heap.size, 0, none⟩ (.slice none 0 0)).setCell ⟨w.heap.size + 1, 0, none⟩ (.int .i64 2)).cell? ⟨w.heap.size, 0, none⟩ = some (.slice none 0 0) := by
        rw [World.cell?_of_block (Below.heap_setCell _ _ _ _ (by show w.heap.size ≠ w.heap.size + 1; omega))]; exact e0
      refine bodyPost_ret (v := .tuple #[.slice none 0 0, .int .i64 2]) ?_ rfl ?_
      · simp [results, Try.results13, go_sem, q0, q1, e0, e2]
      · exact ⟨_, rfl, NRow.nil _ _, (HB2.out.setCell (p := ⟨w.heap.size, 0, none⟩) (Nat.le_refl _) _).setCell (p := ⟨w.heap.size + 1, 0, none⟩) (by show w.heap.size ≤ w.heap.size + 1; omega) _⟩
    · have hc3 := hc2 rfl
      go_enter Try.func13, Try.ntmps13
      go_wp2_with (go_at_call 34; go_must (refine (HW.out _).mono ?_; rintro e w1 ⟨v, rfl, ho, hb⟩; obtain ⟨A, b, c, rfl, hcc, hcm, hA⟩ := string_row ho; clear ho hcc hcm hA; have HB1 := Lib.hid hb; have hR0 : Boxed w1 w.heap.size 22 (.slice none 0 0) := (hb.block _ (by simp; try omega)).trans (((Boxed.new w 22 (.slice none 0 0)).alloc _)); have hR1 : Boxed w1 (w.heap.size + 1) 24 (.int .i64 0) := (hb.block _ (by simp)).trans (by have := Boxed.new (w.alloc (.cells #[.slice none 0 0] 22)) 24 (.int .i64 0); rwa [World.size_alloc] at this); have q0 := hR0.cell; have q1 := hR1.cell; have g0 := hR0.frozen; have g1 := hR1.frozen; have HB2 := Lib.hid ((((Below.refl _ w).alloc (Nat.le_refl _) (.cells #[.slice none 0 0] 22)).alloc (by simp) (.cells #[.int .i64 0] 24)).trans (hb.mono (by simp; try omega)) : Below w.heap.size w w1); clear hb hR0 hR1))
      have e0 : (w1.setCell ⟨w.heap.size, 0, none⟩ (.slice none 0 0)).cell? ⟨w.heap.size, 0, none⟩ = some (.slice none 0 0) := World.cell?_setCell_same' _ _ _ (by rw [q0]; rfl)
      have e2 : ((w1.setCell ⟨w.heap.size, 0, none⟩ (.slice none 0 0)).setCell ⟨w.heap.size + 1, 0, none⟩ (.int .i64 2)).cell? ⟨w.heap.size, 0, none⟩ = some (.slice none 0 0) := by
        rw [World.cell?_of_block (Below.heap_setCell _ _ _ _ (by show w.heap.size ≠ w.heap.size + 1; omega))]; exact e0
      refine bodyPost_ret (v := .tuple #[.slice none 0 0, .int .i64 2]) ?_ rfl ?_
      · simp [results, Try.results13, go_sem, q0, q1, e0, e2]
      · exact ⟨_, rfl, NRow.nil _ _, (HB2.out.setCell (p := ⟨w.heap.size, 0, none⟩) (Nat.le_refl _) _).setCell (p := ⟨w.heap.size + 1, 0, none⟩) (by show w.heap.size ≤ w.heap.size + 1; omega) _⟩
end Go.Proofs.Ytipahpkdddijmaa.Q

-- E9
namespace Go.Proofs.Ytipahpkdddijmaa.Q
open Go.RowKit Go.Proofs.YtipahpkdddijmaaW.PrintWords Go.Proofs.YtipahpkdddijmaaW.PrintLast Go.Proofs.YtipahpkdddijmaaW.PrintMore
set_option linter.unusedVariables false
/-! ### change.Take at any octets, in the print's form -/
def change_TakeA.f (a0 : ByteArray) : Option (List S39 × Int) := some (takeR a0)
theorem change_TakeA.calls (a0 : ByteArray) (r1 : List S39) (r2 : Int) (w : World) (h : change_TakeA.f a0 = some (r1, r2)) :
    Calls Try.prog 13 #[.string a0] w fun e w' => ∃ v0_ : Value, e = .returned (.tuple #[v0_, .int .i64 r2]) ∧ Kd.R k39 39 w' w.heap.size (fun _ => True) v0_ r1 ∧ Below w.heap.size w w' := by
  injection h with h
  have h1 : (takeR a0).1 = r1 := by rw [h]
  have h2 : (takeR a0).2 = r2 := by rw [h]
  subst h1
  subst h2
  refine (take_any.walk a0 w).mono ?_
  rintro e w' ⟨v, rfl, hn, hb⟩
  exact ⟨v, rfl, hn.R, hb⟩
end Go.Proofs.Ytipahpkdddijmaa.Q

-- L11
namespace Go.Proofs.Ytipahpkdddijmaa.Q
open Go.RowKit Go.Proofs.YtipahpkdddijmaaW.PrintWords Go.Proofs.YtipahpkdddijmaaW.PrintLast Go.Proofs.YtipahpkdddijmaaW.PrintMore
attribute [local go_sem] max2_int min2_int max_two min_two max_three min_three max_four min_four   -- for this text's walks alone
set_option linter.unusedVariables false
set_option linter.unusedSimpArgs false

/-! ### cellarerlaw12_ChangeSplits: function 6 -/
def cellarerlaw12_ChangeSplits.j0 : Nat → List (S39) → Int → ByteArray → Bool → Option (Bool)
  | 0, _, _, _, _ => none
  | k + 1, x0, x1, x5, x29 => if x29 = true then ((cellarerlaw12_awake.f).bind fun t222 => (some t222)) else (if (wrap64 ((x0.length : Int) - 1)) = 0 then (none) else (if 0 ≤ (wrap64 (1 + (Int.tmod (wrap64 (x1)) (wrap64 ((x0.length : Int) - 1))))) then (if (wrap64 (1 + (Int.tmod (wrap64 (x1)) (wrap64 ((x0.length : Int) - 1))))) ≤ (x0.length : Int) then ((change_Lay.f (x0.take ((wrap64 (1 + (Int.tmod (wrap64 (x1)) (wrap64 ((x0.length : Int) - 1))))) : Int).toNat)).bind fun bt227 => ((change_Lay.f (x0.drop ((wrap64 (1 + (Int.tmod (wrap64 (x1)) (wrap64 ((x0.length : Int) - 1))))) : Int).toNat)).bind fun bt233 => ((change_TakeA.f bt227.1).bind fun bt235 => ((change_TakeA.f bt233.1).bind fun bt239 => (if bt227.2 = 0 then (if bt233.2 = 0 then (if bt235.2 = 0 then (if bt239.2 = 0 then ((some (([] : List (S39)) : List (S39))).bind fun y243 => (if y243.length + bt235.1.length < 2932031007402 then ((some (y243 ++ bt235.1 : List (S39))).bind fun y246 => (if y246.length + bt239.1.length < 2932031007402 then ((cellarerref12_Same.f k (y246 ++ bt239.1) x0).bind fun t252 => (if t252 = true then (if (wrap64 ((bt227.1.size : Int) + (bt233.1.size : Int))) = (wrap64 ((x5.size : Int) + 2)) then ((cellarerlaw12_awake.f).bind fun t253 => (some t253)) else (some false)) else (some false))) else (none))) else (none))) else (some false)) else (some false)) else (some false)) else (some false)))))) else (none)) else (none)))
def cellarerlaw12_ChangeSplits.f (k : Nat) (l0 : List (S39)) (a1 : Int) : Option (Bool) := (cellarerlaw12_Few.f l0).bind fun t217 => ((change_Lay.f t217).bind fun bt220 => (if bt220.2 = 0 then (cellarerlaw12_ChangeSplits.j0 k t217 a1 bt220.1 (decide ((t217.length : Int) < 2))) else (cellarerlaw12_ChangeSplits.j0 k t217 a1 bt220.1 true)))
theorem cellarerlaw12_ChangeSplits.mono_l : ∀ k, (∀ y0 y1 y2 y3, LeO (cellarerlaw12_ChangeSplits.j0 k y0 y1 y2 y3) (cellarerlaw12_ChangeSplits.j0 (k + 1) y0 y1 y2 y3))
  | 0 => fun _ _ _ _ r h => by simp [cellarerlaw12_ChangeSplits.j0] at h
  | k + 1 => by
    have ih0 := cellarerlaw12_ChangeSplits.mono_l k
    · intro y0 y1 y2 y3
      unfold cellarerlaw12_ChangeSplits.j0
      repeat' first
      | (with_reducible exact ih0 _ _ _ _)
      | (with_reducible exact cellarerref12_Same.mono _ _ _)
      | (with_reducible exact LeO.refl _)
      | (with_reducible exact LeO.none _)
      | (with_reducible refine LeO.ite ?_ ?_)
      | (with_reducible refine LeO.bind ?_ (fun _ => ?_))
      | exact ih0 _ _ _ _
      | exact cellarerref12_Same.mono _ _ _
      | exact LeO.none _
      | refine LeO.ite ?_ ?_
      | refine LeO.bind ?_ (fun _ => ?_)
theorem cellarerlaw12_ChangeSplits.mono : ∀ a0 a1 k, LeO (cellarerlaw12_ChangeSplits.f k a0 a1) (cellarerlaw12_ChangeSplits.f (k + 1) a0 a1) := by
  intro a0 a1 k
  have ih0 := cellarerlaw12_ChangeSplits.mono_l k
  unfold cellarerlaw12_ChangeSplits.f
  repeat' first
      | (with_reducible exact ih0 _ _ _ _)
      | (with_reducible exact cellarerref12_Same.mono _ _ _)
      | (with_reducible exact LeO.refl _)
      | (with_reducible exact LeO.none _)
      | (with_reducible refine LeO.ite ?_ ?_)
      | (with_reducible refine LeO.bind ?_ (fun _ => ?_))
      | exact ih0 _ _ _ _
      | exact cellarerref12_Same.mono _ _ _
      | exact LeO.none _
      | refine LeO.ite ?_ ?_
      | refine LeO.bind ?_ (fun _ => ?_)
set_option maxHeartbeats 8000000 in
set_option maxRecDepth 100000 in
theorem cellarerlaw12_ChangeSplits.calls (k : Nat) (A0 : Option Addr) (c0 : Nat) (l0 : List (S39)) (a1 : Int) (r : Bool) (w : World) (hr0 : Kd.C k39 w A0 l0.length l0) (hc0 : l0.length ≤ c0) (h : cellarerlaw12_ChangeSplits.f k l0 a1 = some r) :
    Calls Try.prog 6 #[.slice A0 l0.length c0, .int .u8 a1] w fun e w' => e = .returned (.bool r) ∧ Below w.heap.size w w' := by
  have HR0 := Aside0.mk hr0
  have HC0 := Aside0.mk hc0
  clear hr0 hc0
  have HB := Aside0.mk (Below.refl w.heap.size w)
  have H : ((cellarerlaw12_Few.f l0).bind fun t217 => ((change_Lay.f t217).bind fun bt220 => (if bt220.2 = 0 then (cellarerlaw12_ChangeSplits.j0 k t217 a1 bt220.1 (decide ((t217.length : Int) < 2))) else (cellarerlaw12_ChangeSplits.j0 k t217 a1 bt220.1 true)))) = some r := h
  clear h
  replace H := Option.bind_eq_some_iff.mp H
  obtain ⟨t217, A30, H⟩ := H
  replace H : ((change_Lay.f t217).bind fun bt220 => (if bt220.2 = 0 then (cellarerlaw12_ChangeSplits.j0 k t217 a1 bt220.1 (decide ((t217.length : Int) < 2))) else (cellarerlaw12_ChangeSplits.j0 k t217 a1 bt220.1 true))) = some r := H
  have A3 := Aside0.mk A30
  clear A30
  replace H := Option.bind_eq_some_iff.mp H
  obtain ⟨⟨t220, t221⟩, A40, H⟩ := H
  replace H : (if t221 = 0 then (cellarerlaw12_ChangeSplits.j0 k t217 a1 t220 (decide ((t217.length : Int) < 2))) else (cellarerlaw12_ChangeSplits.j0 k t217 a1 t220 true)) = some r := H
  have A4 := Aside0.mk A40
  clear A40
  have HC5 := Aside0.mk H
  clear H
  go_enter Try.func6, Try.ntmps6
  go_upto_region 3 with (first | ((with_reducible refine gate_callee (f := 10) rfl ?_); refine goesL_ (some 17) rfl rfl Try.func10 (by kernel_rfl) rfl #[.slice A0 l0.length c0] rfl (by (try simp only [List.map_toArray, List.map_cons, List.map_nil]); first | done | rfl | (simp only [List.length_drop, List.length_take]; rfl)) ?_; (with_reducible refine (cellarerlaw12_Few.calls _ _ l0 t217 _ ?side1 ?side2 A3.out).mono ?_); (case side1 => repeat (first | exact HR0.out | (with_reducible refine Kd.C_alloc ?_ _) | (with_reducible refine Kd.C_drewN ?_ _) | (with_reducible refine Kd.C_drew ?_))); (case side2 => exact HC0.out); rintro e w6 ⟨v218, rfl, ho0, hb⟩; refine ⟨_, rfl, ?_⟩; have n0_ := Aside0.mk (Kd.R_lower ho0 (below_size (by repeat (first | (with_reducible first | exact HB.out | apply below_alloc | apply pw_below_drewN | apply below_drew1) | exact HB.out)))); have n1_ := Aside0.mk (below_step (by repeat (first | (with_reducible first | exact HB.out | apply below_alloc | apply pw_below_drewN | apply below_drew1) | exact HB.out)) hb); clear HB; have HO219 := n0_; have HB := n1_; clear n0_ n1_; (try clear hb); (try clear hb2); (try clear hk); (try clear hi); (try clear ho0); obtain ⟨Ao7, co7, eo7⟩ := Kd.R_slice HO219.out; subst eo7) | ((with_reducible refine gate_callee (f := 11) rfl ?_); refine goesL_ (some 20) rfl rfl Try.func11 (by kernel_rfl) rfl #[.slice Ao7 t217.length co7] rfl (by (try simp only [List.map_toArray, List.map_cons, List.map_nil]); first | done | rfl | (simp only [List.length_drop, List.length_take]; rfl)) ?_; (with_reducible refine (change_Lay.calls _ _ t217 t220 t221 _ ?side1 ?side2 A4.out).mono ?_); (case side1 => repeat (first | exact (Kd.R_reads' HO219.out).2.2 | (with_reducible refine Kd.C_alloc ?_ _) | (with_reducible refine Kd.C_drewN ?_ _) | (with_reducible refine Kd.C_drew ?_))); (case side2 => exact (Kd.R_reads' HO219.out).2.1); rintro e w8 ⟨rfl, hb⟩; refine ⟨_, rfl, ?_⟩; have n0_ := Aside0.mk (Kd.R_below (by (with_reducible repeat (first | apply Kd.R_alloc | apply Kd.R_drewN | apply Kd.R_drew)); exact HO219.out) hb); have n1_ := Aside0.mk (below_step (by repeat (first | (with_reducible first | exact HB.out | apply below_alloc | apply pw_below_drewN | apply below_drew1) | exact HB.out)) hb); clear HO219; clear HB; have HO219 := n0_; have HB := n1_; clear n0_ n1_; (try clear hb); (try clear hb2); (try clear hk); (try clear hi)))
  (try simp only [Act.put, List.setIfInBounds_toArray, List.set_cons_zero, List.set_cons_succ])
  go_cut [29] (fun v29 wc => ∃ (kq : Nat) (x29_4 : Bool), v29 = .bool x29_4 ∧ Aside0 (cellarerlaw12_ChangeSplits.j0 kq t217 a1 t220 x29_4 = some r) ∧ Aside0 (kq ≤ k) ∧ Aside0 (Kd.R k39 39 wc w.heap.size (fun _ => True) (.slice Ao7 t217.length co7) t217) ∧ Aside0 (Below w.heap.size w wc))
  case first =>
    have H := HC5.out
    clear HC5
    by_cases c9 : t221 = 0
    · rw [if_pos c9] at H
      have c9b0 : (t221 == 0) = true := beq_iff_eq.mpr c9
      have c9b1 : (t221 != 0) = false := bne_eq_false_iff_eq.mpr c9
      clear c9
      (first | rw [c9b0] | (simp only [i64_w, i32_w]; rw [c9b0]) | skip)
      have H' := Aside0.mk H
      clear H
      go_wp2
      go_meet
      case rel => exact ⟨_, (decide ((t217.length : Int) < 2)), (by first | rfl | (simp; done) | (simp [*]; done)), H', ⟨by first | omega | exact Nat.le_refl _⟩, ⟨by (with_reducible repeat (first | apply Kd.R_alloc | apply Kd.R_drewN | apply Kd.R_drew)); exact HO219.out⟩, ⟨by repeat (first | (with_reducible first | exact HB.out | apply below_alloc | apply pw_below_drewN | apply below_drew1) | exact HB.out)⟩⟩
    · rw [if_neg c9] at H
      have c9b0 : (t221 == 0) = false := beq_eq_false_iff_ne.mpr c9
      have c9b1 : (t221 != 0) = true := bne_iff_ne.mpr c9
      (first | rw [c9b0] | (simp only [i64_w, i32_w]; rw [c9b0]) | skip)
      have H' := Aside0.mk H
      clear H
      go_wp2
      go_meet
      case rel => exact ⟨_, (true), (by first | rfl | (simp; done) | (simp [*]; done)), H', ⟨by first | omega | exact Nat.le_refl _⟩, ⟨by (with_reducible repeat (first | apply Kd.R_alloc | apply Kd.R_drewN | apply Kd.R_drew)); exact HO219.out⟩, ⟨by repeat (first | (with_reducible first | exact HB.out | apply below_alloc | apply pw_below_drewN | apply below_drew1) | exact HB.out)⟩⟩
  case rest =>
    clear HC5
    try clear c1
    try clear p2
    try clear c6
    try clear c9
    try clear c9b0
    try clear c9b1
    obtain ⟨kq, x29_4, rfl, HA, HJ4, HO_0, HB⟩ := hcut
    cases kq with
    | zero => exact absurd HA.out (by simp [cellarerlaw12_ChangeSplits.j0])
    | succ kj4 =>
      have H := HA.out
      clear HA
      simp only [cellarerlaw12_ChangeSplits.j0] at H
      by_cases c10 : x29_4 = true
      · subst c10
        have H1 : ((cellarerlaw12_awake.f).bind fun t222 => (some t222)) = some r := by rw [if_pos rfl] at H; exact H
        clear H
        have H := H1
        clear H1
        replace H := Option.bind_eq_some_iff.mp H
        obtain ⟨t222, A110, H⟩ := H
        replace H : (some t222) = some r := H
        have A11 := Aside0.mk A110
        clear A110
        obtain rfl := Option.some.inj H
        go_wp2_with (first | ((with_reducible refine gate_callee (f := 18) rfl ?_); refine goesL_ (some 30) rfl rfl Try.func18 (by kernel_rfl) rfl #[] rfl (by (try simp only [List.map_toArray, List.map_cons, List.map_nil]); first | done | rfl | (simp only [List.length_drop, List.length_take]; rfl)) ?_; (with_reducible refine (cellarerlaw12_awake.calls  t222 _ A11.out).mono ?_); rintro e w12 ⟨rfl, hb⟩; refine ⟨_, rfl, ?_⟩; have n0_ := Aside0.mk (Kd.R_below (by (with_reducible repeat (first | apply Kd.R_alloc | apply Kd.R_drewN | apply Kd.R_drew)); exact HO_0.out) hb); have n1_ := Aside0.mk (below_step (by repeat (first | (with_reducible first | exact HB.out | apply below_alloc | apply pw_below_drewN | apply below_drew1) | exact HB.out)) hb); clear HO_0; clear HB; have HO_0 := n0_; have HB := n1_; clear n0_ n1_; (try clear hb); (try clear hb2); (try clear hk); (try clear hi)))
        go_ret
        exact ⟨by first | rfl | (simp [errW_none, errW_some] <;> rfl) | (simp [*, errW_none, errW_some] <;> rfl), by repeat (first | (with_reducible first | exact HB.out | apply below_alloc | apply pw_below_drewN | apply below_drew1) | exact HB.out)⟩
      · replace c10 := Bool.eq_false_iff.mpr c10
        subst c10
        have H1 : (if (wrap64 ((t217.length : Int) - 1)) = 0 then (none) else (if 0 ≤ (wrap64 (1 + (Int.tmod (wrap64 (a1)) (wrap64 ((t217.length : Int) - 1))))) then (if (wrap64 (1 + (Int.tmod (wrap64 (a1)) (wrap64 ((t217.length : Int) - 1))))) ≤ (t217.length : Int) then ((change_Lay.f (t217.take ((wrap64 (1 + (Int.tmod (wrap64 (a1)) (wrap64 ((t217.length : Int) - 1))))) : Int).toNat)).bind fun bt227 => ((change_Lay.f (t217.drop ((wrap64 (1 + (Int.tmod (wrap64 (a1)) (wrap64 ((t217.length : Int) - 1))))) : Int).toNat)).bind fun bt233 => ((change_TakeA.f bt227.1).bind fun bt235 => ((change_TakeA.f bt233.1).bind fun bt239 => (if bt227.2 = 0 then (if bt233.2 = 0 then (if bt235.2 = 0 then (if bt239.2 = 0 then ((some (([] : List (S39)) : List (S39))).bind fun y243 => (if y243.length + bt235.1.length < 2932031007402 then ((some (y243 ++ bt235.1 : List (S39))).bind fun y246 => (if y246.length + bt239.1.length < 2932031007402 then ((cellarerref12_Same.f kj4 (y246 ++ bt239.1) t217).bind fun t252 => (if t252 = true then (if (wrap64 ((bt227.1.size : Int) + (bt233.1.size : Int))) = (wrap64 ((t220.size : Int) + 2)) then ((cellarerlaw12_awake.f).bind fun t253 => (some t253)) else (some false)) else (some false))) else (none))) else (none))) else (some false)) else (some false)) else (some false)) else (some false)))))) else (none)) else (none))) = some r := by rw [if_neg (show ¬ (false = true) by decide)] at H; exact H
        clear H
        have H := H1
        clear H1
        by_cases c13 : (wrap64 ((t217.length : Int) - 1)) = 0
        · rw [if_pos c13] at H
          exact absurd H (by simp)
        · rw [if_neg c13] at H
          have c13b0 : ((wrap64 ((t217.length : Int) - 1)) == 0) = false := beq_eq_false_iff_ne.mpr c13
          have c13b1 : ((wrap64 ((t217.length : Int) - 1)) != 0) = true := bne_iff_ne.mpr c13
          obtain ⟨ji14, hji14⟩ : ∃ j_ : Int, (wrap64 (1 + (Int.tmod (wrap64 (a1)) (wrap64 ((t217.length : Int) - 1))))) = j_ := ⟨_, rfl⟩
          replace H : (if 0 ≤ (ji14) then (if (ji14) ≤ (t217.length : Int) then ((change_Lay.f (t217.take ((ji14) : Int).toNat)).bind fun bt227 => ((change_Lay.f (t217.drop ((ji14) : Int).toNat)).bind fun bt233 => ((change_TakeA.f bt227.1).bind fun bt235 => ((change_TakeA.f bt233.1).bind fun bt239 => (if bt227.2 = 0 then (if bt233.2 = 0 then (if bt235.2 = 0 then (if bt239.2 = 0 then ((some (([] : List (S39)) : List (S39))).bind fun y243 => (if y243.length + bt235.1.length < 2932031007402 then ((some (y243 ++ bt235.1 : List (S39))).bind fun y246 => (if y246.length + bt239.1.length < 2932031007402 then ((cellarerref12_Same.f kj4 (y246 ++ bt239.1) t217).bind fun t252 => (if t252 = true then (if (wrap64 ((bt227.1.size : Int) + (bt233.1.size : Int))) = (wrap64 ((t220.size : Int) + 2)) then ((cellarerlaw12_awake.f).bind fun t253 => (some t253)) else (some false)) else (some false))) else (none))) else (none))) else (some false)) else (some false)) else (some false)) else (some false)))))) else (none)) else (none)) = some r := by first | (rw [hji14] at H; exact H) | (simp only [hji14] at H ⊢; exact H)
          have hji14w : (IntKind.i64.wrap (1 + (Int.tmod (wrap64 (a1)) (wrap64 ((t217.length : Int) - 1))))) = ji14 := (i64_w _).trans hji14
          by_cases c15 : 0 ≤ (ji14)
          · rw [if_pos c15] at H
            have c15b0 := eq_true c15
            have c15b1 : decide (0 ≤ (ji14)) = true := decide_eq_true c15
            clear c15
            by_cases c16 : (ji14) ≤ (t217.length : Int)
            · rw [if_pos c16] at H
              have c16b0 := eq_true c16
              have c16b1 : decide ((ji14) ≤ (t217.length : Int)) = true := decide_eq_true c16
              clear c16
              obtain ⟨y223, hy223⟩ : ∃ y_ : List (S39), y_ = (t217.take ((ji14) : Int).toNat) := ⟨_, rfl⟩
              replace H : ((change_Lay.f y223).bind fun bt227 => ((change_Lay.f (t217.drop ((ji14) : Int).toNat)).bind fun bt233 => ((change_TakeA.f bt227.1).bind fun bt235 => ((change_TakeA.f bt233.1).bind fun bt239 => (if bt227.2 = 0 then (if bt233.2 = 0 then (if bt235.2 = 0 then (if bt239.2 = 0 then ((some (([] : List (S39)) : List (S39))).bind fun y243 => (if y243.length + bt235.1.length < 2932031007402 then ((some (y243 ++ bt235.1 : List (S39))).bind fun y246 => (if y246.length + bt239.1.length < 2932031007402 then ((cellarerref12_Same.f kj4 (y246 ++ bt239.1) t217).bind fun t252 => (if t252 = true then (if (wrap64 ((bt227.1.size : Int) + (bt233.1.size : Int))) = (wrap64 ((t220.size : Int) + 2)) then ((cellarerlaw12_awake.f).bind fun t253 => (some t253)) else (some false)) else (some false))) else (none))) else (none))) else (some false)) else (some false)) else (some false)) else (some false)))))) = some r := by first | (rw [hy223]; with_reducible exact H) | (have H2_ := (Option.bind_some _ _).symm.trans H; rw [hy223]; with_reducible exact H2_) | (have H2_ := (Option.bind_some _ _).symm.trans H; with_reducible exact H2_) | with_reducible exact H | (rw [hy223]; exact H) | exact H
              have Ny223 := Aside0.mk hy223
              clear hy223
              replace H := Option.bind_eq_some_iff.mp H
              obtain ⟨⟨t227, t228⟩, A170, H⟩ := H
              replace H : ((change_Lay.f (t217.drop ((ji14) : Int).toNat)).bind fun bt233 => ((change_TakeA.f t227).bind fun bt235 => ((change_TakeA.f bt233.1).bind fun bt239 => (if t228 = 0 then (if bt233.2 = 0 then (if bt235.2 = 0 then (if bt239.2 = 0 then ((some (([] : List (S39)) : List (S39))).bind fun y243 => (if y243.length + bt235.1.length < 2932031007402 then ((some (y243 ++ bt235.1 : List (S39))).bind fun y246 => (if y246.length + bt239.1.length < 2932031007402 then ((cellarerref12_Same.f kj4 (y246 ++ bt239.1) t217).bind fun t252 => (if t252 = true then (if (wrap64 ((t227.size : Int) + (bt233.1.size : Int))) = (wrap64 ((t220.size : Int) + 2)) then ((cellarerlaw12_awake.f).bind fun t253 => (some t253)) else (some false)) else (some false))) else (none))) else (none))) else (some false)) else (some false)) else (some false)) else (some false))))) = some r := H
              have A17 := Aside0.mk A170
              clear A170
              have c18b0 := eq_true (of_decide_eq_true (by first | (with_reducible assumption) | assumption) : 0 ≤ (ji14))
              have c19b0 := eq_true (of_decide_eq_true (by first | (with_reducible assumption) | assumption) : (ji14) ≤ (t217.length : Int))
              obtain ⟨y229, hy229⟩ : ∃ y_ : List (S39), y_ = (t217.drop ((ji14) : Int).toNat) := ⟨_, rfl⟩
              replace H : ((change_Lay.f y229).bind fun bt233 => ((change_TakeA.f t227).bind fun bt235 => ((change_TakeA.f bt233.1).bind fun bt239 => (if t228 = 0 then (if bt233.2 = 0 then (if bt235.2 = 0 then (if bt239.2 = 0 then ((some (([] : List (S39)) : List (S39))).bind fun y243 => (if y243.length + bt235.1.length < 2932031007402 then ((some (y243 ++ bt235.1 : List (S39))).bind fun y246 => (if y246.length + bt239.1.length < 2932031007402 then ((cellarerref12_Same.f kj4 (y246 ++ bt239.1) t217).bind fun t252 => (if t252 = true then (if (wrap64 ((t227.size : Int) + (bt233.1.size : Int))) = (wrap64 ((t220.size : Int) + 2)) then ((cellarerlaw12_awake.f).bind fun t253 => (some t253)) else (some false)) else (some false))) else (none))) else (none))) else (some false)) else (some false)) else (some false)) else (some false))))) = some r := by first | (rw [hy229]; with_reducible exact H) | (have H2_ := (Option.bind_some _ _).symm.trans H; rw [hy229]; with_reducible exact H2_) | (have H2_ := (Option.bind_some _ _).symm.trans H; with_reducible exact H2_) | with_reducible exact H | (rw [hy229]; exact H) | exact H
              have Ny229 := Aside0.mk hy229
              clear hy229
              replace H := Option.bind_eq_some_iff.mp H
              obtain ⟨⟨t233, t234⟩, A200, H⟩ := H
              replace H : ((change_TakeA.f t227).bind fun bt235 => ((change_TakeA.f t233).bind fun bt239 => (if t228 = 0 then (if t234 = 0 then (if bt235.2 = 0 then (if bt239.2 = 0 then ((some (([] : List (S39)) : List (S39))).bind fun y243 => (if y243.length + bt235.1.length < 2932031007402 then ((some (y243 ++ bt235.1 : List (S39))).bind fun y246 => (if y246.length + bt239.1.length < 2932031007402 then ((cellarerref12_Same.f kj4 (y246 ++ bt239.1) t217).bind fun t252 => (if t252 = true then (if (wrap64 ((t227.size : Int) + (t233.size : Int))) = (wrap64 ((t220.size : Int) + 2)) then ((cellarerlaw12_awake.f).bind fun t253 => (some t253)) else (some false)) else (some false))) else (none))) else (none))) else (some false)) else (some false)) else (some false)) else (some false)))) = some r := H
              have A20 := Aside0.mk A200
              clear A200
              replace H := Option.bind_eq_some_iff.mp H
              obtain ⟨⟨t235, t236⟩, A210, H⟩ := H
              replace H : ((change_TakeA.f t233).bind fun bt239 => (if t228 = 0 then (if t234 = 0 then (if t236 = 0 then (if bt239.2 = 0 then ((some (([] : List (S39)) : List (S39))).bind fun y243 => (if y243.length + t235.length < 2932031007402 then ((some (y243 ++ t235 : List (S39))).bind fun y246 => (if y246.length + bt239.1.length < 2932031007402 then ((cellarerref12_Same.f kj4 (y246 ++ bt239.1) t217).bind fun t252 => (if t252 = true then (if (wrap64 ((t227.size : Int) + (t233.size : Int))) = (wrap64 ((t220.size : Int) + 2)) then ((cellarerlaw12_awake.f).bind fun t253 => (some t253)) else (some false)) else (some false))) else (none))) else (none))) else (some false)) else (some false)) else (some false)) else (some false))) = some r := H
              have A21 := Aside0.mk A210
              clear A210
              replace H := Option.bind_eq_some_iff.mp H
              obtain ⟨⟨t239, t240⟩, A220, H⟩ := H
              replace H : (if t228 = 0 then (if t234 = 0 then (if t236 = 0 then (if t240 = 0 then ((some (([] : List (S39)) : List (S39))).bind fun y243 => (if y243.length + t235.length < 2932031007402 then ((some (y243 ++ t235 : List (S39))).bind fun y246 => (if y246.length + t239.length < 2932031007402 then ((cellarerref12_Same.f kj4 (y246 ++ t239) t217).bind fun t252 => (if t252 = true then (if (wrap64 ((t227.size : Int) + (t233.size : Int))) = (wrap64 ((t220.size : Int) + 2)) then ((cellarerlaw12_awake.f).bind fun t253 => (some t253)) else (some false)) else (some false))) else (none))) else (none))) else (some false)) else (some false)) else (some false)) else (some false)) = some r := H
              have A22 := Aside0.mk A220
              clear A220
              by_cases c23 : t228 = 0
              · rw [if_pos c23] at H
                have c23b0 : (t228 == 0) = true := beq_iff_eq.mpr c23
                have c23b1 : (t228 != 0) = false := bne_eq_false_iff_eq.mpr c23
                clear c23
                by_cases c24 : t234 = 0
                · rw [if_pos c24] at H
                  have c24b0 : (t234 == 0) = true := beq_iff_eq.mpr c24
                  have c24b1 : (t234 != 0) = false := bne_eq_false_iff_eq.mpr c24
                  clear c24
                  by_cases c25 : t236 = 0
                  · rw [if_pos c25] at H
                    have c25b0 : (t236 == 0) = true := beq_iff_eq.mpr c25
                    have c25b1 : (t236 != 0) = false := bne_eq_false_iff_eq.mpr c25
                    clear c25
                    by_cases c26 : t240 = 0
                    · rw [if_pos c26] at H
                      have c26b0 : (t240 == 0) = true := beq_iff_eq.mpr c26
                      have c26b1 : (t240 != 0) = false := bne_eq_false_iff_eq.mpr c26
                      clear c26
                      obtain ⟨y243, hy243⟩ : ∃ y_ : List (S39), y_ = (([] : List (S39))) := ⟨_, rfl⟩
                      replace H : (if y243.length + t235.length < 2932031007402 then ((some (y243 ++ t235 : List (S39))).bind fun y246 => (if y246.length + t239.length < 2932031007402 then ((cellarerref12_Same.f kj4 (y246 ++ t239) t217).bind fun t252 => (if t252 = true then (if (wrap64 ((t227.size : Int) + (t233.size : Int))) = (wrap64 ((t220.size : Int) + 2)) then ((cellarerlaw12_awake.f).bind fun t253 => (some t253)) else (some false)) else (some false))) else (none))) else (none)) = some r := by first | (rw [hy243]; with_reducible exact H) | (have H2_ := (Option.bind_some _ _).symm.trans H; rw [hy243]; with_reducible exact H2_) | (have H2_ := (Option.bind_some _ _).symm.trans H; with_reducible exact H2_) | with_reducible exact H | (rw [hy243]; exact H) | exact H
                      have Ny243 := Aside0.mk hy243
                      clear hy243
                      by_cases c27 : y243.length + t235.length < 2932031007402
                      · rw [if_pos c27] at H
                        have LMc27 := Aside0.mk c27
                        clear c27
                        obtain ⟨y246, hy246⟩ : ∃ y_ : List (S39), y_ = (y243 ++ t235) := ⟨_, rfl⟩
                        replace H : (if y246.length + t239.length < 2932031007402 then ((cellarerref12_Same.f kj4 (y246 ++ t239) t217).bind fun t252 => (if t252 = true then (if (wrap64 ((t227.size : Int) + (t233.size : Int))) = (wrap64 ((t220.size : Int) + 2)) then ((cellarerlaw12_awake.f).bind fun t253 => (some t253)) else (some false)) else (some false))) else (none)) = some r := by first | (rw [hy246]; with_reducible exact H) | (have H2_ := (Option.bind_some _ _).symm.trans H; rw [hy246]; with_reducible exact H2_) | (have H2_ := (Option.bind_some _ _).symm.trans H; with_reducible exact H2_) | with_reducible exact H | (rw [hy246]; exact H) | exact H
                        have Ny246 := Aside0.mk hy246
                        clear hy246
                        by_cases c28 : y246.length + t239.length < 2932031007402
                        · rw [if_pos c28] at H
                          have LMc28 := Aside0.mk c28
                          clear c28
                          obtain ⟨y249, hy249⟩ : ∃ y_ : List (S39), y_ = (y246 ++ t239) := ⟨_, rfl⟩
                          replace H : ((cellarerref12_Same.f kj4 y249 t217).bind fun t252 => (if t252 = true then (if (wrap64 ((t227.size : Int) + (t233.size : Int))) = (wrap64 ((t220.size : Int) + 2)) then ((cellarerlaw12_awake.f).bind fun t253 => (some t253)) else (some false)) else (some false))) = some r := by first | (rw [hy249]; with_reducible exact H) | (have H2_ := (Option.bind_some _ _).symm.trans H; rw [hy249]; with_reducible exact H2_) | (have H2_ := (Option.bind_some _ _).symm.trans H; with_reducible exact H2_) | with_reducible exact H | (rw [hy249]; exact H) | exact H
                          have Ny249 := Aside0.mk hy249
                          clear hy249
                          replace H := Option.bind_eq_some_iff.mp H
                          obtain ⟨t252, A290, H⟩ := H
                          replace H : (if t252 = true then (if (wrap64 ((t227.size : Int) + (t233.size : Int))) = (wrap64 ((t220.size : Int) + 2)) then ((cellarerlaw12_awake.f).bind fun t253 => (some t253)) else (some false)) else (some false)) = some r := H
                          have A29 := Aside0.mk A290
                          clear A290
                          by_cases c30 : t252 = true
                          · subst c30
                            have H1 : (if (wrap64 ((t227.size : Int) + (t233.size : Int))) = (wrap64 ((t220.size : Int) + 2)) then ((cellarerlaw12_awake.f).bind fun t253 => (some t253)) else (some false)) = some r := by rw [if_pos rfl] at H; exact H
                            clear H
                            have H := H1
                            clear H1
                            by_cases c31 : (wrap64 ((t227.size : Int) + (t233.size : Int))) = (wrap64 ((t220.size : Int) + 2))
                            · rw [if_pos c31] at H
                              have c31b0 : ((wrap64 ((t227.size : Int) + (t233.size : Int))) == (wrap64 ((t220.size : Int) + 2))) = true := beq_iff_eq.mpr c31
                              have c31b1 : ((wrap64 ((t227.size : Int) + (t233.size : Int))) != (wrap64 ((t220.size : Int) + 2))) = false := bne_eq_false_iff_eq.mpr c31
                              clear c31
                              replace H := Option.bind_eq_some_iff.mp H
                              obtain ⟨t253, A320, H⟩ := H
                              replace H : (some t253) = some r := H
                              have A32 := Aside0.mk A320
                              clear A320
                              obtain rfl := Option.some.inj H
                              have q33 : ((ji14) : Int) ≤ ((t217.length : Int) : Int) := of_decide_eq_true (by first | (with_reducible assumption) | assumption)
                              obtain ⟨i033, hi033, _, hsz33, _⟩ := info_parts info39
                              have hroom33 : t217.length ≤ co7 := (Kd.R_reads' HO_0.out).2.1
                              have hC33 : Kd.C k39 _ Ao7 t217.length t217 := (Kd.R_reads' HO_0.out).2.2
                              have hcut33 := cut_to (P := Try.prog) 22 39 .i64 Try.underlying22 hi033 Ao7 t217.length co7 (ji14) (of_decide_eq_true (by first | (with_reducible assumption) | assumption)) q33 hroom33
                              have hr33 := Kd.C_take (m := ((ji14) : Int).toNat) hC33 (by omega)
                              have hy33 : y223.length = ((ji14) : Int).toNat := (by rw [Ny223.out, List.length_take]; omega)
                              rw [← Ny223.out] at hr33
                              rw [← hy33] at hcut33
                              have HR226 := Aside0.mk hr33
                              have HC226 := Aside0.mk (show y223.length ≤ co7 from by omega)
                              clear hr33 hC33 hroom33 hi033 hsz33
                              have KY33 := Aside0.mk hy33
                              clear hy33
                              have KL33 := Aside0.mk (show ((ji14) : Int).toNat ≤ t217.length from by omega)
                              replace q33 := eq_true q33
                              go_wp2_with (first | ((with_reducible refine gate_callee (f := 11) rfl ?_); refine goesL_ (some 42) rfl rfl Try.func11 (by kernel_rfl) rfl #[.slice Ao7 y223.length co7] rfl (by (try simp only [List.map_toArray, List.map_cons, List.map_nil]); first | done | rfl | (simp only [List.length_drop, List.length_take]; rfl)) ?_; (with_reducible refine (change_Lay.calls _ _ y223 t227 t228 _ ?side1 ?side2 A17.out).mono ?_); (case side1 => repeat (first | exact (by repeat (first | (with_reducible exact HR226.out) | (with_reducible refine Kd.C_alloc ?_ _) | (with_reducible refine Kd.C_drewN ?_ _) | (with_reducible refine Kd.C_drew ?_) | exact HR226.out)) | (with_reducible refine Kd.C_alloc ?_ _) | (with_reducible refine Kd.C_drewN ?_ _) | (with_reducible refine Kd.C_drew ?_))); (case side2 => exact HC226.out); rintro e w34 ⟨rfl, hb⟩; refine ⟨_, rfl, ?_⟩; have n0_ := Aside0.mk (Kd.R_below (by (with_reducible repeat (first | apply Kd.R_alloc | apply Kd.R_drewN | apply Kd.R_drew)); exact HO_0.out) hb); have n1_ := Aside0.mk (Kd.C_below (by repeat (first | (with_reducible exact HR226.out) | (with_reducible refine Kd.C_alloc ?_ _) | (with_reducible refine Kd.C_drewN ?_ _) | (with_reducible refine Kd.C_drew ?_) | exact HR226.out)) hb); have n2_ := Aside0.mk (below_step (by repeat (first | (with_reducible first | exact HB.out | apply below_alloc | apply pw_below_drewN | apply below_drew1) | exact HB.out)) hb); clear HO_0; clear HR226; clear HB; have HO_0 := n0_; have HR226 := n1_; have HB := n2_; clear n0_ n1_ n2_; (try clear hb); (try clear hb2); (try clear hk); (try clear hi); have q35 : ((ji14) : Int) ≤ ((t217.length : Int) : Int) := of_decide_eq_true (by first | (with_reducible assumption) | assumption); obtain ⟨i035, hi035, _, hsz35, _⟩ := info_parts info39; have hroom35 : t217.length ≤ co7 := (Kd.R_reads' HO_0.out).2.1; have hC35 : Kd.C k39 _ Ao7 t217.length t217 := (Kd.R_reads' HO_0.out).2.2; have q035 : (0 : Int) ≤ ((ji14) : Int) := of_decide_eq_true (by first | (with_reducible assumption) | assumption); have hcut35 := cut_from (P := Try.prog) 22 39 .i64 Try.underlying22 hi035 4 hsz35 Ao7 t217.length co7 (ji14) q035 q35; have hr35 := Kd.C_drop (m := ((ji14) : Int).toNat) (c := co7) hC35 (by omega) hroom35; obtain ⟨A35, hA35⟩ : ∃ A1, A1 = (if co7 = ((ji14) : Int).toNat then Ao7 else (Ao7 : Option Addr).map (·.add (((ji14) : Int).toNat * 4))) := ⟨_, rfl⟩; obtain ⟨c35, hc35⟩ : ∃ c1, c1 = co7 - ((ji14) : Int).toNat := ⟨_, rfl⟩; have hy35 : y229.length = t217.length - ((ji14) : Int).toNat := (by rw [Ny229.out, List.length_drop] <;> omega); rw [show (t217).drop ((ji14) : Int).toNat = y229 from Ny229.out.symm] at hr35; replace hr35 : Kd.C k39 _ A35 y229.length y229 := (by rw [hA35]; exact hr35); rw [← hy35, ← hA35, ← hc35] at hcut35; have HR232 := Aside0.mk hr35; have HC232 := Aside0.mk (show y229.length ≤ c35 from by rw [hy35, hc35]; exact Nat.sub_le_sub_right hroom35 _); clear hr35 hC35 hroom35 hi035 hsz35 hc35; have KY35 := Aside0.mk hy35; have KA35 := Aside0.mk hA35; clear hy35 hA35; have KL35 := Aside0.mk (show ((ji14) : Int).toNat ≤ t217.length from by omega); replace q35 := eq_true q35) | ((with_reducible refine gate_callee (f := 11) rfl ?_); refine goesL_ (some 49) rfl rfl Try.func11 (by kernel_rfl) rfl #[.slice A35 y229.length c35] rfl (by (try simp only [List.map_toArray, List.map_cons, List.map_nil]); first | done | rfl | (simp only [List.length_drop, List.length_take]; rfl)) ?_; (with_reducible refine (change_Lay.calls _ _ y229 t233 t234 _ ?side1 ?side2 A20.out).mono ?_); (case side1 => repeat (first | exact (by repeat (first | (with_reducible exact HR232.out) | (with_reducible refine Kd.C_alloc ?_ _) | (with_reducible refine Kd.C_drewN ?_ _) | (with_reducible refine Kd.C_drew ?_) | exact HR232.out)) | (with_reducible refine Kd.C_alloc ?_ _) | (with_reducible refine Kd.C_drewN ?_ _) | (with_reducible refine Kd.C_drew ?_))); (case side2 => exact HC232.out); rintro e w36 ⟨rfl, hb⟩; refine ⟨_, rfl, ?_⟩; have n0_ := Aside0.mk (Kd.R_below (by (with_reducible repeat (first | apply Kd.R_alloc | apply Kd.R_drewN | apply Kd.R_drew)); exact HO_0.out) hb); have n1_ := Aside0.mk (Kd.C_below (by repeat (first | (with_reducible exact HR226.out) | (with_reducible refine Kd.C_alloc ?_ _) | (with_reducible refine Kd.C_drewN ?_ _) | (with_reducible refine Kd.C_drew ?_) | exact HR226.out)) hb); have n2_ := Aside0.mk (Kd.C_below (by repeat (first | (with_reducible exact HR232.out) | (with_reducible refine Kd.C_alloc ?_ _) | (with_reducible refine Kd.C_drewN ?_ _) | (with_reducible refine Kd.C_drew ?_) | exact HR232.out)) hb); have n3_ := Aside0.mk (below_step (by repeat (first | (with_reducible first | exact HB.out | apply below_alloc | apply pw_below_drewN | apply below_drew1) | exact HB.out)) hb); clear HO_0; clear HR226; clear HR232; clear HB; have HO_0 := n0_; have HR226 := n1_; have HR232 := n2_; have HB := n3_; clear n0_ n1_ n2_ n3_; (try clear hb); (try clear hb2); (try clear hk); (try clear hi)) | ((with_reducible refine gate_callee (f := 13) rfl ?_); refine goesL_ (some 54) rfl rfl Try.func13 (by kernel_rfl) rfl #[.string t227] rfl (by (try simp only [List.map_toArray, List.map_cons, List.map_nil]); first | done | rfl | (simp only [List.length_drop, List.length_take]; rfl)) ?_; (with_reducible refine (change_TakeA.calls t227 t235 t236 _ A21.out).mono ?_); rintro e w37 ⟨v237, rfl, ho0, hb⟩; refine ⟨_, rfl, ?_⟩; have n0_ := Aside0.mk (Kd.R_elder' (by (with_reducible repeat (first | apply Kd.R_alloc | apply Kd.R_drewN | apply Kd.R_drew)); exact HO_0.out) (Kd.R_base ho0) hb); have n1_ := Aside0.mk (Kd.R_lower (Kd.R_new' ho0 (Kd.R_lt (by (with_reducible repeat (first | apply Kd.R_alloc | apply Kd.R_drewN | apply Kd.R_drew)); exact HO_0.out))) (below_size (by repeat (first | (with_reducible first | exact HB.out | apply below_alloc | apply pw_below_drewN | apply below_drew1) | exact HB.out)))); have n2_ := Aside0.mk (Kd.C_below (by repeat (first | (with_reducible exact HR226.out) | (with_reducible refine Kd.C_alloc ?_ _) | (with_reducible refine Kd.C_drewN ?_ _) | (with_reducible refine Kd.C_drew ?_) | exact HR226.out)) hb); have n3_ := Aside0.mk (Kd.C_below (by repeat (first | (with_reducible exact HR232.out) | (with_reducible refine Kd.C_alloc ?_ _) | (with_reducible refine Kd.C_drewN ?_ _) | (with_reducible refine Kd.C_drew ?_) | exact HR232.out)) hb); have n4_ := Aside0.mk (below_step (by repeat (first | (with_reducible first | exact HB.out | apply below_alloc | apply pw_below_drewN | apply below_drew1) | exact HB.out)) hb); clear HO_0; clear HR226; clear HR232; clear HB; have HO_0 := n0_; have HO238 := n1_; have HR226 := n2_; have HR232 := n3_; have HB := n4_; clear n0_ n1_ n2_ n3_ n4_; (try clear hb); (try clear hb2); (try clear hk); (try clear hi); (try clear ho0)) | ((with_reducible refine gate_callee (f := 13) rfl ?_); refine goesL_ (some 59) rfl rfl Try.func13 (by kernel_rfl) rfl #[.string t233] rfl (by (try simp only [List.map_toArray, List.map_cons, List.map_nil]); first | done | rfl | (simp only [List.length_drop, List.length_take]; rfl)) ?_; (with_reducible refine (change_TakeA.calls t233 t239 t240 _ A22.out).mono ?_); rintro e w38 ⟨v241, rfl, ho0, hb⟩; refine ⟨_, rfl, ?_⟩; have n0_ := Aside0.mk (Kd.R_elder' (by (with_reducible repeat (first | apply Kd.R_alloc | apply Kd.R_drewN | apply Kd.R_drew)); exact HO_0.out) (Kd.R_base ho0) hb); have n1_ := Aside0.mk (Kd.R_elder' (by (with_reducible repeat (first | apply Kd.R_alloc | apply Kd.R_drewN | apply Kd.R_drew)); exact HO238.out) (Kd.R_base ho0) hb); have n2_ := Aside0.mk (Kd.R_lower (Kd.R_new' (Kd.R_new' ho0 (Kd.R_lt (by (with_reducible repeat (first | apply Kd.R_alloc | apply Kd.R_drewN | apply Kd.R_drew)); exact HO_0.out))) (Kd.R_lt (by (with_reducible repeat (first | apply Kd.R_alloc | apply Kd.R_drewN | apply Kd.R_drew)); exact HO238.out))) (below_size (by repeat (first | (with_reducible first | exact HB.out | apply below_alloc | apply pw_below_drewN | apply below_drew1) | exact HB.out)))); have n3_ := Aside0.mk (Kd.C_below (by repeat (first | (with_reducible exact HR226.out) | (with_reducible refine Kd.C_alloc ?_ _) | (with_reducible refine Kd.C_drewN ?_ _) | (with_reducible refine Kd.C_drew ?_) | exact HR226.out)) hb); have n4_ := Aside0.mk (Kd.C_below (by repeat (first | (with_reducible exact HR232.out) | (with_reducible refine Kd.C_alloc ?_ _) | (with_reducible refine Kd.C_drewN ?_ _) | (with_reducible refine Kd.C_drew ?_) | exact HR232.out)) hb); have n5_ := Aside0.mk (below_step (by repeat (first | (with_reducible first | exact HB.out | apply below_alloc | apply pw_below_drewN | apply below_drew1) | exact HB.out)) hb); clear HO_0; clear HO238; clear HR226; clear HR232; clear HB; have HO_0 := n0_; have HO238 := n1_; have HO242 := n2_; have HR226 := n3_; have HR232 := n4_; have HB := n5_; clear n0_ n1_ n2_ n3_ n4_ n5_; (try clear hb); (try clear hb2); (try clear hk); (try clear hi); (try clear ho0)) | ((with_reducible refine gate_dst (N := 77) rfl ?_); (try (refine gate_guard (by rfl) ?_; dsimp only)); refine Kd.R_lit k39 _ 39 ?hg (N := 77) ?hd (xs := ([] : List (S39))) (inner := []) (ok := fun _ => True) (okp := fun _ => True) ?hr ?hp (fun _ hk => hk) trivial (Below.refl _ _) (Nat.le_refl _) (by simp) ?_; (case hd => rfl); (case hg => rfl); (case hr => first | (go_simp; done) | (go_simp; rfl)); (case hp => exact (Reps.none _ _)); intro v244 w39 ho40 hb hg_ hnew_; clear hg_ hnew_; (first | rw [← Ny243.out] at ho40 | (simp only [Int.reduceToNat] at ho40; rw [← Ny243.out] at ho40)); have n0_ := Aside0.mk (Kd.R_elder' (by (with_reducible repeat (first | apply Kd.R_alloc | apply Kd.R_drewN | apply Kd.R_drew)); exact HO_0.out) (Kd.R_base ho40) hb); have n1_ := Aside0.mk (Kd.R_elder' (by (with_reducible repeat (first | apply Kd.R_alloc | apply Kd.R_drewN | apply Kd.R_drew)); exact HO238.out) (Kd.R_base ho40) hb); have n2_ := Aside0.mk (Kd.R_elder' (by (with_reducible repeat (first | apply Kd.R_alloc | apply Kd.R_drewN | apply Kd.R_drew)); exact HO242.out) (Kd.R_base ho40) hb); have n3_ := Aside0.mk (Kd.R_lower (Kd.R_new' (Kd.R_new' (Kd.R_new' ho40 (Kd.R_lt (by (with_reducible repeat (first | apply Kd.R_alloc | apply Kd.R_drewN | apply Kd.R_drew)); exact HO_0.out))) (Kd.R_lt (by (with_reducible repeat (first | apply Kd.R_alloc | apply Kd.R_drewN | apply Kd.R_drew)); exact HO238.out))) (Kd.R_lt (by (with_reducible repeat (first | apply Kd.R_alloc | apply Kd.R_drewN | apply Kd.R_drew)); exact HO242.out))) (below_size (by repeat (first | (with_reducible first | exact HB.out | apply below_alloc | apply pw_below_drewN | apply below_drew1) | exact HB.out)))); have n4_ := Aside0.mk (Kd.C_below (by repeat (first | (with_reducible exact HR226.out) | (with_reducible refine Kd.C_alloc ?_ _) | (with_reducible refine Kd.C_drewN ?_ _) | (with_reducible refine Kd.C_drew ?_) | exact HR226.out)) hb); have n5_ := Aside0.mk (Kd.C_below (by repeat (first | (with_reducible exact HR232.out) | (with_reducible refine Kd.C_alloc ?_ _) | (with_reducible refine Kd.C_drewN ?_ _) | (with_reducible refine Kd.C_drew ?_) | exact HR232.out)) hb); have n6_ := Aside0.mk (below_step (by repeat (first | (with_reducible first | exact HB.out | apply below_alloc | apply pw_below_drewN | apply below_drew1) | exact HB.out)) hb); clear HO_0; clear HO238; clear HO242; clear HR226; clear HR232; clear HB; have HO_0 := n0_; have HO238 := n1_; have HO242 := n2_; have HO245 := n3_; have HR226 := n4_; have HR232 := n5_; have HB := n6_; clear n0_ n1_ n2_ n3_ n4_ n5_ n6_; clear hb ho40; obtain ⟨Ao42, co42, eo42⟩ := Kd.R_slice HO238.out; subst eo42) | ((with_reducible refine gate_builtin (b := .append) (xs := #[.tmp 77, .tmp 78]) rfl ?_); (try (refine gate_guard (by rfl) ?_; dsimp only)); at_builtin; refine Kd.R_append_rows k39 (w0 := w) w.heap.size rfl (.tmp 77) (.tmp 78) 22 39 (.agg #[(.int .u64 0), (.string ⟨#[]⟩), (.string ⟨#[]⟩), (.bool false)]) 48 rfl Try.underlying22 info39 rfl (by decide) (by omega) v244 y243 t235 _ _ _ (fun k_ => some k_ ≠ (.slice Ao7 t217.length co7 : Value).ownBlock ∧ some k_ ≠ (.slice Ao42 t235.length co42 : Value).ownBlock ∧ some k_ ≠ (v241 : Value).ownBlock) (fun _ => False) rfl rfl ?aO ?aR (fun _ _ h => h) (fun _ h => h.elim) ?aF ?aB ?aS ?aL ?_; (case aR => repeat (first | exact (Kd.R_reads' HO238.out).2.2 | (with_reducible refine Kd.C_alloc ?_ _) | (with_reducible refine Kd.C_drewN ?_ _) | (with_reducible refine Kd.C_drew ?_))); (case aB => exact (by repeat (first | (with_reducible first | exact HB.out | apply below_alloc | apply pw_below_drewN | apply below_drew1) | exact HB.out))); (case aF => exact (fun k_ hk => ⟨Kd.fresh' (Kd.R_lt (by (with_reducible repeat (first | apply Kd.R_alloc | apply Kd.R_drewN | apply Kd.R_drew)); exact HO_0.out)) k_ hk, Kd.fresh' (Kd.R_lt (by (with_reducible repeat (first | apply Kd.R_alloc | apply Kd.R_drewN | apply Kd.R_drew)); exact HO238.out)) k_ hk, Kd.fresh' (Kd.R_lt (by (with_reducible repeat (first | apply Kd.R_alloc | apply Kd.R_drewN | apply Kd.R_drew)); exact HO242.out)) k_ hk⟩)); (case aO => exact (by (with_reducible repeat (first | apply Kd.R_alloc | apply Kd.R_drewN | apply Kd.R_drew)); exact Kd.R_mono HO245.out (fun _ hk => ⟨hk.1.1.2, ⟨hk.1.2, hk.2⟩⟩))); (case aS => exact (below_size (by repeat (first | (with_reducible first | exact HB.out | apply below_alloc | apply pw_below_drewN | apply below_drew1) | exact HB.out)))); (case aL => have := LMc27.out; omega); intro v247 w41 ho hb hg hat; rw [← Ny246.out] at ho; have n0_ := Aside0.mk (Kd.R_after (ok := (fun k_ => some k_ ≠ (.slice Ao42 t235.length co42 : Value).ownBlock ∧ some k_ ≠ (v241 : Value).ownBlock)) (by (with_reducible repeat (first | apply Kd.R_alloc | apply Kd.R_drewN | apply Kd.R_drew)); exact Kd.R_mono HO_0.out (fun _ hk => ⟨⟨hk.1.1.2, hk.1.2⟩, hk.2⟩)) hg hat); have n1_ := Aside0.mk (Kd.R_after (ok := (fun k_ => some k_ ≠ (.slice Ao7 t217.length co7 : Value).ownBlock ∧ some k_ ≠ (v241 : Value).ownBlock)) (by (with_reducible repeat (first | apply Kd.R_alloc | apply Kd.R_drewN | apply Kd.R_drew)); exact Kd.R_mono HO238.out (fun _ hk => ⟨⟨hk.1.1.2, hk.1.2⟩, hk.2⟩)) hg hat); have n2_ := Aside0.mk (Kd.R_after (ok := (fun k_ => some k_ ≠ (.slice Ao7 t217.length co7 : Value).ownBlock ∧ some k_ ≠ (.slice Ao42 t235.length co42 : Value).ownBlock)) (by (with_reducible repeat (first | apply Kd.R_alloc | apply Kd.R_drewN | apply Kd.R_drew)); exact Kd.R_mono HO242.out (fun _ hk => ⟨⟨hk.1.1.2, hk.1.2⟩, hk.2⟩)) hg hat); have n3_ := Aside0.mk (hb); have n4_ := Aside0.mk ((show Kd.C k39 w41 Ao7 y223.length y223 from by rw [Ny223.out]; exact Kd.C_take (m := ((ji14) : Int).toNat) ((Kd.R_reads' (Kd.R_after (ok := (fun k_ => some k_ ≠ (.slice Ao42 t235.length co42 : Value).ownBlock ∧ some k_ ≠ (v241 : Value).ownBlock)) (by (with_reducible repeat (first | apply Kd.R_alloc | apply Kd.R_drewN | apply Kd.R_drew)); exact Kd.R_mono HO_0.out (fun _ hk => ⟨⟨hk.1.1.2, hk.1.2⟩, hk.2⟩)) hg hat)).2.2) KL33.out)); have n5_ := Aside0.mk ((show Kd.C k39 w41 A35 y229.length y229 from by rw [Ny229.out, KA35.out]; exact Kd.C_drop (m := ((ji14) : Int).toNat) (c := co7) ((Kd.R_reads' (Kd.R_after (ok := (fun k_ => some k_ ≠ (.slice Ao42 t235.length co42 : Value).ownBlock ∧ some k_ ≠ (v241 : Value).ownBlock)) (by (with_reducible repeat (first | apply Kd.R_alloc | apply Kd.R_drewN | apply Kd.R_drew)); exact Kd.R_mono HO_0.out (fun _ hk => ⟨⟨hk.1.1.2, hk.1.2⟩, hk.2⟩)) hg hat)).2.2) KL35.out ((Kd.R_reads' (Kd.R_after (ok := (fun k_ => some k_ ≠ (.slice Ao42 t235.length co42 : Value).ownBlock ∧ some k_ ≠ (v241 : Value).ownBlock)) (by (with_reducible repeat (first | apply Kd.R_alloc | apply Kd.R_drewN | apply Kd.R_drew)); exact Kd.R_mono HO_0.out (fun _ hk => ⟨⟨hk.1.1.2, hk.1.2⟩, hk.2⟩)) hg hat)).2.1))); have n6_ := Aside0.mk (ho); clear HO_0; clear HO238; clear HO242; clear HB; clear HR226; clear HR232; clear HO245; have HO_0 := n0_; have HO238 := n1_; have HO242 := n2_; have HB := n3_; have HR226 := n4_; have HR232 := n5_; have HO248 := n6_; clear n0_ n1_ n2_ n3_ n4_ n5_ n6_; clear ho hb hg hat; obtain ⟨Ao44, co44, eo44⟩ := Kd.R_slice HO242.out; subst eo44) | ((with_reducible refine gate_builtin (b := .append) (xs := #[.tmp 79, .tmp 80]) rfl ?_); (try (refine gate_guard (by rfl) ?_; dsimp only)); at_builtin; refine Kd.R_append_rows k39 (w0 := w) w.heap.size rfl (.tmp 79) (.tmp 80) 22 39 (.agg #[(.int .u64 0), (.string ⟨#[]⟩), (.string ⟨#[]⟩), (.bool false)]) 48 rfl Try.underlying22 info39 rfl (by decide) (by omega) v247 y246 t239 _ _ _ (fun k_ => some k_ ≠ (.slice Ao7 t217.length co7 : Value).ownBlock ∧ some k_ ≠ (.slice Ao42 t235.length co42 : Value).ownBlock ∧ some k_ ≠ (.slice Ao44 t239.length co44 : Value).ownBlock) (fun _ => False) rfl rfl ?aO ?aR (fun _ _ h => h) (fun _ h => h.elim) ?aF ?aB ?aS ?aL ?_; (case aR => repeat (first | exact (Kd.R_reads' HO242.out).2.2 | (with_reducible refine Kd.C_alloc ?_ _) | (with_reducible refine Kd.C_drewN ?_ _) | (with_reducible refine Kd.C_drew ?_))); (case aB => exact (by repeat (first | (with_reducible first | exact HB.out | apply below_alloc | apply pw_below_drewN | apply below_drew1) | exact HB.out))); (case aF => exact (fun k_ hk => ⟨Kd.fresh' (Kd.R_lt (by (with_reducible repeat (first | apply Kd.R_alloc | apply Kd.R_drewN | apply Kd.R_drew)); exact HO_0.out)) k_ hk, Kd.fresh' (Kd.R_lt (by (with_reducible repeat (first | apply Kd.R_alloc | apply Kd.R_drewN | apply Kd.R_drew)); exact HO238.out)) k_ hk, Kd.fresh' (Kd.R_lt (by (with_reducible repeat (first | apply Kd.R_alloc | apply Kd.R_drewN | apply Kd.R_drew)); exact HO242.out)) k_ hk⟩)); (case aO => exact (by (with_reducible repeat (first | apply Kd.R_alloc | apply Kd.R_drewN | apply Kd.R_drew)); exact HO248.out)); (case aS => exact (below_size (by repeat (first | (with_reducible first | exact HB.out | apply below_alloc | apply pw_below_drewN | apply below_drew1) | exact HB.out)))); (case aL => have := LMc28.out; omega); intro v250 w43 ho hb hg hat; rw [← Ny249.out] at ho; have n0_ := Aside0.mk (Kd.R_after (ok := (fun k_ => some k_ ≠ (.slice Ao42 t235.length co42 : Value).ownBlock ∧ some k_ ≠ (.slice Ao44 t239.length co44 : Value).ownBlock)) (by (with_reducible repeat (first | apply Kd.R_alloc | apply Kd.R_drewN | apply Kd.R_drew)); exact HO_0.out) hg hat); have n1_ := Aside0.mk (Kd.R_after (ok := (fun k_ => some k_ ≠ (.slice Ao7 t217.length co7 : Value).ownBlock ∧ some k_ ≠ (.slice Ao44 t239.length co44 : Value).ownBlock)) (by (with_reducible repeat (first | apply Kd.R_alloc | apply Kd.R_drewN | apply Kd.R_drew)); exact HO238.out) hg hat); have n2_ := Aside0.mk (Kd.R_after (ok := (fun k_ => some k_ ≠ (.slice Ao7 t217.length co7 : Value).ownBlock ∧ some k_ ≠ (.slice Ao42 t235.length co42 : Value).ownBlock)) (by (with_reducible repeat (first | apply Kd.R_alloc | apply Kd.R_drewN | apply Kd.R_drew)); exact HO242.out) hg hat); have n3_ := Aside0.mk (hb); have n4_ := Aside0.mk ((show Kd.C k39 w43 Ao7 y223.length y223 from by rw [Ny223.out]; exact Kd.C_take (m := ((ji14) : Int).toNat) ((Kd.R_reads' (Kd.R_after (ok := (fun k_ => some k_ ≠ (.slice Ao42 t235.length co42 : Value).ownBlock ∧ some k_ ≠ (.slice Ao44 t239.length co44 : Value).ownBlock)) (by (with_reducible repeat (first | apply Kd.R_alloc | apply Kd.R_drewN | apply Kd.R_drew)); exact HO_0.out) hg hat)).2.2) KL33.out)); have n5_ := Aside0.mk ((show Kd.C k39 w43 A35 y229.length y229 from by rw [Ny229.out, KA35.out]; exact Kd.C_drop (m := ((ji14) : Int).toNat) (c := co7) ((Kd.R_reads' (Kd.R_after (ok := (fun k_ => some k_ ≠ (.slice Ao42 t235.length co42 : Value).ownBlock ∧ some k_ ≠ (.slice Ao44 t239.length co44 : Value).ownBlock)) (by (with_reducible repeat (first | apply Kd.R_alloc | apply Kd.R_drewN | apply Kd.R_drew)); exact HO_0.out) hg hat)).2.2) KL35.out ((Kd.R_reads' (Kd.R_after (ok := (fun k_ => some k_ ≠ (.slice Ao42 t235.length co42 : Value).ownBlock ∧ some k_ ≠ (.slice Ao44 t239.length co44 : Value).ownBlock)) (by (with_reducible repeat (first | apply Kd.R_alloc | apply Kd.R_drewN | apply Kd.R_drew)); exact HO_0.out) hg hat)).2.1))); have n6_ := Aside0.mk (ho); clear HO_0; clear HO238; clear HO242; clear HB; clear HR226; clear HR232; clear HO248; have HO_0 := n0_; have HO238 := n1_; have HO242 := n2_; have HB := n3_; have HR226 := n4_; have HR232 := n5_; have HO251 := n6_; clear n0_ n1_ n2_ n3_ n4_ n5_ n6_; clear ho hb hg hat; obtain ⟨Ao45, co45, eo45⟩ := Kd.R_slice HO251.out; subst eo45) | (go_at_call 15; (with_reducible refine (cellarerref12_Same.calls kj4 _ _ y249 _ _ t217 true _ ?side1 ?side2 ?side3 ?side4 A29.out).mono ?_); (case side1 => repeat (first | exact (Kd.R_reads' HO251.out).2.2 | (with_reducible refine Kd.C_alloc ?_ _) | (with_reducible refine Kd.C_drewN ?_ _) | (with_reducible refine Kd.C_drew ?_))); (case side2 => exact (Kd.R_reads' HO251.out).2.1); (case side3 => repeat (first | exact (Kd.R_reads' HO_0.out).2.2 | (with_reducible refine Kd.C_alloc ?_ _) | (with_reducible refine Kd.C_drewN ?_ _) | (with_reducible refine Kd.C_drew ?_))); (case side4 => exact (Kd.R_reads' HO_0.out).2.1); rintro e w' ⟨rfl, ⟨nd, rfl⟩⟩) | (go_at_call 18; (with_reducible refine (cellarerlaw12_awake.calls  t253 _ A32.out).mono ?_); rintro e w46 ⟨rfl, hb⟩; have n0_ := Aside0.mk (Kd.R_below (by (with_reducible repeat (first | apply Kd.R_alloc | apply Kd.R_drewN | apply Kd.R_drew)); exact HO_0.out) hb); have n1_ := Aside0.mk (Kd.R_below (by (with_reducible repeat (first | apply Kd.R_alloc | apply Kd.R_drewN | apply Kd.R_drew)); exact HO238.out) hb); have n2_ := Aside0.mk (Kd.R_below (by (with_reducible repeat (first | apply Kd.R_alloc | apply Kd.R_drewN | apply Kd.R_drew)); exact HO242.out) hb); have n3_ := Aside0.mk (Kd.R_below (by (with_reducible repeat (first | apply Kd.R_alloc | apply Kd.R_drewN | apply Kd.R_drew)); exact HO251.out) hb); have n4_ := Aside0.mk (Kd.C_below (by repeat (first | (with_reducible exact HR226.out) | (with_reducible refine Kd.C_alloc ?_ _) | (with_reducible refine Kd.C_drewN ?_ _) | (with_reducible refine Kd.C_drew ?_) | exact HR226.out)) hb); have n5_ := Aside0.mk (Kd.C_below (by repeat (first | (with_reducible exact HR232.out) | (with_reducible refine Kd.C_alloc ?_ _) | (with_reducible refine Kd.C_drewN ?_ _) | (with_reducible refine Kd.C_drew ?_) | exact HR232.out)) hb); have n6_ := Aside0.mk (below_step (by repeat (first | (with_reducible first | exact HB.out | apply below_alloc | apply pw_below_drewN | apply below_drew1) | exact HB.out)) hb); clear HO_0; clear HO238; clear HO242; clear HO251; clear HR226; clear HR232; clear HB; have HO_0 := n0_; have HO238 := n1_; have HO242 := n2_; have HO251 := n3_; have HR226 := n4_; have HR232 := n5_; have HB := n6_; clear n0_ n1_ n2_ n3_ n4_ n5_ n6_; (try clear hb); (try clear hb2); (try clear hk); (try clear hi)))
                              go_ret
                              exact ⟨by first | rfl | (simp [errW_none, errW_some] <;> rfl) | (simp only [← hji14]; first | rfl | (simp [errW_none, errW_some] <;> rfl)) | (simp [*, errW_none, errW_some] <;> rfl), by repeat (first | (with_reducible first | exact HB.out | apply below_alloc | apply pw_below_drewN | apply below_drew1) | exact HB.out)⟩
                            · rw [if_neg c31] at H
                              have c31b0 : ((wrap64 ((t227.size : Int) + (t233.size : Int))) == (wrap64 ((t220.size : Int) + 2))) = false := beq_eq_false_iff_ne.mpr c31
                              have c31b1 : ((wrap64 ((t227.size : Int) + (t233.size : Int))) != (wrap64 ((t220.size : Int) + 2))) = true := bne_iff_ne.mpr c31
                              obtain rfl := Option.some.inj H
                              have q47 : ((ji14) : Int) ≤ ((t217.length : Int) : Int) := of_decide_eq_true (by first | (with_reducible assumption) | assumption)
                              obtain ⟨i047, hi047, _, hsz47, _⟩ := info_parts info39
                              have hroom47 : t217.length ≤ co7 := (Kd.R_reads' HO_0.out).2.1
                              have hC47 : Kd.C k39 _ Ao7 t217.length t217 := (Kd.R_reads' HO_0.out).2.2
                              have hcut47 := cut_to (P := Try.prog) 22 39 .i64 Try.underlying22 hi047 Ao7 t217.length co7 (ji14) (of_decide_eq_true (by first | (with_reducible assumption) | assumption)) q47 hroom47
                              have hr47 := Kd.C_take (m := ((ji14) : Int).toNat) hC47 (by omega)
                              have hy47 : y223.length = ((ji14) : Int).toNat := (by rw [Ny223.out, List.length_take]; omega)
                              rw [← Ny223.out] at hr47
                              rw [← hy47] at hcut47
                              have HR226 := Aside0.mk hr47
                              have HC226 := Aside0.mk (show y223.length ≤ co7 from by omega)
                              clear hr47 hC47 hroom47 hi047 hsz47
                              have KY47 := Aside0.mk hy47
                              clear hy47
                              have KL47 := Aside0.mk (show ((ji14) : Int).toNat ≤ t217.length from by omega)
                              replace q47 := eq_true q47
                              go_wp2_with (first | ((with_reducible refine gate_callee (f := 11) rfl ?_); refine goesL_ (some 42) rfl rfl Try.func11 (by kernel_rfl) rfl #[.slice Ao7 y223.length co7] rfl (by (try simp only [List.map_toArray, List.map_cons, List.map_nil]); first | done | rfl | (simp only [List.length_drop, List.length_take]; rfl)) ?_; (with_reducible refine (change_Lay.calls _ _ y223 t227 t228 _ ?side1 ?side2 A17.out).mono ?_); (case side1 => repeat (first | exact (by repeat (first | (with_reducible exact HR226.out) | (with_reducible refine Kd.C_alloc ?_ _) | (with_reducible refine Kd.C_drewN ?_ _) | (with_reducible refine Kd.C_drew ?_) | exact HR226.out)) | (with_reducible refine Kd.C_alloc ?_ _) | (with_reducible refine Kd.C_drewN ?_ _) | (with_reducible refine Kd.C_drew ?_))); (case side2 => exact HC226.out); rintro e w48 ⟨rfl, hb⟩; refine ⟨_, rfl, ?_⟩; have n0_ := Aside0.mk (Kd.R_below (by (with_reducible repeat (first | apply Kd.R_alloc | apply Kd.R_drewN | apply Kd.R_drew)); exact HO_0.out) hb); have n1_ := Aside0.mk (Kd.C_below (by repeat (first | (with_reducible exact HR226.out) | (with_reducible refine Kd.C_alloc ?_ _) | (with_reducible refine Kd.C_drewN ?_ _) | (with_reducible refine Kd.C_drew ?_) | exact HR226.out)) hb); have n2_ := Aside0.mk (below_step (by repeat (first | (with_reducible first | exact HB.out | apply below_alloc | apply pw_below_drewN | apply below_drew1) | exact HB.out)) hb); clear HO_0; clear HR226; clear HB; have HO_0 := n0_; have HR226 := n1_; have HB := n2_; clear n0_ n1_ n2_; (try clear hb); (try clear hb2); (try clear hk); (try clear hi); have q49 : ((ji14) : Int) ≤ ((t217.length : Int) : Int) := of_decide_eq_true (by first | (with_reducible assumption) | assumption); obtain ⟨i049, hi049, _, hsz49, _⟩ := info_parts info39; have hroom49 : t217.length ≤ co7 := (Kd.R_reads' HO_0.out).2.1; have hC49 : Kd.C k39 _ Ao7 t217.length t217 := (Kd.R_reads' HO_0.out).2.2; have q049 : (0 : Int) ≤ ((ji14) : Int) := of_decide_eq_true (by first | (with_reducible assumption) | assumption); have hcut49 := cut_from (P := Try.prog) 22 39 .i64 Try.underlying22 hi049 4 hsz49 Ao7 t217.length co7 (ji14) q049 q49; have hr49 := Kd.C_drop (m := ((ji14) : Int).toNat) (c := co7) hC49 (by omega) hroom49; obtain ⟨A49, hA49⟩ : ∃ A1, A1 = (if co7 = ((ji14) : Int).toNat then Ao7 else (Ao7 : Option Addr).map (·.add (((ji14) : Int).toNat * 4))) := ⟨_, rfl⟩; obtain ⟨c49, hc49⟩ : ∃ c1, c1 = co7 - ((ji14) : Int).toNat := ⟨_, rfl⟩; have hy49 : y229.length = t217.length - ((ji14) : Int).toNat := (by rw [Ny229.out, List.length_drop] <;> omega); rw [show (t217).drop ((ji14) : Int).toNat = y229 from Ny229.out.symm] at hr49; replace hr49 : Kd.C k39 _ A49 y229.length y229 := (by rw [hA49]; exact hr49); rw [← hy49, ← hA49, ← hc49] at hcut49; have HR232 := Aside0.mk hr49; have HC232 := Aside0.mk (show y229.length ≤ c49 from by rw [hy49, hc49]; exact Nat.sub_le_sub_right hroom49 _); clear hr49 hC49 hroom49 hi049 hsz49 hc49; have KY49 := Aside0.mk hy49; have KA49 := Aside0.mk hA49; clear hy49 hA49; have KL49 := Aside0.mk (show ((ji14) : Int).toNat ≤ t217.length from by omega); replace q49 := eq_true q49) | ((with_reducible refine gate_callee (f := 11) rfl ?_); refine goesL_ (some 49) rfl rfl Try.func11 (by kernel_rfl) rfl #[.slice A49 y229.length c49] rfl (by (try simp only [List.map_toArray, List.map_cons, List.map_nil]); first | done | rfl | (simp only [List.length_drop, List.length_take]; rfl)) ?_; (with_reducible refine (change_Lay.calls _ _ y229 t233 t234 _ ?side1 ?side2 A20.out).mono ?_); (case side1 => repeat (first | exact (by repeat (first | (with_reducible exact HR232.out) | (with_reducible refine Kd.C_alloc ?_ _) | (with_reducible refine Kd.C_drewN ?_ _) | (with_reducible refine Kd.C_drew ?_) | exact HR232.out)) | (with_reducible refine Kd.C_alloc ?_ _) | (with_reducible refine Kd.C_drewN ?_ _) | (with_reducible refine Kd.C_drew ?_))); (case side2 => exact HC232.out); rintro e w50 ⟨rfl, hb⟩; refine ⟨_, rfl, ?_⟩; have n0_ := Aside0.mk (Kd.R_below (by (with_reducible repeat (first | apply Kd.R_alloc | apply Kd.R_drewN | apply Kd.R_drew)); exact HO_0.out) hb); have n1_ := Aside0.mk (Kd.C_below (by repeat (first | (with_reducible exact HR226.out) | (with_reducible refine Kd.C_alloc ?_ _) | (with_reducible refine Kd.C_drewN ?_ _) | (with_reducible refine Kd.C_drew ?_) | exact HR226.out)) hb); have n2_ := Aside0.mk (Kd.C_below (by repeat (first | (with_reducible exact HR232.out) | (with_reducible refine Kd.C_alloc ?_ _) | (with_reducible refine Kd.C_drewN ?_ _) | (with_reducible refine Kd.C_drew ?_) | exact HR232.out)) hb); have n3_ := Aside0.mk (below_step (by repeat (first | (with_reducible first | exact HB.out | apply below_alloc | apply pw_below_drewN | apply below_drew1) | exact HB.out)) hb); clear HO_0; clear HR226; clear HR232; clear HB; have HO_0 := n0_; have HR226 := n1_; have HR232 := n2_; have HB := n3_; clear n0_ n1_ n2_ n3_; (try clear hb); (try clear hb2); (try clear hk); (try clear hi)) | ((with_reducible refine gate_callee (f := 13) rfl ?_); refine goesL_ (some 54) rfl rfl Try.func13 (by kernel_rfl) rfl #[.string t227] rfl (by (try simp only [List.map_toArray, List.map_cons, List.map_nil]); first | done | rfl | (simp only [List.length_drop, List.length_take]; rfl)) ?_; (with_reducible refine (change_TakeA.calls t227 t235 t236 _ A21.out).mono ?_); rintro e w51 ⟨v237, rfl, ho0, hb⟩; refine ⟨_, rfl, ?_⟩; have n0_ := Aside0.mk (Kd.R_elder' (by (with_reducible repeat (first | apply Kd.R_alloc | apply Kd.R_drewN | apply Kd.R_drew)); exact HO_0.out) (Kd.R_base ho0) hb); have n1_ := Aside0.mk (Kd.R_lower (Kd.R_new' ho0 (Kd.R_lt (by (with_reducible repeat (first | apply Kd.R_alloc | apply Kd.R_drewN | apply Kd.R_drew)); exact HO_0.out))) (below_size (by repeat (first | (with_reducible first | exact HB.out | apply below_alloc | apply pw_below_drewN | apply below_drew1) | exact HB.out)))); have n2_ := Aside0.mk (Kd.C_below (by repeat (first | (with_reducible exact HR226.out) | (with_reducible refine Kd.C_alloc ?_ _) | (with_reducible refine Kd.C_drewN ?_ _) | (with_reducible refine Kd.C_drew ?_) | exact HR226.out)) hb); have n3_ := Aside0.mk (Kd.C_below (by repeat (first | (with_reducible exact HR232.out) | (with_reducible refine Kd.C_alloc ?_ _) | (with_reducible refine Kd.C_drewN ?_ _) | (with_reducible refine Kd.C_drew ?_) | exact HR232.out)) hb); have n4_ := Aside0.mk (below_step (by repeat (first | (with_reducible first | exact HB.out | apply below_alloc | apply pw_below_drewN | apply below_drew1) | exact HB.out)) hb); clear HO_0; clear HR226; clear HR232; clear HB; have HO_0 := n0_; have HO238 := n1_; have HR226 := n2_; have HR232 := n3_; have HB := n4_; clear n0_ n1_ n2_ n3_ n4_; (try clear hb); (try clear hb2); (try clear hk); (try clear hi); (try clear ho0)) | ((with_reducible refine gate_callee (f := 13) rfl ?_); refine goesL_ (some 59) rfl rfl Try.func13 (by kernel_rfl) rfl #[.string t233] rfl (by (try simp only [List.map_toArray, List.map_cons, List.map_nil]); first | done | rfl | (simp only [List.length_drop, List.length_take]; rfl)) ?_; (with_reducible refine (change_TakeA.calls t233 t239 t240 _ A22.out).mono ?_); rintro e w52 ⟨v241, rfl, ho0, hb⟩; refine ⟨_, rfl, ?_⟩; have n0_ := Aside0.mk (Kd.R_elder' (by (with_reducible repeat (first | apply Kd.R_alloc | apply Kd.R_drewN | apply Kd.R_drew)); exact HO_0.out) (Kd.R_base ho0) hb); have n1_ := Aside0.mk (Kd.R_elder' (by (with_reducible repeat (first | apply Kd.R_alloc | apply Kd.R_drewN | apply Kd.R_drew)); exact HO238.out) (Kd.R_base ho0) hb); have n2_ := Aside0.mk (Kd.R_lower (Kd.R_new' (Kd.R_new' ho0 (Kd.R_lt (by (with_reducible repeat (first | apply Kd.R_alloc | apply Kd.R_drewN | apply Kd.R_drew)); exact HO_0.out))) (Kd.R_lt (by (with_reducible repeat (first | apply Kd.R_alloc | apply Kd.R_drewN | apply Kd.R_drew)); exact HO238.out))) (below_size (by repeat (first | (with_reducible first | exact HB.out | apply below_alloc | apply pw_below_drewN | apply below_drew1) | exact HB.out)))); have n3_ := Aside0.mk (Kd.C_below (by repeat (first | (with_reducible exact HR226.out) | (with_reducible refine Kd.C_alloc ?_ _) | (with_reducible refine Kd.C_drewN ?_ _) | (with_reducible refine Kd.C_drew ?_) | exact HR226.out)) hb); have n4_ := Aside0.mk (Kd.C_below (by repeat (first | (with_reducible exact HR232.out) | (with_reducible refine Kd.C_alloc ?_ _) | (with_reducible refine Kd.C_drewN ?_ _) | (with_reducible refine Kd.C_drew ?_) | exact HR232.out)) hb); have n5_ := Aside0.mk (below_step (by repeat (first | (with_reducible first | exact HB.out | apply below_alloc | apply pw_below_drewN | apply below_drew1) | exact HB.out)) hb); clear HO_0; clear HO238; clear HR226; clear HR232; clear HB; have HO_0 := n0_; have HO238 := n1_; have HO242 := n2_; have HR226 := n3_; have HR232 := n4_; have HB := n5_; clear n0_ n1_ n2_ n3_ n4_ n5_; (try clear hb); (try clear hb2); (try clear hk); (try clear hi); (try clear ho0)) | ((with_reducible refine gate_dst (N := 77) rfl ?_); (try (refine gate_guard (by rfl) ?_; dsimp only)); refine Kd.R_lit k39 _ 39 ?hg (N := 77) ?hd (xs := ([] : List (S39))) (inner := []) (ok := fun _ => True) (okp := fun _ => True) ?hr ?hp (fun _ hk => hk) trivial (Below.refl _ _) (Nat.le_refl _) (by simp) ?_; (case hd => rfl); (case hg => rfl); (case hr => first | (go_simp; done) | (go_simp; rfl)); (case hp => exact (Reps.none _ _)); intro v244 w53 ho54 hb hg_ hnew_; clear hg_ hnew_; (first | rw [← Ny243.out] at ho54 | (simp only [Int.reduceToNat] at ho54; rw [← Ny243.out] at ho54)); have n0_ := Aside0.mk (Kd.R_elder' (by (with_reducible repeat (first | apply Kd.R_alloc | apply Kd.R_drewN | apply Kd.R_drew)); exact HO_0.out) (Kd.R_base ho54) hb); have n1_ := Aside0.mk (Kd.R_elder' (by (with_reducible repeat (first | apply Kd.R_alloc | apply Kd.R_drewN | apply Kd.R_drew)); exact HO238.out) (Kd.R_base ho54) hb); have n2_ := Aside0.mk (Kd.R_elder' (by (with_reducible repeat (first | apply Kd.R_alloc | apply Kd.R_drewN | apply Kd.R_drew)); exact HO242.out) (Kd.R_base ho54) hb); have n3_ := Aside0.mk (Kd.R_lower (Kd.R_new' (Kd.R_new' (Kd.R_new' ho54 (Kd.R_lt (by (with_reducible repeat (first | apply Kd.R_alloc | apply Kd.R_drewN | apply Kd.R_drew)); exact HO_0.out))) (Kd.R_lt (by (with_reducible repeat (first | apply Kd.R_alloc | apply Kd.R_drewN | apply Kd.R_drew)); exact HO238.out))) (Kd.R_lt (by (with_reducible repeat (first | apply Kd.R_alloc | apply Kd.R_drewN | apply Kd.R_drew)); exact HO242.out))) (below_size (by repeat (first | (with_reducible first | exact HB.out | apply below_alloc | apply pw_below_drewN | apply below_drew1) | exact HB.out)))); have n4_ := Aside0.mk (Kd.C_below (by repeat (first | (with_reducible exact HR226.out) | (with_reducible refine Kd.C_alloc ?_ _) | (with_reducible refine Kd.C_drewN ?_ _) | (with_reducible refine Kd.C_drew ?_) | exact HR226.out)) hb); have n5_ := Aside0.mk (Kd.C_below (by repeat (first | (with_reducible exact HR232.out) | (with_reducible refine Kd.C_alloc ?_ _) | (with_reducible refine Kd.C_drewN ?_ _) | (with_reducible refine Kd.C_drew ?_) | exact HR232.out)) hb); have n6_ := Aside0.mk (below_step (by repeat (first | (with_reducible first | exact HB.out | apply below_alloc | apply pw_below_drewN | apply below_drew1) | exact HB.out)) hb); clear HO_0; clear HO238; clear HO242; clear HR226; clear HR232; clear HB; have HO_0 := n0_; have HO238 := n1_; have HO242 := n2_; have HO245 := n3_; have HR226 := n4_; have HR232 := n5_; have HB := n6_; clear n0_ n1_ n2_ n3_ n4_ n5_ n6_; clear hb ho54; obtain ⟨Ao56, co56, eo56⟩ := Kd.R_slice HO238.out; subst eo56) | ((with_reducible refine gate_builtin (b := .append) (xs := #[.tmp 77, .tmp 78]) rfl ?_); (try (refine gate_guard (by rfl) ?_; dsimp only)); at_builtin; refine Kd.R_append_rows k39 (w0 := w) w.heap.size rfl (.tmp 77) (.tmp 78) 22 39 (.agg #[(.int .u64 0), (.string ⟨#[]⟩), (.string ⟨#[]⟩), (.bool false)]) 48 rfl Try.underlying22 info39 rfl (by decide) (by omega) v244 y243 t235 _ _ _ (fun k_ => some k_ ≠ (.slice Ao7 t217.length co7 : Value).ownBlock ∧ some k_ ≠ (.slice Ao56 t235.length co56 : Value).ownBlock ∧ some k_ ≠ (v241 : Value).ownBlock) (fun _ => False) rfl rfl ?aO ?aR (fun _ _ h => h) (fun _ h => h.elim) ?aF ?aB ?aS ?aL ?_; (case aR => repeat (first | exact (Kd.R_reads' HO238.out).2.2 | (with_reducible refine Kd.C_alloc ?_ _) | (with_reducible refine Kd.C_drewN ?_ _) | (with_reducible refine Kd.C_drew ?_))); (case aB => exact (by repeat (first | (with_reducible first | exact HB.out | apply below_alloc | apply pw_below_drewN | apply below_drew1) | exact HB.out))); (case aF => exact (fun k_ hk => ⟨Kd.fresh' (Kd.R_lt (by (with_reducible repeat (first | apply Kd.R_alloc | apply Kd.R_drewN | apply Kd.R_drew)); exact HO_0.out)) k_ hk, Kd.fresh' (Kd.R_lt (by (with_reducible repeat (first | apply Kd.R_alloc | apply Kd.R_drewN | apply Kd.R_drew)); exact HO238.out)) k_ hk, Kd.fresh' (Kd.R_lt (by (with_reducible repeat (first | apply Kd.R_alloc | apply Kd.R_drewN | apply Kd.R_drew)); exact HO242.out)) k_ hk⟩)); (case aO => exact (by (with_reducible repeat (first | apply Kd.R_alloc | apply Kd.R_drewN | apply Kd.R_drew)); exact Kd.R_mono HO245.out (fun _ hk => ⟨hk.1.1.2, ⟨hk.1.2, hk.2⟩⟩))); (case aS => exact (below_size (by repeat (first | (with_reducible first | exact HB.out | apply below_alloc | apply pw_below_drewN | apply below_drew1) | exact HB.out)))); (case aL => have := LMc27.out; omega); intro v247 w55 ho hb hg hat; rw [← Ny246.out] at ho; have n0_ := Aside0.mk (Kd.R_after (ok := (fun k_ => some k_ ≠ (.slice Ao56 t235.length co56 : Value).ownBlock ∧ some k_ ≠ (v241 : Value).ownBlock)) (by (with_reducible repeat (first | apply Kd.R_alloc | apply Kd.R_drewN | apply Kd.R_drew)); exact Kd.R_mono HO_0.out (fun _ hk => ⟨⟨hk.1.1.2, hk.1.2⟩, hk.2⟩)) hg hat); have n1_ := Aside0.mk (Kd.R_after (ok := (fun k_ => some k_ ≠ (.slice Ao7 t217.length co7 : Value).ownBlock ∧ some k_ ≠ (v241 : Value).ownBlock)) (by (with_reducible repeat (first | apply Kd.R_alloc | apply Kd.R_drewN | apply Kd.R_drew)); exact Kd.R_mono HO238.out (fun _ hk => ⟨⟨hk.1.1.2, hk.1.2⟩, hk.2⟩)) hg hat); have n2_ := Aside0.mk (Kd.R_after (ok := (fun k_ => some k_ ≠ (.slice Ao7 t217.length co7 : Value).ownBlock ∧ some k_ ≠ (.slice Ao56 t235.length co56 : Value).ownBlock)) (by (with_reducible repeat (first | apply Kd.R_alloc | apply Kd.R_drewN | apply Kd.R_drew)); exact Kd.R_mono HO242.out (fun _ hk => ⟨⟨hk.1.1.2, hk.1.2⟩, hk.2⟩)) hg hat); have n3_ := Aside0.mk (hb); have n4_ := Aside0.mk ((show Kd.C k39 w55 Ao7 y223.length y223 from by rw [Ny223.out]; exact Kd.C_take (m := ((ji14) : Int).toNat) ((Kd.R_reads' (Kd.R_after (ok := (fun k_ => some k_ ≠ (.slice Ao56 t235.length co56 : Value).ownBlock ∧ some k_ ≠ (v241 : Value).ownBlock)) (by (with_reducible repeat (first | apply Kd.R_alloc | apply Kd.R_drewN | apply Kd.R_drew)); exact Kd.R_mono HO_0.out (fun _ hk => ⟨⟨hk.1.1.2, hk.1.2⟩, hk.2⟩)) hg hat)).2.2) KL47.out)); have n5_ := Aside0.mk ((show Kd.C k39 w55 A49 y229.length y229 from by rw [Ny229.out, KA49.out]; exact Kd.C_drop (m := ((ji14) : Int).toNat) (c := co7) ((Kd.R_reads' (Kd.R_after (ok := (fun k_ => some k_ ≠ (.slice Ao56 t235.length co56 : Value).ownBlock ∧ some k_ ≠ (v241 : Value).ownBlock)) (by (with_reducible repeat (first | apply Kd.R_alloc | apply Kd.R_drewN | apply Kd.R_drew)); exact Kd.R_mono HO_0.out (fun _ hk => ⟨⟨hk.1.1.2, hk.1.2⟩, hk.2⟩)) hg hat)).2.2) KL49.out ((Kd.R_reads' (Kd.R_after (ok := (fun k_ => some k_ ≠ (.slice Ao56 t235.length co56 : Value).ownBlock ∧ some k_ ≠ (v241 : Value).ownBlock)) (by (with_reducible repeat (first | apply Kd.R_alloc | apply Kd.R_drewN | apply Kd.R_drew)); exact Kd.R_mono HO_0.out (fun _ hk => ⟨⟨hk.1.1.2, hk.1.2⟩, hk.2⟩)) hg hat)).2.1))); have n6_ := Aside0.mk (ho); clear HO_0; clear HO238; clear HO242; clear HB; clear HR226; clear HR232; clear HO245; have HO_0 := n0_; have HO238 := n1_; have HO242 := n2_; have HB := n3_; have HR226 := n4_; have HR232 := n5_; have HO248 := n6_; clear n0_ n1_ n2_ n3_ n4_ n5_ n6_; clear ho hb hg hat; obtain ⟨Ao58, co58, eo58⟩ := Kd.R_slice HO242.out; subst eo58) | ((with_reducible refine gate_builtin (b := .append) (xs := #[.tmp 79, .tmp 80]) rfl ?_); (try (refine gate_guard (by rfl) ?_; dsimp only)); at_builtin; refine Kd.R_append_rows k39 (w0 := w) w.heap.size rfl (.tmp 79) (.tmp 80) 22 39 (.agg #[(.int .u64 0), (.string ⟨#[]⟩), (.string ⟨#[]⟩), (.bool false)]) 48 rfl Try.underlying22 info39 rfl (by decide) (by omega) v247 y246 t239 _ _ _ (fun k_ => some k_ ≠ (.slice Ao7 t217.length co7 : Value).ownBlock ∧ some k_ ≠ (.slice Ao56 t235.length co56 : Value).ownBlock ∧ some k_ ≠ (.slice Ao58 t239.length co58 : Value).ownBlock) (fun _ => False) rfl rfl ?aO ?aR (fun _ _ h => h) (fun _ h => h.elim) ?aF ?aB ?aS ?aL ?_; (case aR => repeat (first | exact (Kd.R_reads' HO242.out).2.2 | (with_reducible refine Kd.C_alloc ?_ _) | (with_reducible refine Kd.C_drewN ?_ _) | (with_reducible refine Kd.C_drew ?_))); (case aB => exact (by repeat (first | (with_reducible first | exact HB.out | apply below_alloc | apply pw_below_drewN | apply below_drew1) | exact HB.out))); (case aF => exact (fun k_ hk => ⟨Kd.fresh' (Kd.R_lt (by (with_reducible repeat (first | apply Kd.R_alloc | apply Kd.R_drewN | apply Kd.R_drew)); exact HO_0.out)) k_ hk, Kd.fresh' (Kd.R_lt (by (with_reducible repeat (first | apply Kd.R_alloc | apply Kd.R_drewN | apply Kd.R_drew)); exact HO238.out)) k_ hk, Kd.fresh' (Kd.R_lt (by (with_reducible repeat (first | apply Kd.R_alloc | apply Kd.R_drewN | apply Kd.R_drew)); exact HO242.out)) k_ hk⟩)); (case aO => exact (by (with_reducible repeat (first | apply Kd.R_alloc | apply Kd.R_drewN | apply Kd.R_drew)); exact HO248.out)); (case aS => exact (below_size (by repeat (first | (with_reducible first | exact HB.out | apply below_alloc | apply pw_below_drewN | apply below_drew1) | exact HB.out)))); (case aL => have := LMc28.out; omega); intro v250 w57 ho hb hg hat; rw [← Ny249.out] at ho; have n0_ := Aside0.mk (Kd.R_after (ok := (fun k_ => some k_ ≠ (.slice Ao56 t235.length co56 : Value).ownBlock ∧ some k_ ≠ (.slice Ao58 t239.length co58 : Value).ownBlock)) (by (with_reducible repeat (first | apply Kd.R_alloc | apply Kd.R_drewN | apply Kd.R_drew)); exact HO_0.out) hg hat); have n1_ := Aside0.mk (Kd.R_after (ok := (fun k_ => some k_ ≠ (.slice Ao7 t217.length co7 : Value).ownBlock ∧ some k_ ≠ (.slice Ao58 t239.length co58 : Value).ownBlock)) (by (with_reducible repeat (first | apply Kd.R_alloc | apply Kd.R_drewN | apply Kd.R_drew)); exact HO238.out) hg hat); have n2_ := Aside0.mk (Kd.R_after (ok := (fun k_ => some k_ ≠ (.slice Ao7 t217.length co7 : Value).ownBlock ∧ some k_ ≠ (.slice Ao56 t235.length co56 : Value).ownBlock)) (by (with_reducible repeat (first | apply Kd.R_alloc | apply Kd.R_drewN | apply Kd.R_drew)); exact HO242.out) hg hat); have n3_ := Aside0.mk (hb); have n4_ := Aside0.mk ((show Kd.C k39 w57 Ao7 y223.length y223 from by rw [Ny223.out]; exact Kd.C_take (m := ((ji14) : Int).toNat) ((Kd.R_reads' (Kd.R_after (ok := (fun k_ => some k_ ≠ (.slice Ao56 t235.length co56 : Value).ownBlock ∧ some k_ ≠ (.slice Ao58 t239.length co58 : Value).ownBlock)) (by (with_reducible repeat (first | apply Kd.R_alloc | apply Kd.R_drewN | apply Kd.R_drew)); exact HO_0.out) hg hat)).2.2) KL47.out)); have n5_ := Aside0.mk ((show Kd.C k39 w57 A49 y229.length y229 from by rw [Ny229.out, KA49.out]; exact Kd.C_drop (m := ((ji14) : Int).toNat) (c := co7) ((Kd.R_reads' (Kd.R_after (ok := (fun k_ => some k_ ≠ (.slice Ao56 t235.length co56 : Value).ownBlock ∧ some k_ ≠ (.slice Ao58 t239.length co58 : Value).ownBlock)) (by (with_reducible repeat (first | apply Kd.R_alloc | apply Kd.R_drewN | apply Kd.R_drew)); exact HO_0.out) hg hat)).2.2) KL49.out ((Kd.R_reads' (Kd.R_after (ok := (fun k_ => some k_ ≠ (.slice Ao56 t235.length co56 : Value).ownBlock ∧ some k_ ≠ (.slice Ao58 t239.length co58 : Value).ownBlock)) (by (with_reducible repeat (first | apply Kd.R_alloc | apply Kd.R_drewN | apply Kd.R_drew)); exact HO_0.out) hg hat)).2.1))); have n6_ := Aside0.mk (ho); clear HO_0; clear HO238; clear HO242; clear HB; clear HR226; clear HR232; clear HO248; have HO_0 := n0_; have HO238 := n1_; have HO242 := n2_; have HB := n3_; have HR226 := n4_; have HR232 := n5_; have HO251 := n6_; clear n0_ n1_ n2_ n3_ n4_ n5_ n6_; clear ho hb hg hat; obtain ⟨Ao59, co59, eo59⟩ := Kd.R_slice HO251.out; subst eo59) | (go_at_call 15; (with_reducible refine (cellarerref12_Same.calls kj4 _ _ y249 _ _ t217 true _ ?side1 ?side2 ?side3 ?side4 A29.out).mono ?_); (case side1 => repeat (first | exact (Kd.R_reads' HO251.out).2.2 | (with_reducible refine Kd.C_alloc ?_ _) | (with_reducible refine Kd.C_drewN ?_ _) | (with_reducible refine Kd.C_drew ?_))); (case side2 => exact (Kd.R_reads' HO251.out).2.1); (case side3 => repeat (first | exact (Kd.R_reads' HO_0.out).2.2 | (with_reducible refine Kd.C_alloc ?_ _) | (with_reducible refine Kd.C_drewN ?_ _) | (with_reducible refine Kd.C_drew ?_))); (case side4 => exact (Kd.R_reads' HO_0.out).2.1); rintro e w' ⟨rfl, ⟨nd, rfl⟩⟩))
                              go_ret
                              exact ⟨by first | rfl | (simp [errW_none, errW_some] <;> rfl) | (simp only [← hji14]; first | rfl | (simp [errW_none, errW_some] <;> rfl)) | (simp [*, errW_none, errW_some] <;> rfl), by repeat (first | (with_reducible first | exact HB.out | apply below_alloc | apply pw_below_drewN | apply below_drew1) | exact HB.out)⟩
                          · replace c30 := Bool.eq_false_iff.mpr c30
                            subst c30
                            have H1 : (some false) = some r := by rw [if_neg (show ¬ (false = true) by decide)] at H; exact H
                            clear H
                            have H := H1
                            clear H1
                            obtain rfl := Option.some.inj H
                            have q60 : ((ji14) : Int) ≤ ((t217.length : Int) : Int) := of_decide_eq_true (by first | (with_reducible assumption) | assumption)
                            obtain ⟨i060, hi060, _, hsz60, _⟩ := info_parts info39
                            have hroom60 : t217.length ≤ co7 := (Kd.R_reads' HO_0.out).2.1
                            have hC60 : Kd.C k39 _ Ao7 t217.length t217 := (Kd.R_reads' HO_0.out).2.2
                            have hcut60 := cut_to (P := Try.prog) 22 39 .i64 Try.underlying22 hi060 Ao7 t217.length co7 (ji14) (of_decide_eq_true (by first | (with_reducible assumption) | assumption)) q60 hroom60
                            have hr60 := Kd.C_take (m := ((ji14) : Int).toNat) hC60 (by omega)
                            have hy60 : y223.length = ((ji14) : Int).toNat := (by rw [Ny223.out, List.length_take]; omega)
                            rw [← Ny223.out] at hr60
                            rw [← hy60] at hcut60
                            have HR226 := Aside0.mk hr60
                            have HC226 := Aside0.mk (show y223.length ≤ co7 from by omega)
                            clear hr60 hC60 hroom60 hi060 hsz60
                            have KY60 := Aside0.mk hy60
                            clear hy60
                            have KL60 := Aside0.mk (show ((ji14) : Int).toNat ≤ t217.length from by omega)
                            replace q60 := eq_true q60
                            go_wp2_with (first | ((with_reducible refine gate_callee (f := 11) rfl ?_); refine goesL_ (some 42) rfl rfl Try.func11 (by kernel_rfl) rfl #[.slice Ao7 y223.length co7] rfl (by (try simp only [List.map_toArray, List.map_cons, List.map_nil]); first | done | rfl | (simp only [List.length_drop, List.length_take]; rfl)) ?_; (with_reducible refine (change_Lay.calls _ _ y223 t227 t228 _ ?side1 ?side2 A17.out).mono ?_); (case side1 => repeat (first | exact (by repeat (first | (with_reducible exact HR226.out) | (with_reducible refine Kd.C_alloc ?_ _) | (with_reducible refine Kd.C_drewN ?_ _) | (with_reducible refine Kd.C_drew ?_) | exact HR226.out)) | (with_reducible refine Kd.C_alloc ?_ _) | (with_reducible refine Kd.C_drewN ?_ _) | (with_reducible refine Kd.C_drew ?_))); (case side2 => exact HC226.out); rintro e w61 ⟨rfl, hb⟩; refine ⟨_, rfl, ?_⟩; have n0_ := Aside0.mk (Kd.R_below (by (with_reducible repeat (first | apply Kd.R_alloc | apply Kd.R_drewN | apply Kd.R_drew)); exact HO_0.out) hb); have n1_ := Aside0.mk (Kd.C_below (by repeat (first | (with_reducible exact HR226.out) | (with_reducible refine Kd.C_alloc ?_ _) | (with_reducible refine Kd.C_drewN ?_ _) | (with_reducible refine Kd.C_drew ?_) | exact HR226.out)) hb); have n2_ := Aside0.mk (below_step (by repeat (first | (with_reducible first | exact HB.out | apply below_alloc | apply pw_below_drewN | apply below_drew1) | exact HB.out)) hb); clear HO_0; clear HR226; clear HB; have HO_0 := n0_; have HR226 := n1_; have HB := n2_; clear n0_ n1_ n2_; (try clear hb); (try clear hb2); (try clear hk); (try clear hi); have q62 : ((ji14) : Int) ≤ ((t217.length : Int) : Int) := of_decide_eq_true (by first | (with_reducible assumption) | assumption); obtain ⟨i062, hi062, _, hsz62, _⟩ := info_parts info39; have hroom62 : t217.length ≤ co7 := (Kd.R_reads' HO_0.out).2.1; have hC62 : Kd.C k39 _ Ao7 t217.length t217 := (Kd.R_reads' HO_0.out).2.2; have q062 : (0 : Int) ≤ ((ji14) : Int) := of_decide_eq_true (by first | (with_reducible assumption) | assumption); have hcut62 := cut_from (P := Try.prog) 22 39 .i64 Try.underlying22 hi062 4 hsz62 Ao7 t217.length co7 (ji14) q062 q62; have hr62 := Kd.C_drop (m := ((ji14) : Int).toNat) (c := co7) hC62 (by omega) hroom62; obtain ⟨A62, hA62⟩ : ∃ A1, A1 = (if co7 = ((ji14) : Int).toNat then Ao7 else (Ao7 : Option Addr).map (·.add (((ji14) : Int).toNat * 4))) := ⟨_, rfl⟩; obtain ⟨c62, hc62⟩ : ∃ c1, c1 = co7 - ((ji14) : Int).toNat := ⟨_, rfl⟩; have hy62 : y229.length = t217.length - ((ji14) : Int).toNat := (by rw [Ny229.out, List.length_drop] <;> omega); rw [show (t217).drop ((ji14) : Int).toNat = y229 from Ny229.out.symm] at hr62; replace hr62 : Kd.C k39 _ A62 y229.length y229 := (by rw [hA62]; exact hr62); rw [← hy62, ← hA62, ← hc62] at hcut62; have HR232 := Aside0.mk hr62; have HC232 := Aside0.mk (show y229.length ≤ c62 from by rw [hy62, hc62]; exact Nat.sub_le_sub_right hroom62 _); clear hr62 hC62 hroom62 hi062 hsz62 hc62; have KY62 := Aside0.mk hy62; have KA62 := Aside0.mk hA62; clear hy62 hA62; have KL62 := Aside0.mk (show ((ji14) : Int).toNat ≤ t217.length from by omega); replace q62 := eq_true q62) | ((with_reducible refine gate_callee (f := 11) rfl ?_); refine goesL_ (some 49) rfl rfl Try.func11 (by kernel_rfl) rfl #[.slice A62 y229.length c62] rfl (by (try simp only [List.map_toArray, List.map_cons, List.map_nil]); first | done | rfl | (simp only [List.length_drop, List.length_take]; rfl)) ?_; (with_reducible refine (change_Lay.calls _ _ y229 t233 t234 _ ?side1 ?side2 A20.out).mono ?_); (case side1 => repeat (first | exact (by repeat (first | (with_reducible exact HR232.out) | (with_reducible refine Kd.C_alloc ?_ _) | (with_reducible refine Kd.C_drewN ?_ _) | (with_reducible refine Kd.C_drew ?_) | exact HR232.out)) | (with_reducible refine Kd.C_alloc ?_ _) | (with_reducible refine Kd.C_drewN ?_ _) | (with_reducible refine Kd.C_drew ?_))); (case side2 => exact HC232.out); rintro e w63 ⟨rfl, hb⟩; refine ⟨_, rfl, ?_⟩; have n0_ := Aside0.mk (Kd.R_below (by (with_reducible repeat (first | apply Kd.R_alloc | apply Kd.R_drewN | apply Kd.R_drew)); exact HO_0.out) hb); have n1_ := Aside0.mk (Kd.C_below (by repeat (first | (with_reducible exact HR226.out) | (with_reducible refine Kd.C_alloc ?_ _) | (with_reducible refine Kd.C_drewN ?_ _) | (with_reducible refine Kd.C_drew ?_) | exact HR226.out)) hb); have n2_ := Aside0.mk (Kd.C_below (by repeat (first | (with_reducible exact HR232.out) | (with_reducible refine Kd.C_alloc ?_ _) | (with_reducible refine Kd.C_drewN ?_ _) | (with_reducible refine Kd.C_drew ?_) | exact HR232.out)) hb); have n3_ := Aside0.mk (below_step (by repeat (first | (with_reducible first | exact HB.out | apply below_alloc | apply pw_below_drewN | apply below_drew1) | exact HB.out)) hb); clear HO_0; clear HR226; clear HR232; clear HB; have HO_0 := n0_; have HR226 := n1_; have HR232 := n2_; have HB := n3_; clear n0_ n1_ n2_ n3_; (try clear hb); (try clear hb2); (try clear hk); (try clear hi)) | ((with_reducible refine gate_callee (f := 13) rfl ?_); refine goesL_ (some 54) rfl rfl Try.func13 (by kernel_rfl) rfl #[.string t227] rfl (by (try simp only [List.map_toArray, List.map_cons, List.map_nil]); first | done | rfl | (simp only [List.length_drop, List.length_take]; rfl)) ?_; (with_reducible refine (change_TakeA.calls t227 t235 t236 _ A21.out).mono ?_); rintro e w64 ⟨v237, rfl, ho0, hb⟩; refine ⟨_, rfl, ?_⟩; have n0_ := Aside0.mk (Kd.R_elder' (by (with_reducible repeat (first | apply Kd.R_alloc | apply Kd.R_drewN | apply Kd.R_drew)); exact HO_0.out) (Kd.R_base ho0) hb); have n1_ := Aside0.mk (Kd.R_lower (Kd.R_new' ho0 (Kd.R_lt (by (with_reducible repeat (first | apply Kd.R_alloc | apply Kd.R_drewN | apply Kd.R_drew)); exact HO_0.out))) (below_size (by repeat (first | (with_reducible first | exact HB.out | apply below_alloc | apply pw_below_drewN | apply below_drew1) | exact HB.out)))); have n2_ := Aside0.mk (Kd.C_below (by repeat (first | (with_reducible exact HR226.out) | (with_reducible refine Kd.C_alloc ?_ _) | (with_reducible refine Kd.C_drewN ?_ _) | (with_reducible refine Kd.C_drew ?_) | exact HR226.out)) hb); have n3_ := Aside0.mk (Kd.C_below (by repeat (first | (with_reducible exact HR232.out) | (with_reducible refine Kd.C_alloc ?_ _) | (with_reducible refine Kd.C_drewN ?_ _) | (with_reducible refine Kd.C_drew ?_) | exact HR232.out)) hb); have n4_ := Aside0.mk (below_step (by repeat (first | (with_reducible first | exact HB.out | apply below_alloc | apply pw_below_drewN | apply below_drew1) | exact HB.out)) hb); clear HO_0; clear HR226; clear HR232; clear HB; have HO_0 := n0_; have HO238 := n1_; have HR226 := n2_; have HR232 := n3_; have HB := n4_; clear n0_ n1_ n2_ n3_ n4_; (try clear hb); (try clear hb2); (try clear hk); (try clear hi); (try clear ho0)) | ((with_reducible refine gate_callee (f := 13) rfl ?_); refine goesL_ (some 59) rfl rfl Try.func13 (by kernel_rfl) rfl #[.string t233] rfl (by (try simp only [List.map_toArray, List.map_cons, List.map_nil]); first | done | rfl | (simp only [List.length_drop, List.length_take]; rfl)) ?_; (with_reducible refine (change_TakeA.calls t233 t239 t240 _ A22.out).mono ?_); rintro e w65 ⟨v241, rfl, ho0, hb⟩; refine ⟨_, rfl, ?_⟩; have n0_ := Aside0.mk (Kd.R_elder' (by (with_reducible repeat (first | apply Kd.R_alloc | apply Kd.R_drewN | apply Kd.R_drew)); exact HO_0.out) (Kd.R_base ho0) hb); have n1_ := Aside0.mk (Kd.R_elder' (by (with_reducible repeat (first | apply Kd.R_alloc | apply Kd.R_drewN | apply Kd.R_drew)); exact HO238.out) (Kd.R_base ho0) hb); have n2_ := Aside0.mk (Kd.R_lower (Kd.R_new' (Kd.R_new' ho0 (Kd.R_lt (by (with_reducible repeat (first | apply Kd.R_alloc | apply Kd.R_drewN | apply Kd.R_drew)); exact HO_0.out))) (Kd.R_lt (by (with_reducible repeat (first | apply Kd.R_alloc | apply Kd.R_drewN | apply Kd.R_drew)); exact HO238.out))) (below_size (by repeat (first | (with_reducible first | exact HB.out | apply below_alloc | apply pw_below_drewN | apply below_drew1) | exact HB.out)))); have n3_ := Aside0.mk (Kd.C_below (by repeat (first | (with_reducible exact HR226.out) | (with_reducible refine Kd.C_alloc ?_ _) | (with_reducible refine Kd.C_drewN ?_ _) | (with_reducible refine Kd.C_drew ?_) | exact HR226.out)) hb); have n4_ := Aside0.mk (Kd.C_below (by repeat (first | (with_reducible exact HR232.out) | (with_reducible refine Kd.C_alloc ?_ _) | (with_reducible refine Kd.C_drewN ?_ _) | (with_reducible refine Kd.C_drew ?_) | exact HR232.out)) hb); have n5_ := Aside0.mk (below_step (by repeat (first | (with_reducible first | exact HB.out | apply below_alloc | apply pw_below_drewN | apply below_drew1) | exact HB.out)) hb); clear HO_0; clear HO238; clear HR226; clear HR232; clear HB; have HO_0 := n0_; have HO238 := n1_; have HO242 := n2_; have HR226 := n3_; have HR232 := n4_; have HB := n5_; clear n0_ n1_ n2_ n3_ n4_ n5_; (try clear hb); (try clear hb2); (try clear hk); (try clear hi); (try clear ho0)) | ((with_reducible refine gate_dst (N := 77) rfl ?_); (try (refine gate_guard (by rfl) ?_; dsimp only)); refine Kd.R_lit k39 _ 39 ?hg (N := 77) ?hd (xs := ([] : List (S39))) (inner := []) (ok := fun _ => True) (okp := fun _ => True) ?hr ?hp (fun _ hk => hk) trivial (Below.refl _ _) (Nat.le_refl _) (by simp) ?_; (case hd => rfl); (case hg => rfl); (case hr => first | (go_simp; done) | (go_simp; rfl)); (case hp => exact (Reps.none _ _)); intro v244 w66 ho67 hb hg_ hnew_; clear hg_ hnew_; (first | rw [← Ny243.out] at ho67 | (simp only [Int.reduceToNat] at ho67; rw [← Ny243.out] at ho67)); have n0_ := Aside0.mk (Kd.R_elder' (by (with_reducible repeat (first | apply Kd.R_alloc | apply Kd.R_drewN | apply Kd.R_drew)); exact HO_0.out) (Kd.R_base ho67) hb); have n1_ := Aside0.mk (Kd.R_elder' (by (with_reducible repeat (first | apply Kd.R_alloc | apply Kd.R_drewN | apply Kd.R_drew)); exact HO238.out) (Kd.R_base ho67) hb); have n2_ := Aside0.mk (Kd.R_elder' (by (with_reducible repeat (first | apply Kd.R_alloc | apply Kd.R_drewN | apply Kd.R_drew)); exact HO242.out) (Kd.R_base ho67) hb); have n3_ := Aside0.mk (Kd.R_lower (Kd.R_new' (Kd.R_new' (Kd.R_new' ho67 (Kd.R_lt (by (with_reducible repeat (first | apply Kd.R_alloc | apply Kd.R_drewN | apply Kd.R_drew)); exact HO_0.out))) (Kd.R_lt (by (with_reducible repeat (first | apply Kd.R_alloc | apply Kd.R_drewN | apply Kd.R_drew)); exact HO238.out))) (Kd.R_lt (by (with_reducible repeat (first | apply Kd.R_alloc | apply Kd.R_drewN | apply Kd.R_drew)); exact HO242.out))) (below_size (by repeat (first | (with_reducible first | exact HB.out | apply below_alloc | apply pw_below_drewN | apply below_drew1) | exact HB.out)))); have n4_ := Aside0.mk (Kd.C_below (by repeat (first | (with_reducible exact HR226.out) | (with_reducible refine Kd.C_alloc ?_ _) | (with_reducible refine Kd.C_drewN ?_ _) | (with_reducible refine Kd.C_drew ?_) | exact HR226.out)) hb); have n5_ := Aside0.mk (Kd.C_below (by repeat (first | (with_reducible exact HR232.out) | (with_reducible refine Kd.C_alloc ?_ _) | (with_reducible refine Kd.C_drewN ?_ _) | (with_reducible refine Kd.C_drew ?_) | exact HR232.out)) hb); have n6_ := Aside0.mk (below_step (by repeat (first | (with_reducible first | exact HB.out | apply below_alloc | apply pw_below_drewN | apply below_drew1) | exact HB.out)) hb); clear HO_0; clear HO238; clear HO242; clear HR226; clear HR232; clear HB; have HO_0 := n0_; have HO238 := n1_; have HO242 := n2_; have HO245 := n3_; have HR226 := n4_; have HR232 := n5_; have HB := n6_; clear n0_ n1_ n2_ n3_ n4_ n5_ n6_; clear hb ho67; obtain ⟨Ao69, co69, eo69⟩ := Kd.R_slice HO238.out; subst eo69) | ((with_reducible refine gate_builtin (b := .append) (xs := #[.tmp 77, .tmp 78]) rfl ?_); (try (refine gate_guard (by rfl) ?_; dsimp only)); at_builtin; refine Kd.R_append_rows k39 (w0 := w) w.heap.size rfl (.tmp 77) (.tmp 78) 22 39 (.agg #[(.int .u64 0), (.string ⟨#[]⟩), (.string ⟨#[]⟩), (.bool false)]) 48 rfl Try.underlying22 info39 rfl (by decide) (by omega) v244 y243 t235 _ _ _ (fun k_ => some k_ ≠ (.slice Ao7 t217.length co7 : Value).ownBlock ∧ some k_ ≠ (.slice Ao69 t235.length co69 : Value).ownBlock ∧ some k_ ≠ (v241 : Value).ownBlock) (fun _ => False) rfl rfl ?aO ?aR (fun _ _ h => h) (fun _ h => h.elim) ?aF ?aB ?aS ?aL ?_; (case aR => repeat (first | exact (Kd.R_reads' HO238.out).2.2 | (with_reducible refine Kd.C_alloc ?_ _) | (with_reducible refine Kd.C_drewN ?_ _) | (with_reducible refine Kd.C_drew ?_))); (case aB => exact (by repeat (first | (with_reducible first | exact HB.out | apply below_alloc | apply pw_below_drewN | apply below_drew1) | exact HB.out))); (case aF => exact (fun k_ hk => ⟨Kd.fresh' (Kd.R_lt (by (with_reducible repeat (first | apply Kd.R_alloc | apply Kd.R_drewN | apply Kd.R_drew)); exact HO_0.out)) k_ hk, Kd.fresh' (Kd.R_lt (by (with_reducible repeat (first | apply Kd.R_alloc | apply Kd.R_drewN | apply Kd.R_drew)); exact HO238.out)) k_ hk, Kd.fresh' (Kd.R_lt (by (with_reducible repeat (first | apply Kd.R_alloc | apply Kd.R_drewN | apply Kd.R_drew)); exact HO242.out)) k_ hk⟩)); (case aO => exact (by (with_reducible repeat (first | apply Kd.R_alloc | apply Kd.R_drewN | apply Kd.R_drew)); exact Kd.R_mono HO245.out (fun _ hk => ⟨hk.1.1.2, ⟨hk.1.2, hk.2⟩⟩))); (case aS => exact (below_size (by repeat (first | (with_reducible first | exact HB.out | apply below_alloc | apply pw_below_drewN | apply below_drew1) | exact HB.out)))); (case aL => have := LMc27.out; omega); intro v247 w68 ho hb hg hat; rw [← Ny246.out] at ho; have n0_ := Aside0.mk (Kd.R_after (ok := (fun k_ => some k_ ≠ (.slice Ao69 t235.length co69 : Value).ownBlock ∧ some k_ ≠ (v241 : Value).ownBlock)) (by (with_reducible repeat (first | apply Kd.R_alloc | apply Kd.R_drewN | apply Kd.R_drew)); exact Kd.R_mono HO_0.out (fun _ hk => ⟨⟨hk.1.1.2, hk.1.2⟩, hk.2⟩)) hg hat); have n1_ := Aside0.mk (Kd.R_after (ok := (fun k_ => some k_ ≠ (.slice Ao7 t217.length co7 : Value).ownBlock ∧ some k_ ≠ (v241 : Value).ownBlock)) (by (with_reducible repeat (first | apply Kd.R_alloc | apply Kd.R_drewN | apply Kd.R_drew)); exact Kd.R_mono HO238.out (fun _ hk => ⟨⟨hk.1.1.2, hk.1.2⟩, hk.2⟩)) hg hat); have n2_ := Aside0.mk (Kd.R_after (ok := (fun k_ => some k_ ≠ (.slice Ao7 t217.length co7 : Value).ownBlock ∧ some k_ ≠ (.slice Ao69 t235.length co69 : Value).ownBlock)) (by (with_reducible repeat (first | apply Kd.R_alloc | apply Kd.R_drewN | apply Kd.R_drew)); exact Kd.R_mono HO242.out (fun _ hk => ⟨⟨hk.1.1.2, hk.1.2⟩, hk.2⟩)) hg hat); have n3_ := Aside0.mk (hb); have n4_ := Aside0.mk ((show Kd.C k39 w68 Ao7 y223.length y223 from by rw [Ny223.out]; exact Kd.C_take (m := ((ji14) : Int).toNat) ((Kd.R_reads' (Kd.R_after (ok := (fun k_ => some k_ ≠ (.slice Ao69 t235.length co69 : Value).ownBlock ∧ some k_ ≠ (v241 : Value).ownBlock)) (by (with_reducible repeat (first | apply Kd.R_alloc | apply Kd.R_drewN | apply Kd.R_drew)); exact Kd.R_mono HO_0.out (fun _ hk => ⟨⟨hk.1.1.2, hk.1.2⟩, hk.2⟩)) hg hat)).2.2) KL60.out)); have n5_ := Aside0.mk ((show Kd.C k39 w68 A62 y229.length y229 from by rw [Ny229.out, KA62.out]; exact Kd.C_drop (m := ((ji14) : Int).toNat) (c := co7) ((Kd.R_reads' (Kd.R_after (ok := (fun k_ => some k_ ≠ (.slice Ao69 t235.length co69 : Value).ownBlock ∧ some k_ ≠ (v241 : Value).ownBlock)) (by (with_reducible repeat (first | apply Kd.R_alloc | apply Kd.R_drewN | apply Kd.R_drew)); exact Kd.R_mono HO_0.out (fun _ hk => ⟨⟨hk.1.1.2, hk.1.2⟩, hk.2⟩)) hg hat)).2.2) KL62.out ((Kd.R_reads' (Kd.R_after (ok := (fun k_ => some k_ ≠ (.slice Ao69 t235.length co69 : Value).ownBlock ∧ some k_ ≠ (v241 : Value).ownBlock)) (by (with_reducible repeat (first | apply Kd.R_alloc | apply Kd.R_drewN | apply Kd.R_drew)); exact Kd.R_mono HO_0.out (fun _ hk => ⟨⟨hk.1.1.2, hk.1.2⟩, hk.2⟩)) hg hat)).2.1))); have n6_ := Aside0.mk (ho); clear HO_0; clear HO238; clear HO242; clear HB; clear HR226; clear HR232; clear HO245; have HO_0 := n0_; have HO238 := n1_; have HO242 := n2_; have HB := n3_; have HR226 := n4_; have HR232 := n5_; have HO248 := n6_; clear n0_ n1_ n2_ n3_ n4_ n5_ n6_; clear ho hb hg hat; obtain ⟨Ao71, co71, eo71⟩ := Kd.R_slice HO242.out; subst eo71) | ((with_reducible refine gate_builtin (b := .append) (xs := #[.tmp 79, .tmp 80]) rfl ?_); (try (refine gate_guard (by rfl) ?_; dsimp only)); at_builtin; refine Kd.R_append_rows k39 (w0 := w) w.heap.size rfl (.tmp 79) (.tmp 80) 22 39 (.agg #[(.int .u64 0), (.string ⟨#[]⟩), (.string ⟨#[]⟩), (.bool false)]) 48 rfl Try.underlying22 info39 rfl (by decide) (by omega) v247 y246 t239 _ _ _ (fun k_ => some k_ ≠ (.slice Ao7 t217.length co7 : Value).ownBlock ∧ some k_ ≠ (.slice Ao69 t235.length co69 : Value).ownBlock ∧ some k_ ≠ (.slice Ao71 t239.length co71 : Value).ownBlock) (fun _ => False) rfl rfl ?aO ?aR (fun _ _ h => h) (fun _ h => h.elim) ?aF ?aB ?aS ?aL ?_; (case aR => repeat (first | exact (Kd.R_reads' HO242.out).2.2 | (with_reducible refine Kd.C_alloc ?_ _) | (with_reducible refine Kd.C_drewN ?_ _) | (with_reducible refine Kd.C_drew ?_))); (case aB => exact (by repeat (first | (with_reducible first | exact HB.out | apply below_alloc | apply pw_below_drewN | apply below_drew1) | exact HB.out))); (case aF => exact (fun k_ hk => ⟨Kd.fresh' (Kd.R_lt (by (with_reducible repeat (first | apply Kd.R_alloc | apply Kd.R_drewN | apply Kd.R_drew)); exact HO_0.out)) k_ hk, Kd.fresh' (Kd.R_lt (by (with_reducible repeat (first | apply Kd.R_alloc | apply Kd.R_drewN | apply Kd.R_drew)); exact HO238.out)) k_ hk, Kd.fresh' (Kd.R_lt (by (with_reducible repeat (first | apply Kd.R_alloc | apply Kd.R_drewN | apply Kd.R_drew)); exact HO242.out)) k_ hk⟩)); (case aO => exact (by (with_reducible repeat (first | apply Kd.R_alloc | apply Kd.R_drewN | apply Kd.R_drew)); exact HO248.out)); (case aS => exact (below_size (by repeat (first | (with_reducible first | exact HB.out | apply below_alloc | apply pw_below_drewN | apply below_drew1) | exact HB.out)))); (case aL => have := LMc28.out; omega); intro v250 w70 ho hb hg hat; rw [← Ny249.out] at ho; have n0_ := Aside0.mk (Kd.R_after (ok := (fun k_ => some k_ ≠ (.slice Ao69 t235.length co69 : Value).ownBlock ∧ some k_ ≠ (.slice Ao71 t239.length co71 : Value).ownBlock)) (by (with_reducible repeat (first | apply Kd.R_alloc | apply Kd.R_drewN | apply Kd.R_drew)); exact HO_0.out) hg hat); have n1_ := Aside0.mk (Kd.R_after (ok := (fun k_ => some k_ ≠ (.slice Ao7 t217.length co7 : Value).ownBlock ∧ some k_ ≠ (.slice Ao71 t239.length co71 : Value).ownBlock)) (by (with_reducible repeat (first | apply Kd.R_alloc | apply Kd.R_drewN | apply Kd.R_drew)); exact HO238.out) hg hat); have n2_ := Aside0.mk (Kd.R_after (ok := (fun k_ => some k_ ≠ (.slice Ao7 t217.length co7 : Value).ownBlock ∧ some k_ ≠ (.slice Ao69 t235.length co69 : Value).ownBlock)) (by (with_reducible repeat (first | apply Kd.R_alloc | apply Kd.R_drewN | apply Kd.R_drew)); exact HO242.out) hg hat); have n3_ := Aside0.mk (hb); have n4_ := Aside0.mk ((show Kd.C k39 w70 Ao7 y223.length y223 from by rw [Ny223.out]; exact Kd.C_take (m := ((ji14) : Int).toNat) ((Kd.R_reads' (Kd.R_after (ok := (fun k_ => some k_ ≠ (.slice Ao69 t235.length co69 : Value).ownBlock ∧ some k_ ≠ (.slice Ao71 t239.length co71 : Value).ownBlock)) (by (with_reducible repeat (first | apply Kd.R_alloc | apply Kd.R_drewN | apply Kd.R_drew)); exact HO_0.out) hg hat)).2.2) KL60.out)); have n5_ := Aside0.mk ((show Kd.C k39 w70 A62 y229.length y229 from by rw [Ny229.out, KA62.out]; exact Kd.C_drop (m := ((ji14) : Int).toNat) (c := co7) ((Kd.R_reads' (Kd.R_after (ok := (fun k_ => some k_ ≠ (.slice Ao69 t235.length co69 : Value).ownBlock ∧ some k_ ≠ (.slice Ao71 t239.length co71 : Value).ownBlock)) (by (with_reducible repeat (first | apply Kd.R_alloc | apply Kd.R_drewN | apply Kd.R_drew)); exact HO_0.out) hg hat)).2.2) KL62.out ((Kd.R_reads' (Kd.R_after (ok := (fun k_ => some k_ ≠ (.slice Ao69 t235.length co69 : Value).ownBlock ∧ some k_ ≠ (.slice Ao71 t239.length co71 : Value).ownBlock)) (by (with_reducible repeat (first | apply Kd.R_alloc | apply Kd.R_drewN | apply Kd.R_drew)); exact HO_0.out) hg hat)).2.1))); have n6_ := Aside0.mk (ho); clear HO_0; clear HO238; clear HO242; clear HB; clear HR226; clear HR232; clear HO248; have HO_0 := n0_; have HO238 := n1_; have HO242 := n2_; have HB := n3_; have HR226 := n4_; have HR232 := n5_; have HO251 := n6_; clear n0_ n1_ n2_ n3_ n4_ n5_ n6_; clear ho hb hg hat; obtain ⟨Ao72, co72, eo72⟩ := Kd.R_slice HO251.out; subst eo72) | (go_at_call 15; (with_reducible refine (cellarerref12_Same.calls kj4 _ _ y249 _ _ t217 false _ ?side1 ?side2 ?side3 ?side4 A29.out).mono ?_); (case side1 => repeat (first | exact (Kd.R_reads' HO251.out).2.2 | (with_reducible refine Kd.C_alloc ?_ _) | (with_reducible refine Kd.C_drewN ?_ _) | (with_reducible refine Kd.C_drew ?_))); (case side2 => exact (Kd.R_reads' HO251.out).2.1); (case side3 => repeat (first | exact (Kd.R_reads' HO_0.out).2.2 | (with_reducible refine Kd.C_alloc ?_ _) | (with_reducible refine Kd.C_drewN ?_ _) | (with_reducible refine Kd.C_drew ?_))); (case side4 => exact (Kd.R_reads' HO_0.out).2.1); rintro e w' ⟨rfl, ⟨nd, rfl⟩⟩))
                            go_ret
                            exact ⟨by first | rfl | (simp [errW_none, errW_some] <;> rfl) | (simp only [← hji14]; first | rfl | (simp [errW_none, errW_some] <;> rfl)) | (simp [*, errW_none, errW_some] <;> rfl), by repeat (first | (with_reducible first | exact HB.out | apply below_alloc | apply pw_below_drewN | apply below_drew1) | exact HB.out)⟩
                        · rw [if_neg c28] at H
                          exact absurd H (by simp)
                      · rw [if_neg c27] at H
                        exact absurd H (by simp)
                    · rw [if_neg c26] at H
                      have c26b0 : (t240 == 0) = false := beq_eq_false_iff_ne.mpr c26
                      have c26b1 : (t240 != 0) = true := bne_iff_ne.mpr c26
                      obtain rfl := Option.some.inj H
                      have q73 : ((ji14) : Int) ≤ ((t217.length : Int) : Int) := of_decide_eq_true (by first | (with_reducible assumption) | assumption)
                      obtain ⟨i073, hi073, _, hsz73, _⟩ := info_parts info39
                      have hroom73 : t217.length ≤ co7 := (Kd.R_reads' HO_0.out).2.1
                      have hC73 : Kd.C k39 _ Ao7 t217.length t217 := (Kd.R_reads' HO_0.out).2.2
                      have hcut73 := cut_to (P := Try.prog) 22 39 .i64 Try.underlying22 hi073 Ao7 t217.length co7 (ji14) (of_decide_eq_true (by first | (with_reducible assumption) | assumption)) q73 hroom73
                      have hr73 := Kd.C_take (m := ((ji14) : Int).toNat) hC73 (by omega)
                      have hy73 : y223.length = ((ji14) : Int).toNat := (by rw [Ny223.out, List.length_take]; omega)
                      rw [← Ny223.out] at hr73
                      rw [← hy73] at hcut73
                      have HR226 := Aside0.mk hr73
                      have HC226 := Aside0.mk (show y223.length ≤ co7 from by omega)
                      clear hr73 hC73 hroom73 hi073 hsz73
                      have KY73 := Aside0.mk hy73
                      clear hy73
                      have KL73 := Aside0.mk (show ((ji14) : Int).toNat ≤ t217.length from by omega)
                      replace q73 := eq_true q73
                      go_wp2_with (first | ((with_reducible refine gate_callee (f := 11) rfl ?_); refine goesL_ (some 42) rfl rfl Try.func11 (by kernel_rfl) rfl #[.slice Ao7 y223.length co7] rfl (by (try simp only [List.map_toArray, List.map_cons, List.map_nil]); first | done | rfl | (simp only [List.length_drop, List.length_take]; rfl)) ?_; (with_reducible refine (change_Lay.calls _ _ y223 t227 t228 _ ?side1 ?side2 A17.out).mono ?_); (case side1 => repeat (first | exact (by repeat (first | (with_reducible exact HR226.out) | (with_reducible refine Kd.C_alloc ?_ _) | (with_reducible refine Kd.C_drewN ?_ _) | (with_reducible refine Kd.C_drew ?_) | exact HR226.out)) | (with_reducible refine Kd.C_alloc ?_ _) | (with_reducible refine Kd.C_drewN ?_ _) | (with_reducible refine Kd.C_drew ?_))); (case side2 => exact HC226.out); rintro e w74 ⟨rfl, hb⟩; refine ⟨_, rfl, ?_⟩; have n0_ := Aside0.mk (Kd.R_below (by (with_reducible repeat (first | apply Kd.R_alloc | apply Kd.R_drewN | apply Kd.R_drew)); exact HO_0.out) hb); have n1_ := Aside0.mk (Kd.C_below (by repeat (first | (with_reducible exact HR226.out) | (with_reducible refine Kd.C_alloc ?_ _) | (with_reducible refine Kd.C_drewN ?_ _) | (with_reducible refine Kd.C_drew ?_) | exact HR226.out)) hb); have n2_ := Aside0.mk (below_step (by repeat (first | (with_reducible first | exact HB.out | apply below_alloc | apply pw_below_drewN | apply below_drew1) | exact HB.out)) hb); clear HO_0; clear HR226; clear HB; have HO_0 := n0_; have HR226 := n1_; have HB := n2_; clear n0_ n1_ n2_; (try clear hb); (try clear hb2); (try clear hk); (try clear hi); have q75 : ((ji14) : Int) ≤ ((t217.length : Int) : Int) := of_decide_eq_true (by first | (with_reducible assumption) | assumption); obtain ⟨i075, hi075, _, hsz75, _⟩ := info_parts info39; have hroom75 : t217.length ≤ co7 := (Kd.R_reads' HO_0.out).2.1; have hC75 : Kd.C k39 _ Ao7 t217.length t217 := (Kd.R_reads' HO_0.out).2.2; have q075 : (0 : Int) ≤ ((ji14) : Int) := of_decide_eq_true (by first | (with_reducible assumption) | assumption); have hcut75 := cut_from (P := Try.prog) 22 39 .i64 Try.underlying22 hi075 4 hsz75 Ao7 t217.length co7 (ji14) q075 q75; have hr75 := Kd.C_drop (m := ((ji14) : Int).toNat) (c := co7) hC75 (by omega) hroom75; obtain ⟨A75, hA75⟩ : ∃ A1, A1 = (if co7 = ((ji14) : Int).toNat then Ao7 else (Ao7 : Option Addr).map (·.add (((ji14) : Int).toNat * 4))) := ⟨_, rfl⟩; obtain ⟨c75, hc75⟩ : ∃ c1, c1 = co7 - ((ji14) : Int).toNat := ⟨_, rfl⟩; have hy75 : y229.length = t217.length - ((ji14) : Int).toNat := (by rw [Ny229.out, List.length_drop] <;> omega); rw [show (t217).drop ((ji14) : Int).toNat = y229 from Ny229.out.symm] at hr75; replace hr75 : Kd.C k39 _ A75 y229.length y229 := (by rw [hA75]; exact hr75); rw [← hy75, ← hA75, ← hc75] at hcut75; have HR232 := Aside0.mk hr75; have HC232 := Aside0.mk (show y229.length ≤ c75 from by rw [hy75, hc75]; exact Nat.sub_le_sub_right hroom75 _); clear hr75 hC75 hroom75 hi075 hsz75 hc75; have KY75 := Aside0.mk hy75; have KA75 := Aside0.mk hA75; clear hy75 hA75; have KL75 := Aside0.mk (show ((ji14) : Int).toNat ≤ t217.length from by omega); replace q75 := eq_true q75) | ((with_reducible refine gate_callee (f := 11) rfl ?_); refine goesL_ (some 49) rfl rfl Try.func11 (by kernel_rfl) rfl #[.slice A75 y229.length c75] rfl (by (try simp only [List.map_toArray, List.map_cons, List.map_nil]); first | done | rfl | (simp only [List.length_drop, List.length_take]; rfl)) ?_; (with_reducible refine (change_Lay.calls _ _ y229 t233 t234 _ ?side1 ?side2 A20.out).mono ?_); (case side1 => repeat (first | exact (by repeat (first | (with_reducible exact HR232.out) | (with_reducible refine Kd.C_alloc ?_ _) | (with_reducible refine Kd.C_drewN ?_ _) | (with_reducible refine Kd.C_drew ?_) | exact HR232.out)) | (with_reducible refine Kd.C_alloc ?_ _) | (with_reducible refine Kd.C_drewN ?_ _) | (with_reducible refine Kd.C_drew ?_))); (case side2 => exact HC232.out); rintro e w76 ⟨rfl, hb⟩; refine ⟨_, rfl, ?_⟩; have n0_ := Aside0.mk (Kd.R_below (by (with_reducible repeat (first | apply Kd.R_alloc | apply Kd.R_drewN | apply Kd.R_drew)); exact HO_0.out) hb); have n1_ := Aside0.mk (Kd.C_below (by repeat (first | (with_reducible exact HR226.out) | (with_reducible refine Kd.C_alloc ?_ _) | (with_reducible refine Kd.C_drewN ?_ _) | (with_reducible refine Kd.C_drew ?_) | exact HR226.out)) hb); have n2_ := Aside0.mk (Kd.C_below (by repeat (first | (with_reducible exact HR232.out) | (with_reducible refine Kd.C_alloc ?_ _) | (with_reducible refine Kd.C_drewN ?_ _) | (with_reducible refine Kd.C_drew ?_) | exact HR232.out)) hb); have n3_ := Aside0.mk (below_step (by repeat (first | (with_reducible first | exact HB.out | apply below_alloc | apply pw_below_drewN | apply below_drew1) | exact HB.out)) hb); clear HO_0; clear HR226; clear HR232; clear HB; have HO_0 := n0_; have HR226 := n1_; have HR232 := n2_; have HB := n3_; clear n0_ n1_ n2_ n3_; (try clear hb); (try clear hb2); (try clear hk); (try clear hi)) | ((with_reducible refine gate_callee (f := 13) rfl ?_); refine goesL_ (some 54) rfl rfl Try.func13 (by kernel_rfl) rfl #[.string t227] rfl (by (try simp only [List.map_toArray, List.map_cons, List.map_nil]); first | done | rfl | (simp only [List.length_drop, List.length_take]; rfl)) ?_; (with_reducible refine (change_TakeA.calls t227 t235 t236 _ A21.out).mono ?_); rintro e w77 ⟨v237, rfl, ho0, hb⟩; refine ⟨_, rfl, ?_⟩; have n0_ := Aside0.mk (Kd.R_elder' (by (with_reducible repeat (first | apply Kd.R_alloc | apply Kd.R_drewN | apply Kd.R_drew)); exact HO_0.out) (Kd.R_base ho0) hb); have n1_ := Aside0.mk (Kd.R_lower (Kd.R_new' ho0 (Kd.R_lt (by (with_reducible repeat (first | apply Kd.R_alloc | apply Kd.R_drewN | apply Kd.R_drew)); exact HO_0.out))) (below_size (by repeat (first | (with_reducible first | exact HB.out | apply below_alloc | apply pw_below_drewN | apply below_drew1) | exact HB.out)))); have n2_ := Aside0.mk (Kd.C_below (by repeat (first | (with_reducible exact HR226.out) | (with_reducible refine Kd.C_alloc ?_ _) | (with_reducible refine Kd.C_drewN ?_ _) | (with_reducible refine Kd.C_drew ?_) | exact HR226.out)) hb); have n3_ := Aside0.mk (Kd.C_below (by repeat (first | (with_reducible exact HR232.out) | (with_reducible refine Kd.C_alloc ?_ _) | (with_reducible refine Kd.C_drewN ?_ _) | (with_reducible refine Kd.C_drew ?_) | exact HR232.out)) hb); have n4_ := Aside0.mk (below_step (by repeat (first | (with_reducible first | exact HB.out | apply below_alloc | apply pw_below_drewN | apply below_drew1) | exact HB.out)) hb); clear HO_0; clear HR226; clear HR232; clear HB; have HO_0 := n0_; have HO238 := n1_; have HR226 := n2_; have HR232 := n3_; have HB := n4_; clear n0_ n1_ n2_ n3_ n4_; (try clear hb); (try clear hb2); (try clear hk); (try clear hi); (try clear ho0)) | ((with_reducible refine gate_callee (f := 13) rfl ?_); refine goesL_ (some 59) rfl rfl Try.func13 (by kernel_rfl) rfl #[.string t233] rfl (by (try simp only [List.map_toArray, List.map_cons, List.map_nil]); first | done | rfl | (simp only [List.length_drop, List.length_take]; rfl)) ?_; (with_reducible refine (change_TakeA.calls t233 t239 t240 _ A22.out).mono ?_); rintro e w78 ⟨v241, rfl, ho0, hb⟩; refine ⟨_, rfl, ?_⟩; have n0_ := Aside0.mk (Kd.R_elder' (by (with_reducible repeat (first | apply Kd.R_alloc | apply Kd.R_drewN | apply Kd.R_drew)); exact HO_0.out) (Kd.R_base ho0) hb); have n1_ := Aside0.mk (Kd.R_elder' (by (with_reducible repeat (first | apply Kd.R_alloc | apply Kd.R_drewN | apply Kd.R_drew)); exact HO238.out) (Kd.R_base ho0) hb); have n2_ := Aside0.mk (Kd.R_lower (Kd.R_new' (Kd.R_new' ho0 (Kd.R_lt (by (with_reducible repeat (first | apply Kd.R_alloc | apply Kd.R_drewN | apply Kd.R_drew)); exact HO_0.out))) (Kd.R_lt (by (with_reducible repeat (first | apply Kd.R_alloc | apply Kd.R_drewN | apply Kd.R_drew)); exact HO238.out))) (below_size (by repeat (first | (with_reducible first | exact HB.out | apply below_alloc | apply pw_below_drewN | apply below_drew1) | exact HB.out)))); have n3_ := Aside0.mk (Kd.C_below (by repeat (first | (with_reducible exact HR226.out) | (with_reducible refine Kd.C_alloc ?_ _) | (with_reducible refine Kd.C_drewN ?_ _) | (with_reducible refine Kd.C_drew ?_) | exact HR226.out)) hb); have n4_ := Aside0.mk (Kd.C_below (by repeat (first | (with_reducible exact HR232.out) | (with_reducible refine Kd.C_alloc ?_ _) | (with_reducible refine Kd.C_drewN ?_ _) | (with_reducible refine Kd.C_drew ?_) | exact HR232.out)) hb); have n5_ := Aside0.mk (below_step (by repeat (first | (with_reducible first | exact HB.out | apply below_alloc | apply pw_below_drewN | apply below_drew1) | exact HB.out)) hb); clear HO_0; clear HO238; clear HR226; clear HR232; clear HB; have HO_0 := n0_; have HO238 := n1_; have HO242 := n2_; have HR226 := n3_; have HR232 := n4_; have HB := n5_; clear n0_ n1_ n2_ n3_ n4_ n5_; (try clear hb); (try clear hb2); (try clear hk); (try clear hi); (try clear ho0)))
                      go_ret
                      exact ⟨by first | rfl | (simp [errW_none, errW_some] <;> rfl) | (simp only [← hji14]; first | rfl | (simp [errW_none, errW_some] <;> rfl)) | (simp [*, errW_none, errW_some] <;> rfl), by repeat (first | (with_reducible first | exact HB.out | apply below_alloc | apply pw_below_drewN | apply below_drew1) | exact HB.out)⟩
                  · rw [if_neg c25] at H
                    have c25b0 : (t236 == 0) = false := beq_eq_false_iff_ne.mpr c25
                    have c25b1 : (t236 != 0) = true := bne_iff_ne.mpr c25
                    obtain rfl := Option.some.inj H
                    have q79 : ((ji14) : Int) ≤ ((t217.length : Int) : Int) := of_decide_eq_true (by first | (with_reducible assumption) | assumption)
                    obtain ⟨i079, hi079, _, hsz79, _⟩ := info_parts info39
                    have hroom79 : t217.length ≤ co7 := (Kd.R_reads' HO_0.out).2.1
                    have hC79 : Kd.C k39 _ Ao7 t217.length t217 := (Kd.R_reads' HO_0.out).2.2
                    have hcut79 := cut_to (P := Try.prog) 22 39 .i64 Try.underlying22 hi079 Ao7 t217.length co7 (ji14) (of_decide_eq_true (by first | (with_reducible assumption) | assumption)) q79 hroom79
                    have hr79 := Kd.C_take (m := ((ji14) : Int).toNat) hC79 (by omega)
                    have hy79 : y223.length = ((ji14) : Int).toNat := (by rw [Ny223.out, List.length_take]; omega)
                    rw [← Ny223.out] at hr79
                    rw [← hy79] at hcut79
                    have HR226 := Aside0.mk hr79
                    have HC226 := Aside0.mk (show y223.length ≤ co7 from by omega)
                    clear hr79 hC79 hroom79 hi079 hsz79
                    have KY79 := Aside0.mk hy79
                    clear hy79
                    have KL79 := Aside0.mk (show ((ji14) : Int).toNat ≤ t217.length from by omega)
                    replace q79 := eq_true q79
                    go_wp2_with (first | ((with_reducible refine gate_callee (f := 11) rfl ?_); refine goesL_ (some 42) rfl rfl Try.func11 (by kernel_rfl) rfl #[.slice Ao7 y223.length co7] rfl (by (try simp only [List.map_toArray, List.map_cons, List.map_nil]); first | done | rfl | (simp only [List.length_drop, List.length_take]; rfl)) ?_; (with_reducible refine (change_Lay.calls _ _ y223 t227 t228 _ ?side1 ?side2 A17.out).mono ?_); (case side1 => repeat (first | exact (by repeat (first | (with_reducible exact HR226.out) | (with_reducible refine Kd.C_alloc ?_ _) | (with_reducible refine Kd.C_drewN ?_ _) | (with_reducible refine Kd.C_drew ?_) | exact HR226.out)) | (with_reducible refine Kd.C_alloc ?_ _) | (with_reducible refine Kd.C_drewN ?_ _) | (with_reducible refine Kd.C_drew ?_))); (case side2 => exact HC226.out); rintro e w80 ⟨rfl, hb⟩; refine ⟨_, rfl, ?_⟩; have n0_ := Aside0.mk (Kd.R_below (by (with_reducible repeat (first | apply Kd.R_alloc | apply Kd.R_drewN | apply Kd.R_drew)); exact HO_0.out) hb); have n1_ := Aside0.mk (Kd.C_below (by repeat (first | (with_reducible exact HR226.out) | (with_reducible refine Kd.C_alloc ?_ _) | (with_reducible refine Kd.C_drewN ?_ _) | (with_reducible refine Kd.C_drew ?_) | exact HR226.out)) hb); have n2_ := Aside0.mk (below_step (by repeat (first | (with_reducible first | exact HB.out | apply below_alloc | apply pw_below_drewN | apply below_drew1) | exact HB.out)) hb); clear HO_0; clear HR226; clear HB; have HO_0 := n0_; have HR226 := n1_; have HB := n2_; clear n0_ n1_ n2_; (try clear hb); (try clear hb2); (try clear hk); (try clear hi); have q81 : ((ji14) : Int) ≤ ((t217.length : Int) : Int) := of_decide_eq_true (by first | (with_reducible assumption) | assumption); obtain ⟨i081, hi081, _, hsz81, _⟩ := info_parts info39; have hroom81 : t217.length ≤ co7 := (Kd.R_reads' HO_0.out).2.1; have hC81 : Kd.C k39 _ Ao7 t217.length t217 := (Kd.R_reads' HO_0.out).2.2; have q081 : (0 : Int) ≤ ((ji14) : Int) := of_decide_eq_true (by first | (with_reducible assumption) | assumption); have hcut81 := cut_from (P := Try.prog) 22 39 .i64 Try.underlying22 hi081 4 hsz81 Ao7 t217.length co7 (ji14) q081 q81; have hr81 := Kd.C_drop (m := ((ji14) : Int).toNat) (c := co7) hC81 (by omega) hroom81; obtain ⟨A81, hA81⟩ : ∃ A1, A1 = (if co7 = ((ji14) : Int).toNat then Ao7 else (Ao7 : Option Addr).map (·.add (((ji14) : Int).toNat * 4))) := ⟨_, rfl⟩; obtain ⟨c81, hc81⟩ : ∃ c1, c1 = co7 - ((ji14) : Int).toNat := ⟨_, rfl⟩; have hy81 : y229.length = t217.length - ((ji14) : Int).toNat := (by rw [Ny229.out, List.length_drop] <;> omega); rw [show (t217).drop ((ji14) : Int).toNat = y229 from Ny229.out.symm] at hr81; replace hr81 : Kd.C k39 _ A81 y229.length y229 := (by rw [hA81]; exact hr81); rw [← hy81, ← hA81, ← hc81] at hcut81; have HR232 := Aside0.mk hr81; have HC232 := Aside0.mk (show y229.length ≤ c81 from by rw [hy81, hc81]; exact Nat.sub_le_sub_right hroom81 _); clear hr81 hC81 hroom81 hi081 hsz81 hc81; have KY81 := Aside0.mk hy81; have KA81 := Aside0.mk hA81; clear hy81 hA81; have KL81 := Aside0.mk (show ((ji14) : Int).toNat ≤ t217.length from by omega); replace q81 := eq_true q81) | ((with_reducible refine gate_callee (f := 11) rfl ?_); refine goesL_ (some 49) rfl rfl Try.func11 (by kernel_rfl) rfl #[.slice A81 y229.length c81] rfl (by (try simp only [List.map_toArray, List.map_cons, List.map_nil]); first | done | rfl | (simp only [List.length_drop, List.length_take]; rfl)) ?_; (with_reducible refine (change_Lay.calls _ _ y229 t233 t234 _ ?side1 ?side2 A20.out).mono ?_); (case side1 => repeat (first | exact (by repeat (first | (with_reducible exact HR232.out) | (with_reducible refine Kd.C_alloc ?_ _) | (with_reducible refine Kd.C_drewN ?_ _) | (with_reducible refine Kd.C_drew ?_) | exact HR232.out)) | (with_reducible refine Kd.C_alloc ?_ _) | (with_reducible refine Kd.C_drewN ?_ _) | (with_reducible refine Kd.C_drew ?_))); (case side2 => exact HC232.out); rintro e w82 ⟨rfl, hb⟩; refine ⟨_, rfl, ?_⟩; have n0_ := Aside0.mk (Kd.R_below (by (with_reducible repeat (first | apply Kd.R_alloc | apply Kd.R_drewN | apply Kd.R_drew)); exact HO_0.out) hb); have n1_ := Aside0.mk (Kd.C_below (by repeat (first | (with_reducible exact HR226.out) | (with_reducible refine Kd.C_alloc ?_ _) | (with_reducible refine Kd.C_drewN ?_ _) | (with_reducible refine Kd.C_drew ?_) | exact HR226.out)) hb); have n2_ := Aside0.mk (Kd.C_below (by repeat (first | (with_reducible exact HR232.out) | (with_reducible refine Kd.C_alloc ?_ _) | (with_reducible refine Kd.C_drewN ?_ _) | (with_reducible refine Kd.C_drew ?_) | exact HR232.out)) hb); have n3_ := Aside0.mk (below_step (by repeat (first | (with_reducible first | exact HB.out | apply below_alloc | apply pw_below_drewN | apply below_drew1) | exact HB.out)) hb); clear HO_0; clear HR226; clear HR232; clear HB; have HO_0 := n0_; have HR226 := n1_; have HR232 := n2_; have HB := n3_; clear n0_ n1_ n2_ n3_; (try clear hb); (try clear hb2); (try clear hk); (try clear hi)) | ((with_reducible refine gate_callee (f := 13) rfl ?_); refine goesL_ (some 54) rfl rfl Try.func13 (by kernel_rfl) rfl #[.string t227] rfl (by (try simp only [List.map_toArray, List.map_cons, List.map_nil]); first | done | rfl | (simp only [List.length_drop, List.length_take]; rfl)) ?_; (with_reducible refine (change_TakeA.calls t227 t235 t236 _ A21.out).mono ?_); rintro e w83 ⟨v237, rfl, ho0, hb⟩; refine ⟨_, rfl, ?_⟩; have n0_ := Aside0.mk (Kd.R_elder' (by (with_reducible repeat (first | apply Kd.R_alloc | apply Kd.R_drewN | apply Kd.R_drew)); exact HO_0.out) (Kd.R_base ho0) hb); have n1_ := Aside0.mk (Kd.R_lower (Kd.R_new' ho0 (Kd.R_lt (by (with_reducible repeat (first | apply Kd.R_alloc | apply Kd.R_drewN | apply Kd.R_drew)); exact HO_0.out))) (below_size (by repeat (first | (with_reducible first | exact HB.out | apply below_alloc | apply pw_below_drewN | apply below_drew1) | exact HB.out)))); have n2_ := Aside0.mk (Kd.C_below (by repeat (first | (with_reducible exact HR226.out) | (with_reducible refine Kd.C_alloc ?_ _) | (with_reducible refine Kd.C_drewN ?_ _) | (with_reducible refine Kd.C_drew ?_) | exact HR226.out)) hb); have n3_ := Aside0.mk (Kd.C_below (by repeat (first | (with_reducible exact HR232.out) | (with_reducible refine Kd.C_alloc ?_ _) | (with_reducible refine Kd.C_drewN ?_ _) | (with_reducible refine Kd.C_drew ?_) | exact HR232.out)) hb); have n4_ := Aside0.mk (below_step (by repeat (first | (with_reducible first | exact HB.out | apply below_alloc | apply pw_below_drewN | apply below_drew1) | exact HB.out)) hb); clear HO_0; clear HR226; clear HR232; clear HB; have HO_0 := n0_; have HO238 := n1_; have HR226 := n2_; have HR232 := n3_; have HB := n4_; clear n0_ n1_ n2_ n3_ n4_; (try clear hb); (try clear hb2); (try clear hk); (try clear hi); (try clear ho0)) | ((with_reducible refine gate_callee (f := 13) rfl ?_); refine goesL_ (some 59) rfl rfl Try.func13 (by kernel_rfl) rfl #[.string t233] rfl (by (try simp only [List.map_toArray, List.map_cons, List.map_nil]); first | done | rfl | (simp only [List.length_drop, List.length_take]; rfl)) ?_; (with_reducible refine (change_TakeA.calls t233 t239 t240 _ A22.out).mono ?_); rintro e w84 ⟨v241, rfl, ho0, hb⟩; refine ⟨_, rfl, ?_⟩; have n0_ := Aside0.mk (Kd.R_elder' (by (with_reducible repeat (first | apply Kd.R_alloc | apply Kd.R_drewN | apply Kd.R_drew)); exact HO_0.out) (Kd.R_base ho0) hb); have n1_ := Aside0.mk (Kd.R_elder' (by (with_reducible repeat (first | apply Kd.R_alloc | apply Kd.R_drewN | apply Kd.R_drew)); exact HO238.out) (Kd.R_base ho0) hb); have n2_ := Aside0.mk (Kd.R_lower (Kd.R_new' (Kd.R_new' ho0 (Kd.R_lt (by (with_reducible repeat (first | apply Kd.R_alloc | apply Kd.R_drewN | apply Kd.R_drew)); exact HO_0.out))) (Kd.R_lt (by (with_reducible repeat (first | apply Kd.R_alloc | apply Kd.R_drewN | apply Kd.R_drew)); exact HO238.out))) (below_size (by repeat (first | (with_reducible first | exact HB.out | apply below_alloc | apply pw_below_drewN | apply below_drew1) | exact HB.out)))); have n3_ := Aside0.mk (Kd.C_below (by repeat (first | (with_reducible exact HR226.out) | (with_reducible refine Kd.C_alloc ?_ _) | (with_reducible refine Kd.C_drewN ?_ _) | (with_reducible refine Kd.C_drew ?_) | exact HR226.out)) hb); have n4_ := Aside0.mk (Kd.C_below (by repeat (first | (with_reducible exact HR232.out) | (with_reducible refine Kd.C_alloc ?_ _) | (with_reducible refine Kd.C_drewN ?_ _) | (with_reducible refine Kd.C_drew ?_) | exact HR232.out)) hb); have n5_ := Aside0.mk (below_step (by repeat (first | (with_reducible first | exact HB.out | apply below_alloc | apply pw_below_drewN | apply below_drew1) | exact HB.out)) hb); clear HO_0; clear HO238; clear HR226; clear HR232; clear HB; have HO_0 := n0_; have HO238 := n1_; have HO242 := n2_; have HR226 := n3_; have HR232 := n4_; have HB := n5_; clear n0_ n1_ n2_ n3_ n4_ n5_; (try clear hb); (try clear hb2); (try clear hk); (try clear hi); (try clear ho0)))
                    go_ret
                    exact ⟨by first | rfl | (simp [errW_none, errW_some] <;> rfl) | (simp only [← hji14]; first | rfl | (simp [errW_none, errW_some] <;> rfl)) | (simp [*, errW_none, errW_some] <;> rfl), by repeat (first | (with_reducible first | exact HB.out | apply below_alloc | apply pw_below_drewN | apply below_drew1) | exact HB.out)⟩
                · rw [if_neg c24] at H
                  have c24b0 : (t234 == 0) = false := beq_eq_false_iff_ne.mpr c24
                  have c24b1 : (t234 != 0) = true := bne_iff_ne.mpr c24
                  obtain rfl := Option.some.inj H
                  have q85 : ((ji14) : Int) ≤ ((t217.length : Int) : Int) := of_decide_eq_true (by first | (with_reducible assumption) | assumption)
                  obtain ⟨i085, hi085, _, hsz85, _⟩ := info_parts info39
                  have hroom85 : t217.length ≤ co7 := (Kd.R_reads' HO_0.out).2.1
                  have hC85 : Kd.C k39 _ Ao7 t217.length t217 := (Kd.R_reads' HO_0.out).2.2
                  have hcut85 := cut_to (P := Try.prog) 22 39 .i64 Try.underlying22 hi085 Ao7 t217.length co7 (ji14) (of_decide_eq_true (by first | (with_reducible assumption) | assumption)) q85 hroom85
                  have hr85 := Kd.C_take (m := ((ji14) : Int).toNat) hC85 (by omega)
                  have hy85 : y223.length = ((ji14) : Int).toNat := (by rw [Ny223.out, List.length_take]; omega)
                  rw [← Ny223.out] at hr85
                  rw [← hy85] at hcut85
                  have HR226 := Aside0.mk hr85
                  have HC226 := Aside0.mk (show y223.length ≤ co7 from by omega)
                  clear hr85 hC85 hroom85 hi085 hsz85
                  have KY85 := Aside0.mk hy85
                  clear hy85
                  have KL85 := Aside0.mk (show ((ji14) : Int).toNat ≤ t217.length from by omega)
                  replace q85 := eq_true q85
                  go_wp2_with (first | ((with_reducible refine gate_callee (f := 11) rfl ?_); refine goesL_ (some 42) rfl rfl Try.func11 (by kernel_rfl) rfl #[.slice Ao7 y223.length co7] rfl (by (try simp only [List.map_toArray, List.map_cons, List.map_nil]); first | done | rfl | (simp only [List.length_drop, List.length_take]; rfl)) ?_; (with_reducible refine (change_Lay.calls _ _ y223 t227 t228 _ ?side1 ?side2 A17.out).mono ?_); (case side1 => repeat (first | exact (by repeat (first | (with_reducible exact HR226.out) | (with_reducible refine Kd.C_alloc ?_ _) | (with_reducible refine Kd.C_drewN ?_ _) | (with_reducible refine Kd.C_drew ?_) | exact HR226.out)) | (with_reducible refine Kd.C_alloc ?_ _) | (with_reducible refine Kd.C_drewN ?_ _) | (with_reducible refine Kd.C_drew ?_))); (case side2 => exact HC226.out); rintro e w86 ⟨rfl, hb⟩; refine ⟨_, rfl, ?_⟩; have n0_ := Aside0.mk (Kd.R_below (by (with_reducible repeat (first | apply Kd.R_alloc | apply Kd.R_drewN | apply Kd.R_drew)); exact HO_0.out) hb); have n1_ := Aside0.mk (Kd.C_below (by repeat (first | (with_reducible exact HR226.out) | (with_reducible refine Kd.C_alloc ?_ _) | (with_reducible refine Kd.C_drewN ?_ _) | (with_reducible refine Kd.C_drew ?_) | exact HR226.out)) hb); have n2_ := Aside0.mk (below_step (by repeat (first | (with_reducible first | exact HB.out | apply below_alloc | apply pw_below_drewN | apply below_drew1) | exact HB.out)) hb); clear HO_0; clear HR226; clear HB; have HO_0 := n0_; have HR226 := n1_; have HB := n2_; clear n0_ n1_ n2_; (try clear hb); (try clear hb2); (try clear hk); (try clear hi); have q87 : ((ji14) : Int) ≤ ((t217.length : Int) : Int) := of_decide_eq_true (by first | (with_reducible assumption) | assumption); obtain ⟨i087, hi087, _, hsz87, _⟩ := info_parts info39; have hroom87 : t217.length ≤ co7 := (Kd.R_reads' HO_0.out).2.1; have hC87 : Kd.C k39 _ Ao7 t217.length t217 := (Kd.R_reads' HO_0.out).2.2; have q087 : (0 : Int) ≤ ((ji14) : Int) := of_decide_eq_true (by first | (with_reducible assumption) | assumption); have hcut87 := cut_from (P := Try.prog) 22 39 .i64 Try.underlying22 hi087 4 hsz87 Ao7 t217.length co7 (ji14) q087 q87; have hr87 := Kd.C_drop (m := ((ji14) : Int).toNat) (c := co7) hC87 (by omega) hroom87; obtain ⟨A87, hA87⟩ : ∃ A1, A1 = (if co7 = ((ji14) : Int).toNat then Ao7 else (Ao7 : Option Addr).map (·.add (((ji14) : Int).toNat * 4))) := ⟨_, rfl⟩; obtain ⟨c87, hc87⟩ : ∃ c1, c1 = co7 - ((ji14) : Int).toNat := ⟨_, rfl⟩; have hy87 : y229.length = t217.length - ((ji14) : Int).toNat := (by rw [Ny229.out, List.length_drop] <;> omega); rw [show (t217).drop ((ji14) : Int).toNat = y229 from Ny229.out.symm] at hr87; replace hr87 : Kd.C k39 _ A87 y229.length y229 := (by rw [hA87]; exact hr87); rw [← hy87, ← hA87, ← hc87] at hcut87; have HR232 := Aside0.mk hr87; have HC232 := Aside0.mk (show y229.length ≤ c87 from by rw [hy87, hc87]; exact Nat.sub_le_sub_right hroom87 _); clear hr87 hC87 hroom87 hi087 hsz87 hc87; have KY87 := Aside0.mk hy87; have KA87 := Aside0.mk hA87; clear hy87 hA87; have KL87 := Aside0.mk (show ((ji14) : Int).toNat ≤ t217.length from by omega); replace q87 := eq_true q87) | ((with_reducible refine gate_callee (f := 11) rfl ?_); refine goesL_ (some 49) rfl rfl Try.func11 (by kernel_rfl) rfl #[.slice A87 y229.length c87] rfl (by (try simp only [List.map_toArray, List.map_cons, List.map_nil]); first | done | rfl | (simp only [List.length_drop, List.length_take]; rfl)) ?_; (with_reducible refine (change_Lay.calls _ _ y229 t233 t234 _ ?side1 ?side2 A20.out).mono ?_); (case side1 => repeat (first | exact (by repeat (first | (with_reducible exact HR232.out) | (with_reducible refine Kd.C_alloc ?_ _) | (with_reducible refine Kd.C_drewN ?_ _) | (with_reducible refine Kd.C_drew ?_) | exact HR232.out)) | (with_reducible refine Kd.C_alloc ?_ _) | (with_reducible refine Kd.C_drewN ?_ _) | (with_reducible refine Kd.C_drew ?_))); (case side2 => exact HC232.out); rintro e w88 ⟨rfl, hb⟩; refine ⟨_, rfl, ?_⟩; have n0_ := Aside0.mk (Kd.R_below (by (with_reducible repeat (first | apply Kd.R_alloc | apply Kd.R_drewN | apply Kd.R_drew)); exact HO_0.out) hb); have n1_ := Aside0.mk (Kd.C_below (by repeat (first | (with_reducible exact HR226.out) | (with_reducible refine Kd.C_alloc ?_ _) | (with_reducible refine Kd.C_drewN ?_ _) | (with_reducible refine Kd.C_drew ?_) | exact HR226.out)) hb); have n2_ := Aside0.mk (Kd.C_below (by repeat (first | (with_reducible exact HR232.out) | (with_reducible refine Kd.C_alloc ?_ _) | (with_reducible refine Kd.C_drewN ?_ _) | (with_reducible refine Kd.C_drew ?_) | exact HR232.out)) hb); have n3_ := Aside0.mk (below_step (by repeat (first | (with_reducible first | exact HB.out | apply below_alloc | apply pw_below_drewN | apply below_drew1) | exact HB.out)) hb); clear HO_0; clear HR226; clear HR232; clear HB; have HO_0 := n0_; have HR226 := n1_; have HR232 := n2_; have HB := n3_; clear n0_ n1_ n2_ n3_; (try clear hb); (try clear hb2); (try clear hk); (try clear hi)) | ((with_reducible refine gate_callee (f := 13) rfl ?_); refine goesL_ (some 54) rfl rfl Try.func13 (by kernel_rfl) rfl #[.string t227] rfl (by (try simp only [List.map_toArray, List.map_cons, List.map_nil]); first | done | rfl | (simp only [List.length_drop, List.length_take]; rfl)) ?_; (with_reducible refine (change_TakeA.calls t227 t235 t236 _ A21.out).mono ?_); rintro e w89 ⟨v237, rfl, ho0, hb⟩; refine ⟨_, rfl, ?_⟩; have n0_ := Aside0.mk (Kd.R_elder' (by (with_reducible repeat (first | apply Kd.R_alloc | apply Kd.R_drewN | apply Kd.R_drew)); exact HO_0.out) (Kd.R_base ho0) hb); have n1_ := Aside0.mk (Kd.R_lower (Kd.R_new' ho0 (Kd.R_lt (by (with_reducible repeat (first | apply Kd.R_alloc | apply Kd.R_drewN | apply Kd.R_drew)); exact HO_0.out))) (below_size (by repeat (first | (with_reducible first | exact HB.out | apply below_alloc | apply pw_below_drewN | apply below_drew1) | exact HB.out)))); have n2_ := Aside0.mk (Kd.C_below (by repeat (first | (with_reducible exact HR226.out) | (with_reducible refine Kd.C_alloc ?_ _) | (with_reducible refine Kd.C_drewN ?_ _) | (with_reducible refine Kd.C_drew ?_) | exact HR226.out)) hb); have n3_ := Aside0.mk (Kd.C_below (by repeat (first | (with_reducible exact HR232.out) | (with_reducible refine Kd.C_alloc ?_ _) | (with_reducible refine Kd.C_drewN ?_ _) | (with_reducible refine Kd.C_drew ?_) | exact HR232.out)) hb); have n4_ := Aside0.mk (below_step (by repeat (first | (with_reducible first | exact HB.out | apply below_alloc | apply pw_below_drewN | apply below_drew1) | exact HB.out)) hb); clear HO_0; clear HR226; clear HR232; clear HB; have HO_0 := n0_; have HO238 := n1_; have HR226 := n2_; have HR232 := n3_; have HB := n4_; clear n0_ n1_ n2_ n3_ n4_; (try clear hb); (try clear hb2); (try clear hk); (try clear hi); (try clear ho0)) | ((with_reducible refine gate_callee (f := 13) rfl ?_); refine goesL_ (some 59) rfl rfl Try.func13 (by kernel_rfl) rfl #[.string t233] rfl (by (try simp only [List.map_toArray, List.map_cons, List.map_nil]); first | done | rfl | (simp only [List.length_drop, List.length_take]; rfl)) ?_; (with_reducible refine (change_TakeA.calls t233 t239 t240 _ A22.out).mono ?_); rintro e w90 ⟨v241, rfl, ho0, hb⟩; refine ⟨_, rfl, ?_⟩; have n0_ := Aside0.mk (Kd.R_elder' (by (with_reducible repeat (first | apply Kd.R_alloc | apply Kd.R_drewN | apply Kd.R_drew)); exact HO_0.out) (Kd.R_base ho0) hb); have n1_ := Aside0.mk (Kd.R_elder' (by (with_reducible repeat (first | apply Kd.R_alloc | apply Kd.R_drewN | apply Kd.R_drew)); exact HO238.out) (Kd.R_base ho0) hb); have n2_ := Aside0.mk (Kd.R_lower (Kd.R_new' (Kd.R_new' ho0 (Kd.R_lt (by (with_reducible repeat (first | apply Kd.R_alloc | apply Kd.R_drewN | apply Kd.R_drew)); exact HO_0.out))) (Kd.R_lt (by (with_reducible repeat (first | apply Kd.R_alloc | apply Kd.R_drewN | apply Kd.R_drew)); exact HO238.out))) (below_size (by repeat (first | (with_reducible first | exact HB.out | apply below_alloc | apply pw_below_drewN | apply below_drew1) | exact HB.out)))); have n3_ := Aside0.mk (Kd.C_below (by repeat (first | (with_reducible exact HR226.out) | (with_reducible refine Kd.C_alloc ?_ _) | (with_reducible refine Kd.C_drewN ?_ _) | (with_reducible refine Kd.C_drew ?_) | exact HR226.out)) hb); have n4_ := Aside0.mk (Kd.C_below (by repeat (first | (with_reducible exact HR232.out) | (with_reducible refine Kd.C_alloc ?_ _) | (with_reducible refine Kd.C_drewN ?_ _) | (with_reducible refine Kd.C_drew ?_) | exact HR232.out)) hb); have n5_ := Aside0.mk (below_step (by repeat (first | (with_reducible first | exact HB.out | apply below_alloc | apply pw_below_drewN | apply below_drew1) | exact HB.out)) hb); clear HO_0; clear HO238; clear HR226; clear HR232; clear HB; have HO_0 := n0_; have HO238 := n1_; have HO242 := n2_; have HR226 := n3_; have HR232 := n4_; have HB := n5_; clear n0_ n1_ n2_ n3_ n4_ n5_; (try clear hb); (try clear hb2); (try clear hk); (try clear hi); (try clear ho0)))
                  go_ret
                  exact ⟨by first | rfl | (simp [errW_none, errW_some] <;> rfl) | (simp only [← hji14]; first | rfl | (simp [errW_none, errW_some] <;> rfl)) | (simp [*, errW_none, errW_some] <;> rfl), by repeat (first | (with_reducible first | exact HB.out | apply below_alloc | apply pw_below_drewN | apply below_drew1) | exact HB.out)⟩
              · rw [if_neg c23] at H
                have c23b0 : (t228 == 0) = false := beq_eq_false_iff_ne.mpr c23
                have c23b1 : (t228 != 0) = true := bne_iff_ne.mpr c23
                obtain rfl := Option.some.inj H
                have q91 : ((ji14) : Int) ≤ ((t217.length : Int) : Int) := of_decide_eq_true (by first | (with_reducible assumption) | assumption)
                obtain ⟨i091, hi091, _, hsz91, _⟩ := info_parts info39
                have hroom91 : t217.length ≤ co7 := (Kd.R_reads' HO_0.out).2.1
                have hC91 : Kd.C k39 _ Ao7 t217.length t217 := (Kd.R_reads' HO_0.out).2.2
                have hcut91 := cut_to (P := Try.prog) 22 39 .i64 Try.underlying22 hi091 Ao7 t217.length co7 (ji14) (of_decide_eq_true (by first | (with_reducible assumption) | assumption)) q91 hroom91
                have hr91 := Kd.C_take (m := ((ji14) : Int).toNat) hC91 (by omega)
                have hy91 : y223.length = ((ji14) : Int).toNat := (by rw [Ny223.out, List.length_take]; omega)
                rw [← Ny223.out] at hr91
                rw [← hy91] at hcut91
                have HR226 := Aside0.mk hr91
                have HC226 := Aside0.mk (show y223.length ≤ co7 from by omega)
                clear hr91 hC91 hroom91 hi091 hsz91
                have KY91 := Aside0.mk hy91
                clear hy91
                have KL91 := Aside0.mk (show ((ji14) : Int).toNat ≤ t217.length from by omega)
                replace q91 := eq_true q91
                go_wp2_with (first | ((with_reducible refine gate_callee (f := 11) rfl ?_); refine goesL_ (some 42) rfl rfl Try.func11 (by kernel_rfl) rfl #[.slice Ao7 y223.length co7] rfl (by (try simp only [List.map_toArray, List.map_cons, List.map_nil]); first | done | rfl | (simp only [List.length_drop, List.length_take]; rfl)) ?_; (with_reducible refine (change_Lay.calls _ _ y223 t227 t228 _ ?side1 ?side2 A17.out).mono ?_); (case side1 => repeat (first | exact (by repeat (first | (with_reducible exact HR226.out) | (with_reducible refine Kd.C_alloc ?_ _) | (with_reducible refine Kd.C_drewN ?_ _) | (with_reducible refine Kd.C_drew ?_) | exact HR226.out)) | (with_reducible refine Kd.C_alloc ?_ _) | (with_reducible refine Kd.C_drewN ?_ _) | (with_reducible refine Kd.C_drew ?_))); (case side2 => exact HC226.out); rintro e w92 ⟨rfl, hb⟩; refine ⟨_, rfl, ?_⟩; have n0_ := Aside0.mk (Kd.R_below (by (with_reducible repeat (first | apply Kd.R_alloc | apply Kd.R_drewN | apply Kd.R_drew)); exact HO_0.out) hb); have n1_ := Aside0.mk (Kd.C_below (by repeat (first | (with_reducible exact HR226.out) | (with_reducible refine Kd.C_alloc ?_ _) | (with_reducible refine Kd.C_drewN ?_ _) | (with_reducible refine Kd.C_drew ?_) | exact HR226.out)) hb); have n2_ := Aside0.mk (below_step (by repeat (first | (with_reducible first | exact HB.out | apply below_alloc | apply pw_below_drewN | apply below_drew1) | exact HB.out)) hb); clear HO_0; clear HR226; clear HB; have HO_0 := n0_; have HR226 := n1_; have HB := n2_; clear n0_ n1_ n2_; (try clear hb); (try clear hb2); (try clear hk); (try clear hi); have q93 : ((ji14) : Int) ≤ ((t217.length : Int) : Int) := of_decide_eq_true (by first | (with_reducible assumption) | assumption); obtain ⟨i093, hi093, _, hsz93, _⟩ := info_parts info39; have hroom93 : t217.length ≤ co7 := (Kd.R_reads' HO_0.out).2.1; have hC93 : Kd.C k39 _ Ao7 t217.length t217 := (Kd.R_reads' HO_0.out).2.2; have q093 : (0 : Int) ≤ ((ji14) : Int) := of_decide_eq_true (by first | (with_reducible assumption) | assumption); have hcut93 := cut_from (P := Try.prog) 22 39 .i64 Try.underlying22 hi093 4 hsz93 Ao7 t217.length co7 (ji14) q093 q93; have hr93 := Kd.C_drop (m := ((ji14) : Int).toNat) (c := co7) hC93 (by omega) hroom93; obtain ⟨A93, hA93⟩ : ∃ A1, A1 = (if co7 = ((ji14) : Int).toNat then Ao7 else (Ao7 : Option Addr).map (·.add (((ji14) : Int).toNat * 4))) := ⟨_, rfl⟩; obtain ⟨c93, hc93⟩ : ∃ c1, c1 = co7 - ((ji14) : Int).toNat := ⟨_, rfl⟩; have hy93 : y229.length = t217.length - ((ji14) : Int).toNat := (by rw [Ny229.out, List.length_drop] <;> omega); rw [show (t217).drop ((ji14) : Int).toNat = y229 from Ny229.out.symm] at hr93; replace hr93 : Kd.C k39 _ A93 y229.length y229 := (by rw [hA93]; exact hr93); rw [← hy93, ← hA93, ← hc93] at hcut93; have HR232 := Aside0.mk hr93; have HC232 := Aside0.mk (show y229.length ≤ c93 from by rw [hy93, hc93]; exact Nat.sub_le_sub_right hroom93 _); clear hr93 hC93 hroom93 hi093 hsz93 hc93; have KY93 := Aside0.mk hy93; have KA93 := Aside0.mk hA93; clear hy93 hA93; have KL93 := Aside0.mk (show ((ji14) : Int).toNat ≤ t217.length from by omega); replace q93 := eq_true q93) | ((with_reducible refine gate_callee (f := 11) rfl ?_); refine goesL_ (some 49) rfl rfl Try.func11 (by kernel_rfl) rfl #[.slice A93 y229.length c93] rfl (by (try simp only [List.map_toArray, List.map_cons, List.map_nil]); first | done | rfl | (simp only [List.length_drop, List.length_take]; rfl)) ?_; (with_reducible refine (change_Lay.calls _ _ y229 t233 t234 _ ?side1 ?side2 A20.out).mono ?_); (case side1 => repeat (first | exact (by repeat (first | (with_reducible exact HR232.out) | (with_reducible refine Kd.C_alloc ?_ _) | (with_reducible refine Kd.C_drewN ?_ _) | (with_reducible refine Kd.C_drew ?_) | exact HR232.out)) | (with_reducible refine Kd.C_alloc ?_ _) | (with_reducible refine Kd.C_drewN ?_ _) | (with_reducible refine Kd.C_drew ?_))); (case side2 => exact HC232.out); rintro e w94 ⟨rfl, hb⟩; refine ⟨_, rfl, ?_⟩; have n0_ := Aside0.mk (Kd.R_below (by (with_reducible repeat (first | apply Kd.R_alloc | apply Kd.R_drewN | apply Kd.R_drew)); exact HO_0.out) hb); have n1_ := Aside0.mk (Kd.C_below (by repeat (first | (with_reducible exact HR226.out) | (with_reducible refine Kd.C_alloc ?_ _) | (with_reducible refine Kd.C_drewN ?_ _) | (with_reducible refine Kd.C_drew ?_) | exact HR226.out)) hb); have n2_ := Aside0.mk (Kd.C_below (by repeat (first | (with_reducible exact HR232.out) | (with_reducible refine Kd.C_alloc ?_ _) | (with_reducible refine Kd.C_drewN ?_ _) | (with_reducible refine Kd.C_drew ?_) | exact HR232.out)) hb); have n3_ := Aside0.mk (below_step (by repeat (first | (with_reducible first | exact HB.out | apply below_alloc | apply pw_below_drewN | apply below_drew1) | exact HB.out)) hb); clear HO_0; clear HR226; clear HR232; clear HB; have HO_0 := n0_; have HR226 := n1_; have HR232 := n2_; have HB := n3_; clear n0_ n1_ n2_ n3_; (try clear hb); (try clear hb2); (try clear hk); (try clear hi)) | ((with_reducible refine gate_callee (f := 13) rfl ?_); refine goesL_ (some 54) rfl rfl Try.func13 (by kernel_rfl) rfl #[.string t227] rfl (by (try simp only [List.map_toArray, List.map_cons, List.map_nil]); first | done | rfl | (simp only [List.length_drop, List.length_take]; rfl)) ?_; (with_reducible refine (change_TakeA.calls t227 t235 t236 _ A21.out).mono ?_); rintro e w95 ⟨v237, rfl, ho0, hb⟩; refine ⟨_, rfl, ?_⟩; have n0_ := Aside0.mk (Kd.R_elder' (by (with_reducible repeat (first | apply Kd.R_alloc | apply Kd.R_drewN | apply Kd.R_drew)); exact HO_0.out) (Kd.R_base ho0) hb); have n1_ := Aside0.mk (Kd.R_lower (Kd.R_new' ho0 (Kd.R_lt (by (with_reducible repeat (first | apply Kd.R_alloc | apply Kd.R_drewN | apply Kd.R_drew)); exact HO_0.out))) (below_size (by repeat (first | (with_reducible first | exact HB.out | apply below_alloc | apply pw_below_drewN | apply below_drew1) | exact HB.out)))); have n2_ := Aside0.mk (Kd.C_below (by repeat (first | (with_reducible exact HR226.out) | (with_reducible refine Kd.C_alloc ?_ _) | (with_reducible refine Kd.C_drewN ?_ _) | (with_reducible refine Kd.C_drew ?_) | exact HR226.out)) hb); have n3_ := Aside0.mk (Kd.C_below (by repeat (first | (with_reducible exact HR232.out) | (with_reducible refine Kd.C_alloc ?_ _) | (with_reducible refine Kd.C_drewN ?_ _) | (with_reducible refine Kd.C_drew ?_) | exact HR232.out)) hb); have n4_ := Aside0.mk (below_step (by repeat (first | (with_reducible first | exact HB.out | apply below_alloc | apply pw_below_drewN | apply below_drew1) | exact HB.out)) hb); clear HO_0; clear HR226; clear HR232; clear HB; have HO_0 := n0_; have HO238 := n1_; have HR226 := n2_; have HR232 := n3_; have HB := n4_; clear n0_ n1_ n2_ n3_ n4_; (try clear hb); (try clear hb2); (try clear hk); (try clear hi); (try clear ho0)) | ((with_reducible refine gate_callee (f := 13) rfl ?_); refine goesL_ (some 59) rfl rfl Try.func13 (by kernel_rfl) rfl #[.string t233] rfl (by (try simp only [List.map_toArray, List.map_cons, List.map_nil]); first | done | rfl | (simp only [List.length_drop, List.length_take]; rfl)) ?_; (with_reducible refine (change_TakeA.calls t233 t239 t240 _ A22.out).mono ?_); rintro e w96 ⟨v241, rfl, ho0, hb⟩; refine ⟨_, rfl, ?_⟩; have n0_ := Aside0.mk (Kd.R_elder' (by (with_reducible repeat (first | apply Kd.R_alloc | apply Kd.R_drewN | apply Kd.R_drew)); exact HO_0.out) (Kd.R_base ho0) hb); have n1_ := Aside0.mk (Kd.R_elder' (by (with_reducible repeat (first | apply Kd.R_alloc | apply Kd.R_drewN | apply Kd.R_drew)); exact HO238.out) (Kd.R_base ho0) hb); have n2_ := Aside0.mk (Kd.R_lower (Kd.R_new' (Kd.R_new' ho0 (Kd.R_lt (by (with_reducible repeat (first | apply Kd.R_alloc | apply Kd.R_drewN | apply Kd.R_drew)); exact HO_0.out))) (Kd.R_lt (by (with_reducible repeat (first | apply Kd.R_alloc | apply Kd.R_drewN | apply Kd.R_drew)); exact HO238.out))) (below_size (by repeat (first | (with_reducible first | exact HB.out | apply below_alloc | apply pw_below_drewN | apply below_drew1) | exact HB.out)))); have n3_ := Aside0.mk (Kd.C_below (by repeat (first | (with_reducible exact HR226.out) | (with_reducible refine Kd.C_alloc ?_ _) | (with_reducible refine Kd.C_drewN ?_ _) | (with_reducible refine Kd.C_drew ?_) | exact HR226.out)) hb); have n4_ := Aside0.mk (Kd.C_below (by repeat (first | (with_reducible exact HR232.out) | (with_reducible refine Kd.C_alloc ?_ _) | (with_reducible refine Kd.C_drewN ?_ _) | (with_reducible refine Kd.C_drew ?_) | exact HR232.out)) hb); have n5_ := Aside0.mk (below_step (by repeat (first | (with_reducible first | exact HB.out | apply below_alloc | apply pw_below_drewN | apply below_drew1) | exact HB.out)) hb); clear HO_0; clear HO238; clear HR226; clear HR232; clear HB; have HO_0 := n0_; have HO238 := n1_; have HO242 := n2_; have HR226 := n3_; have HR232 := n4_; have HB := n5_; clear n0_ n1_ n2_ n3_ n4_ n5_; (try clear hb); (try clear hb2); (try clear hk); (try clear hi); (try clear ho0)))
                go_ret
                exact ⟨by first | rfl | (simp [errW_none, errW_some] <;> rfl) | (simp only [← hji14]; first | rfl | (simp [errW_none, errW_some] <;> rfl)) | (simp [*, errW_none, errW_some] <;> rfl), by repeat (first | (with_reducible first | exact HB.out | apply below_alloc | apply pw_below_drewN | apply below_drew1) | exact HB.out)⟩
            · rw [if_neg c16] at H
              exact absurd H (by simp)
          · rw [if_neg c15] at H
            exact absurd H (by simp)

end Go.Proofs.Ytipahpkdddijmaa.Q

-- D6
namespace Go.Proofs.Ytipahpkdddijmaa.Q
open Go.RowKit Go.Proofs.YtipahpkdddijmaaW.PrintWords Go.Proofs.YtipahpkdddijmaaW.PrintLast Go.Proofs.YtipahpkdddijmaaW.PrintMore
set_option linter.unusedVariables false
set_option linter.unusedSimpArgs false

/-! ### ChangeSplits: a record's notes as two records -/
theorem listB_size (ts : List ByteArray) : (listB ts).size = 2 + (ts.flatMap textL).length := by
  rw [← size_list]
  show ((lay2B ts.length).data.toList ++ ts.flatMap textL).length = _
  rw [List.length_append, lay2_len]
theorem textsN_append (a b : List S39) : textsN (a ++ b) = textsN a ++ textsN b := by unfold textsN; rw [List.flatMap_append]
theorem layR_part {l p q : List S39} (e : l = p ++ q) (h : (layR l).2 = 0) (hp : p.length ≠ 0) (hq : q.length ≠ 0) :
    layR p = (listB (textsN p), 0) ∧ layR q = (listB (textsN q), 0) ∧ (listB (textsN p)).size + (listB (textsN q)).size = (layR l).1.size + 2 := by
  obtain ⟨h1, h2, h3, h4⟩ := layR_ok h
  subst e
  rw [List.length_append] at h2
  rw [List.any_append, Bool.or_eq_false_iff] at h3
  have hsz : (listB (textsN p)).size + (listB (textsN q)).size = (listB (textsN (p ++ q))).size + 2 := by
    rw [listB_size, listB_size, listB_size, textsN_append, List.flatMap_append, List.length_append]
    omega
  have hmax : ¬ 12000 < (listB (textsN (p ++ q))).size := by
    intro hx
    unfold layR at h4
    split at h4
    · cases h4
    · first | (cases h4; done) | (rw [if_pos hx] at h4; cases h4)
  have hp2 := listB_size (textsN p)
  have hq2 := listB_size (textsN q)
  refine ⟨?_, ?_, by rw [h4]; exact hsz⟩
  · unfold layR
    rw [if_neg (by rintro (x | x | x); exact hp x; omega; rw [h3.1] at x; cases x), if_neg (by omega)]
  · unfold layR
    rw [if_neg (by rintro (x | x | x); exact hq x; omega; rw [h3.2] at x; cases x), if_neg (by omega)]
/-- ChangeSplits in plain words. -/
theorem splits_plain {l : List S39} (k : Nat) (hw : ∀ n ∈ l, 0 ≤ n.f0 ∧ n.f0 ≤ 18446744073709551615) (h : (layR l).2 = 0) (hk : 0 < k) (hk2 : k < l.length) :
    (layR (l.take k)).2 = 0 ∧ (layR (l.drop k)).2 = 0 ∧ takeR (layR (l.take k)).1 = (l.take k, 0) ∧ takeR (layR (l.drop k)).1 = (l.drop k, 0) ∧ (layR (l.take k)).1.size + (layR (l.drop k)).1.size = (layR l).1.size + 2 := by
  obtain ⟨h1, h2, h3⟩ := layR_part (l := l) (p := l.take k) (q := l.drop k) (List.take_append_drop k l).symm h (by rw [List.length_take]; omega) (by rw [List.length_drop]; omega)
  have e1 : (layR (l.take k)).2 = 0 := by rw [h1]
  have e2 : (layR (l.drop k)).2 = 0 := by rw [h2]
  refine ⟨e1, e2, take_of_lay (fun n hn => hw n (List.mem_of_mem_take hn)) e1, take_of_lay (fun n hn => hw n (List.mem_of_mem_drop hn)) e2, ?_⟩
  rw [h1, h2]
  exact h3
end Go.Proofs.Ytipahpkdddijmaa.Q

-- D2
namespace Go.Proofs.Ytipahpkdddijmaa.Q
open Go.RowKit Go.Proofs.YtipahpkdddijmaaW.PrintWords Go.Proofs.YtipahpkdddijmaaW.PrintLast Go.Proofs.YtipahpkdddijmaaW.PrintMore
set_option linter.unusedVariables false
set_option linter.unusedSimpArgs false

/-! ### plain laws: the greatest stamp -/
def wfN (n : S39) : Prop := 0 ≤ n.f0 ∧ n.f0 ≤ 18446744073709551615
theorem fewN_wf {l : List S39} (h : ∀ n ∈ l, wfN n) : ∀ n ∈ fewN l, wfN n := by
  intro n hn
  obtain ⟨m, hm, rfl⟩ := List.mem_map.1 hn
  exact h m (List.mem_of_mem_take hm)
/-! ### ChangeLast -/
end Go.Proofs.Ytipahpkdddijmaa.Q

-- D7
namespace Go.Proofs.Ytipahpkdddijmaa.Q
open Go.RowKit Go.Proofs.YtipahpkdddijmaaW.PrintWords Go.Proofs.YtipahpkdddijmaaW.PrintLast Go.Proofs.YtipahpkdddijmaaW.PrintMore
set_option linter.unusedVariables false
set_option linter.unusedSimpArgs false

theorem layR_size (l : List S39) : (layR l).1.size ≤ 12000 := by
  unfold layR
  split
  · exact Nat.zero_le _
  · split
    · exact Nat.zero_le _
    · simp only; omega
/-- ChangeSplits answers true. -/
theorem splits_true (K : Nat) (hK : 102 ≤ K) (l0 : List S39) (a1 : Int) (hw : ∀ n ∈ l0, wfN n) (ha : 0 ≤ a1) (ha2 : a1 ≤ 255) : cellarerlaw12_ChangeSplits.f (K + 1) l0 a1 = some true := by
  have hw1 := fewN_wf hw
  have hl := fewN_len l0
  unfold cellarerlaw12_ChangeSplits.f cellarerlaw12_Few.f
  rw [Option.bind_some]
  generalize fewN l0 = l at *
  have hLay : ∀ x, change_Lay.f x = some (layR x) := fun _ => rfl
  have hTake : ∀ x, change_TakeA.f x = some (takeR x) := fun _ => rfl
  rw [hLay, Option.bind_some]
  by_cases he : (layR l).2 = 0
  · rw [if_pos he]
    rw [cellarerlaw12_ChangeSplits.j0]
    by_cases h2 : (l.length : Int) < 2
    · rw [if_pos (decide_eq_true h2)]; rfl
    · rw [if_neg (by rw [decide_eq_true_eq]; exact h2)]
      have e1 : wrap64 ((l.length : Int) - 1) = (l.length : Int) - 1 := by unfold wrap64; omega
      have e2 : wrap64 a1 = a1 := by unfold wrap64; omega
      have hm : Int.tmod a1 ((l.length : Int) - 1) = a1 % ((l.length : Int) - 1) := Int.tmod_eq_emod_of_nonneg ha
      have m0 : 0 ≤ a1 % ((l.length : Int) - 1) := Int.emod_nonneg _ (by omega)
      have m1 : a1 % ((l.length : Int) - 1) < (l.length : Int) - 1 := Int.emod_lt_of_pos _ (by omega)
      have e3 : wrap64 (1 + Int.tmod (wrap64 a1) (wrap64 ((l.length : Int) - 1))) = 1 + a1 % ((l.length : Int) - 1) := by
        rw [e1, e2, hm]; unfold wrap64; omega
      rw [e3, e1]
      obtain ⟨k, hk⟩ : ∃ k : Nat, 1 + a1 % ((l.length : Int) - 1) = k := ⟨(1 + a1 % ((l.length : Int) - 1)).toNat, by omega⟩
      rw [hk]
      rw [if_neg (by omega), if_pos (by omega), if_pos (by omega), Int.toNat_natCast, hLay, hLay, Option.bind_some, Option.bind_some]
      obtain ⟨p1, p2, p3, p4, p5⟩ := splits_plain k (fun n hn => hw1 n hn) he (by omega) (by omega)
      rw [hTake, hTake, Option.bind_some, Option.bind_some, p3, p4, if_pos p1, if_pos p2, if_pos rfl, if_pos rfl, Option.bind_some]
      have s1 := layR_size (l.take k)
      have s2 := layR_size (l.drop k)
      have s3 := layR_size l
      have t1 : (l.take k).length ≤ 101 := by rw [List.length_take]; omega
      have t2 : (l.drop k).length ≤ 101 := by rw [List.length_drop]; omega
      simp only
      rw [if_pos (by simp only [List.length_nil]; omega), Option.bind_some, List.nil_append, if_pos (by omega)]
      rw [List.take_append_drop, same12_self l (by omega) K (by omega), Option.bind_some, if_pos rfl, if_pos (by rw [show ((layR (l.take k)).1.size : Int) + ((layR (l.drop k)).1.size : Int) = ((layR l).1.size : Int) + 2 by omega])]
      rfl
  · rw [if_neg he]
    rw [cellarerlaw12_ChangeSplits.j0]
    rw [if_pos rfl]
    rfl
theorem splits.answers (A0 : Option Addr) (c0 : Nat) (l0 : List S39) (a1 : Int) (w : World) (hr0 : Kd.C k39 w A0 l0.length l0) (hc0 : l0.length ≤ c0) (hw : ∀ n ∈ l0, wfN n) (ha : (Lit.int .u8 a1).wf = true) :
    Calls Try.prog 6 #[.slice A0 l0.length c0, .int .u8 a1] w fun e w' => e = .returned (.bool true) ∧ Below w.heap.size w w' := by
  have h : 0 ≤ a1 ∧ a1 ≤ 255 := by
    have h2 : (decide ((IntKind.u8).min ≤ a1) && decide (a1 ≤ (IntKind.u8).max)) = true := ha
    rw [Bool.and_eq_true, decide_eq_true_eq, decide_eq_true_eq, show (IntKind.u8).min = 0 from rfl, show (IntKind.u8).max = 255 from rfl] at h2
    exact h2
  exact cellarerlaw12_ChangeSplits.calls (102 + 1) A0 c0 l0 a1 true w hr0 hc0 (splits_true 102 (Nat.le_refl _) l0 a1 hw h.1 h.2)
end Go.Proofs.Ytipahpkdddijmaa.Q

-- U2
namespace Go.Proofs.Ytipahpkdddijmaa.Q
open Go.RowKit Go.Proofs.YtipahpkdddijmaaW.PrintWords Go.Proofs.YtipahpkdddijmaaW.PrintLast Go.Proofs.YtipahpkdddijmaaW.PrintMore
set_option linter.unusedVariables false
set_option linter.unusedSimpArgs false

/-! Openings that tell of each cell's own fitness, too. -/
def OpensQ {α : Type} (P : Program) (d : Kd α) (t : TypeId) (Q : α → Prop) : Prop :=
  ∀ (H : Type) (enc : TypeId × Value → H) (W : World) (n : Nat) (cs : List Value) (x : DataW H × List MemPlace), DataW.trod enc P W 0 (fun _ => true) true n t cs = some x → ∃ y : α, d.K W y cs ∧ Q y
set_option maxRecDepth 100000 in
theorem opensQ_C {α : Type} {P : Program} {d : Kd α} {t e : TypeId} (ht : P.underlying t = some (.slice e)) (hs : P.cellsOf e = d.sz) {Q : α → Prop} (he : OpensQ P d e Q) (z : α) (H : Type) (enc : TypeId × Value → H) (W : World) (n : Nat) (cs : List Value) (x : DataW H × List MemPlace)
    (h : DataW.trod enc P W 0 (fun _ => true) true n t cs = some x) : ∃ (l : List α) (A : Option Addr) (c : Nat), cs = [.slice A l.length c] ∧ l.length ≤ c ∧ d.C W A l.length l ∧ ∀ x ∈ l, Q x := by
  rcases DataW.trod_slice ht h with ⟨rfl, _⟩ | ⟨a, len, cap, elems, rest, m, _, rfl, _, _, hl, hm, hlen, hel, _, _⟩
  · exact ⟨[], none, 0, rfl, Nat.le_refl _, ⟨rfl, by simp, fun h0 => by simp at h0⟩, fun x hx => by cases hx⟩
  have each : ∀ i : Nat, ∃ p : α, i < len → Q p ∧ ∃ c : List Value, c.length = d.sz ∧ d.K W p c ∧ ∀ j u, c[j]? = some u → W.cell? (a.add (i * d.sz + j)) = some u := by
    intro i
    by_cases hi : i < len
    · have h1 := hel i hi
      rw [List.getElem?_eq_getElem (by omega), Option.bind_eq_some_iff] at h1
      obtain ⟨c, hc, ht'⟩ := h1
      obtain ⟨y, hy, hq⟩ := he H enc W m c _ ht'
      refine ⟨y, fun _ => ⟨hq, c, d.K_len hy, hy, fun j u hu => ?_⟩⟩
      obtain ⟨_, hcl, hcell⟩ := World.cells?_some hc
      have := hcell j (by have := (List.getElem?_eq_some_iff.1 hu).1; omega)
      rw [hs, add_add] at this
      rw [this, hu]
    · exact ⟨z, fun h => absurd h hi⟩
  obtain ⟨f, hf⟩ := Classical.skolem.1 each
  refine ⟨(List.range len).map f, some a, cap, by simp, by simpa using hl, ⟨by simp, by simp [maxLen] at hm ⊢; omega, fun _ => ⟨a, rfl, fun j p hj => ?_⟩⟩, fun x hx => by
    obtain ⟨j, hj, rfl⟩ := List.mem_map.1 hx
    exact (hf j (List.mem_range.1 hj)).1⟩
  rw [List.getElem?_map] at hj
  have hjl : j < len := by
    rcases Nat.lt_or_ge j len with h | h
    · exact h
    · rw [List.getElem?_eq_none (by simpa using h)] at hj; cases hj
  rw [List.getElem?_range hjl] at hj
  injection hj with hj
  subst hj
  exact (hf j hjl).2
theorem wf_u64 {n : Int} (h : (Lit.int .u64 n).wf = true) : 0 ≤ n ∧ n ≤ 18446744073709551615 := by
  have h2 : (decide ((IntKind.u64).min ≤ n) && decide (n ≤ (IntKind.u64).max)) = true := h
  rw [Bool.and_eq_true, decide_eq_true_eq, decide_eq_true_eq, show (IntKind.u64).min = 0 from rfl, show (IntKind.u64).max = 18446744073709551615 from rfl] at h2
  exact h2
set_option maxRecDepth 100000 in
theorem opensQ39 : OpensQ Try.prog k39 39 wfN := by
  intro H enc W n cs x h
  obtain ⟨y0, y1, m, rfl, hl, t0, t1⟩ := Go.ChangeShapes.trod_struct2 Try.underlying39 h
  rw [cells39] at hl
  match cs, hl with
  | [a, b, c, d], _ =>
    simp only [cells35, cells37, List.drop, List.take] at t0 t1
    obtain ⟨i, e0, _, wi⟩ := DataW.trod_int Try.underlying35 t0
    obtain ⟨y, hy⟩ := opens37 _ _ _ _ _ _ t1
    have e1 := k37_open hy
    injection e0 with e0; injection e1 with e1 e2; injection e2 with e2 e3; injection e3 with e3
    subst e0 e1 e2 e3
    exact ⟨⟨i, y⟩, k39_mk W ⟨i, y⟩, wf_u64 wi⟩
set_option maxRecDepth 100000 in
theorem openQ_row {α : Type} {d : Kd α} {t e : TypeId} (ht : Try.prog.underlying t = some (.slice e)) (hs : Try.prog.cellsOf e = d.sz) {Q : α → Prop} (he : OpensQ Try.prog d e Q) (z : α) {H : Type} {enc : TypeId × Value → H} {W : World} {base : Nat} {v : Value} {x : DataW H} {p : List MemPlace} (hv : Value.okWide Try.prog W .any base t v) (h : DataW.Trod enc Try.prog W 0 (fun _ => true) true t v x p) :
    ∃ (l : List α) (A : Option Addr) (c : Nat), v = .slice A l.length c ∧ l.length ≤ c ∧ d.C W A l.length l ∧ ∀ x ∈ l, Q x := by
  obtain ⟨a, n, c, rfl⟩ := Go.WideShapes.okWide_slice ht hv
  obtain ⟨m, hm⟩ := h
  obtain ⟨l, A, c', e, hle, hC, hQ⟩ := opensQ_C ht hs he z H enc W m _ _ hm
  refine ⟨l, A, c', ?_, hle, hC, hQ⟩
  simpa [Value.cells] using e
set_option maxRecDepth 100000 in
theorem openQ_notes {H : Type} {enc : TypeId × Value → H} {W : World} {base : Nat} {v : Value} {x : DataW H} {p : List MemPlace} (hv : Value.okWide Try.prog W .any base 22 v) (h : DataW.Trod enc Try.prog W 0 (fun _ => true) true 22 v x p) :
    ∃ (l : List S39) (A : Option Addr) (c : Nat), v = .slice A l.length c ∧ l.length ≤ c ∧ Kd.C k39 W A l.length l ∧ ∀ n ∈ l, wfN n := openQ_row Try.underlying22 cells39 opensQ39 z39 hv h
end Go.Proofs.Ytipahpkdddijmaa.Q

-- LawSplits
namespace Go.Proofs.Ytipahpkdddijmaa.changeSplits
open Go.ChangeShapes Go.WideShapes Go.ChangeAt Go.RowKit
open Go.ChangeMaps (open_string shut_string)
set_option linter.unusedVariables false

theorem ownChangeSplits : ownKnob Try.prog.godebug = none := by kernel_rfl
theorem laidOutChangeSplits : laidOutB Try.prog = true := by kernel_rfl
set_option maxRecDepth 100000 in
theorem lifted (os : Os) (started : os.Started) (H : Type) (enc : TypeId × Value → H) :
    ReturnsInHanded {} Try.checked os 6 .any (Rows.changeSplitsSpec.pre6 enc Try.prog Try.f6 Rows.changeSplitsRow.domain false) (Rows.changeSplitsSpec.post enc Try.prog Try.f6 false true false false) := by
  refine returnsInHanded_of_change_sized (C := Try.checked) ownChangeSplits started (by kernel_rfl) Try.func6
    (ChangeSpec.witness6 (enc := enc) (C := Try.checked) false ⟨#[], #[.slice none 0 0, .int .u8 0], []⟩ 8 (by kernel_rfl) (by kernel_rfl) (by kernel_rfl) (by kernel_rfl)) ?_
  intro W base args ds gs before hval0 hW hcnd hsz0 _
  have hval : ∀ (j : Nat) t v, Try.f6.params[j]? = some t → args[j]? = some v → Value.okWide Try.prog W .any base t v := hval0
  have hW' := hW
  obtain ⟨p, q, hA0, hV, rfl, hfz, hnd⟩ := hW
  have hA : DataW.TrodAll enc Try.prog W 0 (fun _ => true) true Try.f6.params.toList args.toList ds p := hA0
  rw [Try.params6] at hA hval
  obtain ⟨v0, vs0, d0, ds0, p0, q0, hargs, rfl, rfl, h0, r0⟩ := trodAll_cons hA
  obtain ⟨v1, vs1, d1, ds1, p1, q1, rfl, rfl, rfl, h1, r1⟩ := trodAll_cons r0
  obtain ⟨rfl, rfl, rfl⟩ := trodAll_nil r1
  obtain rfl : args = #[v0, v1] := by cases args; simp_all
  obtain ⟨rfl, rfl⟩ := trodVars_none hV
  have k0 := h0
  have lt0 : ∀ x ∈ p0, x.block < W.heap.size := by obtain ⟨m, hm⟩ := k0; exact DataW.trod_lt m _ _ _ hm
  obtain ⟨l_0, A_0, c_0, rfl, hl_0, hC_0, hw_0⟩ := Q.openQ_notes (hval 0 22 v0 rfl rfl) h0
  obtain ⟨a_1, rfl, rfl, rfl, w_1⟩ := open_int Try.underlying5 (hval 1 5 v1 rfl rfl) h1
  clear hA0 hval0 hsz0
  refine (Q.splits.answers A_0 c_0 l_0 a_1 W hC_0 hl_0 hw_0 w_1).mono fun e W' ⟨he, bel⟩ => ?_
  subst he
  exact ⟨_, rfl, _, _, _, [], _, [], hW', trodAll_mk1 (shut_bool Try.underlying4 _), (trodAll_cons_mk (Below.trod laidOutChangeSplits (by kernel_rfl) (of_decide_eq_true (by kernel_rfl)) k0 bel lt0) (trodAll_cons_mk (shut_int Try.underlying5 w_1) trodAll_mk0)), rfl, bel.frame _, fun h => by cases h⟩
theorem over : Rows.changeSplitsRow.holds Try.pinned (OpenSpec.ofChange Rows.changeSplitsSpec) :=
  OpenClaim.holds_of_wide 6 Try.f6 rfl rfl rfl rfl rfl rfl rfl ⟨rfl, rfl, rfl, rfl, rfl⟩ rfl rfl rfl rfl rfl (by kernel_rfl) Try.func6 (by kernel_rfl)
    (of_decide_eq_true (by kernel_rfl)) (by unfold Func.isWrapper; first | (rw [if_pos (by decide +kernel)]; kernel_rfl) | (rw [if_neg (by decide +kernel)]; exact ⟨rfl, rfl⟩))
    (fun os started H enc _ => lifted os started H enc)
end Go.Proofs.Ytipahpkdddijmaa.changeSplits
namespace Go.Proofs.Ytipahpkdddijmaa
open Go
/-- The row. -/
theorem changeSplits_holds : Rows.ChangeSplitsSaid := changeSplits.over
#print axioms changeSplits_holds
end Go.Proofs.Ytipahpkdddijmaa
