/- Any record's octets are the document's, or it is refused with its error; they are taken as it was; whatever octets there are are the document's record, or refused: the law ChangeLays answers true, for any notes and any octets; there are no conditions. Part 1 of 2. -/
import Derived.Test.YtipahpkdddijmaaCd2
import Derived.Test.YtipahpkdddijmaaCy0
import Derived.Test.YtipahpkdddijmaaProg
import Derived.Below
import Derived.Deep.Draws
import Derived.Deep.AppendLies
import Derived.Maps.AppendAt
import Derived.OwnWalk
import Derived.Laws.BytesArg
import Derived.Laws.MakeOwn
import Derived.Laws.OwnMore
import Derived.Deep.OwnRows
import Derived.Tactics
import Derived.Lib.ConvBytes
import Derived.Laws.Slices
import Derived.WalkKit
import Derived.KernelRfl
import Derived.RowKit3
import Derived.Deep.LoopGhost
import Derived.Deep.QuietTactic
import Derived.BigQuiet
import Derived.WideLaws
import Derived.Deep.DeepCutAuto
import Derived.Deep.CutBlock
import Derived.Deep.RegionHeld3
import Derived.Laws.Rows
import Derived.Lib.AppendStr
import Derived.ArgAppend
import Derived.Laws.IdiomCopy
import Derived.OrdersHeld
import Derived.Laws.BitsLemmas
import Derived.RowKit
import Derived.Laws.StructEq
import Derived.Maps.OwnSet
import Derived.Maps.RangeWalk
import Derived.Lib.BufferMore
import Derived.Lib.Bytealg
import Derived.Shelf.SlSortCmp.WholeK
import Derived.Shelf.Strings.Builder1
import Derived.Shelf.Small.Bits
import Derived.Shelf.Small.Strs
import Derived.Shelf.Strings.BuilderF
import Derived.Shelf.Strconv.Itoa0
import Derived.Shelf.SlSortCmp.QuietGrown
import Derived.Laws.CopyOwn
import Derived.Lib.Overlaps
import Derived.Deep.RegionLaw
import Derived.Lib.Builder
import Derived.Deep.DeepMust
import Derived.Laws.Bits64b
import Derived.RangeFuncBox
import Derived.RangeFuncLeaves
import Derived.Shelf.Abstract
import Derived.OwnWalkIn
import Derived.TacticsInMore
import Derived.LoopNIn
import Derived.LoopIn
import Derived.RangeFuncNested
import Derived.RangeFuncBound
import Derived.RangeFuncCalls
import Derived.Shelf.RegionOpen
import Derived.ProofKit
import Derived.Deep.Strs
import Derived.Test.YtipahpkdddijmaaRows
import Derived.OpenShut
import Derived.ShutString
import Derived.ChangeOld
import Derived.SizedLaws
-- F0
namespace Go.Proofs.Ytipahpkdddijmaa.Q
open Go.RowKit Go.Proofs.YtipahpkdddijmaaW.PrintWords Go.Proofs.YtipahpkdddijmaaW.PrintLast Go.Proofs.YtipahpkdddijmaaW.PrintMore
set_option linter.unusedVariables false
set_option linter.unusedSimpArgs false

/-! ### wire.read: octets as a number, the least first -/
def leN : List UInt8 → Nat
  | [] => 0
  | b :: r => b.toNat + 256 * leN r
theorem leN_snoc : ∀ (l : List UInt8) (b : UInt8), leN (l ++ [b]) = leN l + 256 ^ l.length * b.toNat
  | [], b => by simp [leN]
  | a :: l, b => by
    rw [List.cons_append, leN, leN, leN_snoc l b, List.length_cons, Nat.pow_succ, Nat.mul_add]
    rw [show 256 ^ l.length * 256 * b.toNat = 256 * (256 ^ l.length * b.toNat) by rw [Nat.mul_comm (256 ^ l.length) 256, Nat.mul_assoc]]
    omega
theorem leN_lt : ∀ l : List UInt8, leN l < 256 ^ l.length
  | [] => by simp [leN]
  | b :: l => by
    have h := leN_lt l
    have hb := b.toNat_lt
    rw [leN, List.length_cons, Nat.pow_succ]
    omega
theorem bt_val (s : ByteArray) (i : Nat) (h : i < s.size) : bt s (i : Int) = ((s.data.toList[i]'(by simpa using h)).toNat : Int) := by
  unfold bt
  rw [Int.toNat_natCast, dif_pos h]
  rfl
theorem read_step (x b i : Nat) (hi : i < 8) (hx : x < 256 ^ i) (hb : b < 256) : Go.bits .or .u64 (x : Int) (shl .u64 (IntKind.u64.wrap (b : Int)) (wrap64 (8 * (i : Int)))) = ((x + 256 ^ i * b : Nat) : Int) := by
  have e1 : IntKind.u64.wrap (b : Int) = b := by rw [IntKind.wrap_u64]; omega
  have e2 : wrap64 (8 * (i : Int)) = ((8 * i : Nat) : Int) := by unfold wrap64; omega
  have hp : 256 ^ i = 2 ^ (8 * i) := by rw [show (256 : Nat) = 2 ^ 8 from rfl, ← Nat.pow_mul]
  have hp8 : 256 ^ i * 256 ≤ 256 ^ 8 := by rw [← Nat.pow_succ]; exact Nat.pow_le_pow_right (by decide) (by omega)
  have hlt : b * 256 ^ i < 256 ^ i * 256 := by rw [Nat.mul_comm]; exact Nat.mul_lt_mul_of_pos_left hb (Nat.pow_pos (by decide))
  have h64 : (256 : Nat) ^ 8 = 18446744073709551616 := by decide
  have e3 : shl .u64 (b : Int) ((8 * i : Nat) : Int) = ((b * 256 ^ i : Nat) : Int) := by
    unfold shl
    rw [Int.toNat_natCast, show IntKind.u64.bits = 64 from rfl, Nat.min_eq_left (by omega), show ((b : Int) * 2 ^ (8 * i)) = ((b * 2 ^ (8 * i) : Nat) : Int) by push_cast; rfl, ← hp, IntKind.wrap_u64]
    omega
  rw [e1, e2, e3, bits_or_u64_nat x (b * 256 ^ i) (by omega) (by omega)]
  have h2 : b * 256 ^ i = 2 ^ (8 * i) * b := by rw [hp, Nat.mul_comm]
  rw [h2, Nat.or_comm, ← Nat.two_pow_add_eq_or_of_lt (by rw [← hp]; exact hx) b, hp]
  congr 1
  omega
theorem read_from (s : ByteArray) (hs : s.size ≤ 8) : ∀ (n i K : Nat), i + n = s.size → wire_read.l0 (K + n + 1) s (leN (s.data.toList.take i) : Int) (s.size : Int) (i : Int) = some (leN s.data.toList : Int)
  | 0, i, K, e => by
    unfold wire_read.l0
    rw [if_neg (by omega), List.take_of_length_le (by rw [Array.length_toList]; show s.size ≤ i; omega)]
  | n + 1, i, K, e => by
    have hi : i < s.size := by omega
    have hil : i < s.data.toList.length := by rw [Array.length_toList]; exact hi
    unfold wire_read.l0
    have e2 : wrap64 (8 * (i : Int)) = ((8 * i : Nat) : Int) := by unfold wrap64; omega
    rw [if_pos (by omega), if_pos (by omega), if_pos (by omega), if_pos (by rw [e2]; omega), bt_val s i hi, read_step _ _ i (by omega) (Nat.lt_of_lt_of_le (leN_lt _) (Nat.pow_le_pow_right (by decide) (by rw [List.length_take]; omega))) (UInt8.toNat_lt _), show wrap64 ((i : Int) + 1) = ((i + 1 : Nat) : Int) by unfold wrap64; omega]
    have h3 : leN (s.data.toList.take i) + 256 ^ i * (s.data.toList[i]'hil).toNat = leN (s.data.toList.take (i + 1)) := by
      rw [List.take_succ_eq_append_getElem hil, leN_snoc, List.length_take, Nat.min_eq_left (by omega)]
    rw [h3]
    exact read_from s hs n (i + 1) K (by omega)
theorem read_f (s : ByteArray) (hs : s.size ≤ 8) (k : Nat) (hk : s.size + 1 ≤ k) : wire_read.f k s = some (leN s.data.toList : Int) := by
  obtain ⟨K, rfl⟩ : ∃ K, k = K + s.size + 1 := ⟨k - (s.size + 1), by omega⟩
  unfold wire_read.f
  have := read_from s hs s.size 0 K (by omega)
  rw [List.take_zero] at this
  exact this
end Go.Proofs.Ytipahpkdddijmaa.Q

-- F1
namespace Go.Proofs.Ytipahpkdddijmaa.Q
open Go.WideMaps Go.RowKit Go.Proofs.YtipahpkdddijmaaW.PrintWords Go.Proofs.YtipahpkdddijmaaW.PrintLast Go.Proofs.YtipahpkdddijmaaW.PrintMore Go.Maps
set_option linter.unusedVariables false
set_option linter.unusedSimpArgs false

/-! ### wire.count, wire.TakeText -/
/-- What a length's two octets say: (length, rest, error). -/
def countW (s : ByteArray) : Int × ByteArray × Int :=
  if s.size < 2 then (0, ⟨#[]⟩, 3) else if 4000 < leN (s.extract 0 2).data.toList then (0, ⟨#[]⟩, 2) else ((leN (s.extract 0 2).data.toList : Int), s.extract 2 s.size, 0)
theorem size_two (s : ByteArray) (h : 2 ≤ s.size) : (s.extract 0 2).size = 2 := by rw [ByteArray.size_extract]; omega
theorem leN_two (s : ByteArray) : leN (s.extract 0 2).data.toList < 65536 := by
  have h := leN_lt (s.extract 0 2).data.toList
  have h2 : (s.extract 0 2).data.toList.length ≤ 2 := by
    rw [Array.length_toList]
    show (s.extract 0 2).size ≤ 2
    rw [ByteArray.size_extract]
    omega
  exact Nat.lt_of_lt_of_le h (Nat.le_trans (Nat.pow_le_pow_right (by decide) h2) (by decide))
theorem count_w (s : ByteArray) (k : Nat) (hk : 9 ≤ k) : wire_count.f k s = some (countW s) := by
  unfold wire_count.f wire_cut.f countW
  by_cases h : s.size < 2
  · rw [if_pos (by omega), if_pos h, Option.bind_some]
    simp only
    rw [read_f ⟨#[]⟩ (by decide) k (by show 0 + 1 ≤ k; omega), Option.bind_some, if_neg (by decide)]
  · rw [if_neg (by omega), if_pos (by omega), if_pos (by omega), if_neg h, Option.bind_some]
    simp only
    have h2 := leN_two s
    have hs := size_two s (by omega)
    have e : wrap64 ((leN (s.extract 0 2).data.toList : Nat) : Int) = (leN (s.extract 0 2).data.toList : Int) := by unfold wrap64; omega
    rw [show ((2 : Int)).toNat = 2 from rfl, read_f _ (by omega) k (by omega), Option.bind_some, if_pos trivial, e]
    by_cases h3 : 4000 < leN (s.extract 0 2).data.toList
    · rw [if_pos (by omega), if_pos h3]
    · rw [if_neg (by omega), if_neg h3]
def cutW (s : ByteArray) (n : Int) : ByteArray × ByteArray × Int := if (s.size : Int) < n then (⟨#[]⟩, ⟨#[]⟩, 3) else (s.extract 0 n.toNat, s.extract n.toNat s.size, 0)
/-- A text taken: (text, rest, error). -/
def takeW (s : ByteArray) : ByteArray × ByteArray × Int :=
  if (countW s).2.2 = 0 then cutW (countW s).2.1 (countW s).1 else (⟨#[]⟩, ⟨#[]⟩, (countW s).2.2)
theorem countW_pos (s : ByteArray) : 0 ≤ (countW s).1 := by
  unfold countW
  split
  · exact Int.le_refl _
  · split
    · exact Int.le_refl _
    · exact Int.natCast_nonneg _
theorem cut_w (s : ByteArray) (n : Int) (h : 0 ≤ n) : wire_cut.f s n = some (cutW s n) := by
  unfold wire_cut.f cutW
  by_cases h1 : (s.size : Int) < n
  · rw [if_pos h1, if_pos h1]
  · rw [if_neg h1, if_neg h1, if_pos h, if_pos (by omega)]
set_option maxHeartbeats 2000000 in
set_option maxRecDepth 100000 in
theorem takeText.walk (s : ByteArray) (w : World) : Calls Try.prog 70 #[.string s] w fun e w' => e = .returned (.tuple #[.string (takeW s).1, .string (takeW s).2.1, .int .i64 (takeW s).2.2]) ∧ Below w.heap.size w w' := by
  have HC1 := fun W => wire_count.calls 9 s (countW s).1 (countW s).2.1 (countW s).2.2 W (count_w s 9 (Nat.le_refl _))
  have HB0 : Hid (Below w.heap.size w w) := Below.refl _ _
  have hp := countW_pos s
  unfold takeW
  generalize countW s = c at *
  obtain ⟨n, r, e⟩ := c
  simp only at hp HC1 ⊢
  have HC2 := fun W => wire_cut.calls r n (cutW r n).1 (cutW r n).2.1 (cutW r n).2.2 W (cut_w r n hp)
  generalize hq : cutW r n = q at *
  obtain ⟨q1, q2, q3⟩ := q
  simp only at HC2
  clear hq hp
  by_cases he : e = 0
  · subst he
    rw [if_pos rfl]
    go_enter Try.func70, Try.ntmps70
    go_wp2_with (first | (go_at_call 68; go_must (refine (HC1 _).mono ?_; rintro e w1 ⟨rfl, hd⟩; have HB1 := keepB HB0 hd.below; clear hd)) | (go_at_call 59; go_must (refine (HC2 _).mono ?_; rintro e w2 ⟨rfl, hd⟩; have HB2 := keepB HB1 hd.below; clear hd)))
    go_ret3
    exact ⟨rfl, HB2.out⟩
  · rw [if_neg he]
    go_enter Try.func70, Try.ntmps70
    go_wp2_with (go_at_call 68; go_must (refine (HC1 _).mono ?_; rintro e w1 ⟨rfl, hd⟩; have HB1 := keepB HB0 hd.below; clear hd))
    go_ret3
    exact ⟨rfl, HB1.out⟩
end Go.Proofs.Ytipahpkdddijmaa.Q

-- F2
namespace Go.Proofs.Ytipahpkdddijmaa.Q
open Go.WideMaps Go.RowKit Go.Proofs.YtipahpkdddijmaaW.PrintWords Go.Proofs.YtipahpkdddijmaaW.PrintLast Go.Proofs.YtipahpkdddijmaaW.PrintMore Go.Maps
set_option linter.unusedVariables false
set_option linter.unusedSimpArgs false

/-! ### the closure of wire.TakeList -/
theorem info_size24 : (Try.prog.info? 24).map (·.size) = some 1 := by kernel_rfl
theorem info_size59 : (Try.prog.info? 59).map (·.size) = some 1 := by kernel_rfl
theorem storeC {t : TypeId} (hsz : (Try.prog.info? t).map (·.size) = some 1) {ops : Array Oper} {rest : List Oper} {o : Oper} {a : Act} {Q : Exit → Act → World → Prop} {W : World} (hN : o.dst = none) (hgd : o.guard = none) (p x : Operand) (ho : o.op = .store t p x) (g : Nat) (c0 v : Value)
    (haddr : a.eval p = .pointer (some ⟨g, 0, none⟩)) (hx : a.eval x = v) (hv : v.cells.toList = [v]) (hv1 : v.oneCell' = true) (hb : W.heap[g]? = some (.cells #[c0] t (0, 0)))
    (h : ∀ w1, w1.heap[g]? = some (.cells #[v] t (0, 0)) → (∀ k, k ≠ g → w1.heap[k]? = W.heap[k]?) → w1.heap.size = W.heap.size → (∀ B, B ≤ g → Below B W w1) → wpList Try.prog ops Q rest a w1) : wpList Try.prog ops Q (o :: rest) a W := by
  refine wpList_plain hgd fun K hK => ?_
  have hrun := run_store_run (P := Try.prog) (w := W) (g := g) (o := 0) (e := t) (cur := #[c0]) t v [v] hb hv hsz (by show 0 + 1 ≤ 1; decide) (by intro u hu; simp at hu; subst hu; exact hv1)
  unfold Oper.wp execOp
  simp only [ho, haddr, hx, Sem.run_bind, Sem.run_pure, Result.andThen_ok, hrun]
  show K (a.put o.dst undef) _
  rw [hN]
  exact hK _ _ (h _ (blk_set hb 0 v) (fun k hk => RowKit.Below.heap_setCell _ _ _ _ hk) (World.size_setCell _ _ _) (fun B hB => (Below.refl B W).setCell (p := ⟨g, 0, none⟩) hB _))
theorem Kd.R_cells {α : Type} {d : Kd α} {e : TypeId} {W : World} {base : Nat} {ok : Nat → Prop} {v : Value} {xs : List α} (h : Kd.R d e W base ok v xs) : v.cells.toList = [v] := by
  obtain ⟨A, c, rfl⟩ := Kd.R_slice h
  rfl
theorem Kd.R_one {α : Type} {d : Kd α} {e : TypeId} {W : World} {base : Nat} {ok : Nat → Prop} {v : Value} {xs : List α} (h : Kd.R d e W base ok v xs) : v.oneCell' = true := by
  obtain ⟨A, c, rfl⟩ := Kd.R_slice h
  rfl
set_option maxHeartbeats 2000000 in
set_option maxRecDepth 100000 in
theorem closure69.walk (gr ge go B : Nat) (rest : ByteArray) (e0 : Int) (v : Value) (out : List ByteArray) (W : World) (h12 : gr < ge) (h23 : ge < go) (h3 : go < B) (hBW : B ≤ W.heap.size)
    (hr : W.heap[gr]? = some (.cells #[.string rest] 9 (0, 0))) (he : W.heap[ge]? = some (.cells #[.int .i64 e0] 24 (0, 0))) (ho : W.heap[go]? = some (.cells #[v] 59 (0, 0))) (hR : Kd.R Kd.string 9 W B (fun k => B ≤ k) v out) (hl : out.length ≤ 100000) :
    Calls Try.prog 69 #[.pointer (some ⟨gr, 0, none⟩), .pointer (some ⟨ge, 0, none⟩), .pointer (some ⟨go, 0, none⟩)] W fun e w' => ∃ v', e = .returned (.tuple #[]) ∧ w'.heap[gr]? = some (.cells #[.string (takeW rest).2.1] 9 (0, 0)) ∧ w'.heap[ge]? = some (.cells #[.int .i64 (takeW rest).2.2] 24 (0, 0)) ∧
      w'.heap[go]? = some (.cells #[v'] 59 (0, 0)) ∧ Kd.R Kd.string 9 w' B (fun k => B ≤ k) v' (if (takeW rest).2.2 = 0 then out ++ [(takeW rest).1] else out) ∧ (∀ B', B' ≤ gr → Below B' W w') := by
  have KR := Lib.hid hr
  have KE := Lib.hid he
  have KO := Lib.hid ho
  have HR := Lib.hid hR
  have HL := Lib.hid hl
  have H12 := Lib.hid h12
  have H23 := Lib.hid h23
  have H3 := Lib.hid h3
  have HBW := Lib.hid hBW
  have x0 := (blk_cell hr 0).trans (rfl : _ = some (Value.string rest))
  clear hr he ho hR hl h12 h23 h3 hBW
  generalize hq : takeW rest = q
  have HQ := Lib.hid hq
  clear hq
  obtain ⟨q1, q2, q3⟩ := q
  simp only
  by_cases hz : q3 = 0
  · subst hz
    rw [if_pos rfl]
    go_enter Try.func69, Try.ntmps69
    go_wp2_with (first | (go_at_call 70; go_must (refine (takeText.walk rest _).mono ?_; rintro e w1 ⟨rfl, hb⟩; have KR1 := Lib.hid (blk_below KR.out hb); have KE1 := Lib.hid (blk_below KE.out hb); have KO1 := Lib.hid (blk_below KO.out hb); have HR1 := Lib.hid (Kd.R_below HR.out hb); have HL1 := Lib.hid hb; have HS1 := Lib.hid (Nat.le_trans HBW.out hb.size); rw [HQ.out]; clear hb)) | ((with_reducible refine gate_ (.store 9 (.tmp 0) (.tmp 8)) rfl ?_); go_must (refine storeC info_size9 rfl rfl (.tmp 0) (.tmp 8) rfl gr _ (.string q2) rfl rfl rfl rfl KR1.out ?_; intro w2 hk ho hz hb; have KR2 := Lib.hid hk; have KE2 := Lib.hid ((ho _ (Nat.ne_of_gt H12.out)).trans KE1.out); have KO2 := Lib.hid ((ho _ (Nat.ne_of_gt (Nat.lt_trans H12.out H23.out))).trans KO1.out); have HR2 := Lib.hid (Kd.R_step HR1.out (fun k hk _ => ho k (by have := H12.out; have := H23.out; have := H3.out; omega))); have HL2 : Hid (∀ B', B' ≤ gr → Below B' W w2) := fun B' hB' => (HL1.out.mono (Nat.le_trans hB' (Nat.le_of_lt (Nat.lt_of_lt_of_le (Nat.lt_trans (Nat.lt_trans H12.out H23.out) H3.out) HBW.out)))).trans (hb B' hB'); have HS2 : Hid (B ≤ w2.heap.size) := (by unfold Hid; rw [hz]; exact HS1.out); clear hk ho hz hb)) | ((with_reducible refine gate_ (.store 24 (.tmp 1) (.tmp 9)) rfl ?_); go_must (refine storeC info_size24 rfl rfl (.tmp 1) (.tmp 9) rfl ge _ (.int .i64 0) rfl rfl rfl rfl KE2.out ?_; intro w3 hk ho hz hb; have KE3 := Lib.hid hk; have KR3 := Lib.hid ((ho _ (Nat.ne_of_lt H12.out)).trans KR2.out); have KO3 := Lib.hid ((ho _ (Nat.ne_of_gt H23.out)).trans KO2.out); have HR3 := Lib.hid (Kd.R_step HR2.out (fun k hk _ => ho k (by have := H23.out; have := H3.out; omega))); have HL3 : Hid (∀ B', B' ≤ gr → Below B' W w3) := fun B' hB' => (HL2.out B' hB').trans (hb B' (Nat.le_trans hB' (Nat.le_of_lt H12.out))); have HS3 : Hid (B ≤ w3.heap.size) := (by unfold Hid; rw [hz]; exact HS2.out); have x1 := (blk_cell KE3.out 0).trans (rfl : _ = some (Value.int .i64 0)); have x2 := (blk_cell KO3.out 0).trans (rfl : _ = some v); clear hk ho hz hb)) | ((with_reducible refine gate_builtin (b := .append) (xs := #[.tmp 12, .tmp 14]) rfl ?_); at_builtin; go_must (refine Kd.R_append Kd.string (w0 := w3) B rfl (.tmp 12) (.tmp 14) 59 9 (.string ⟨#[]⟩) 16 rfl Try.underlying59 info9 rfl (by decide) (by decide) v out q1 [.string q1] (fun k => B ≤ k) (fun _ => False) rfl rfl rfl (fun _ hk => hk.elim) (fun k hk => Nat.le_trans HS3.out hk) HR3.out (Below.refl _ _) HS3.out (by have := HL.out; omega) ?_; intro v4 w4 ho hb hg hat; have HR4 := Lib.hid ho; have KE4 := Lib.hid ((hb.block _ (Nat.lt_trans H23.out H3.out)).trans KE3.out); have KR4 := Lib.hid ((hb.block _ (Nat.lt_trans (Nat.lt_trans H12.out H23.out) H3.out)).trans KR3.out); have KO4 := Lib.hid ((hb.block _ H3.out).trans KO3.out); have HL4 : Hid (∀ B', B' ≤ gr → Below B' W w4) := fun B' hB' => (HL3.out B' hB').trans (hb.mono (Nat.le_trans hB' (Nat.le_of_lt (Nat.lt_trans (Nat.lt_trans H12.out H23.out) H3.out)))); clear ho hb hg hat)) | ((with_reducible refine gate_ (.store 59 (.tmp 2) (.tmp 15)) rfl ?_); go_must (refine storeC info_size59 rfl rfl (.tmp 2) (.tmp 15) rfl go _ v4 rfl rfl (Kd.R_cells HR4.out) (Kd.R_one HR4.out) KO4.out ?_; intro w5 hk ho hz hb; have KO5 := Lib.hid hk; have KR5 := Lib.hid ((ho _ (Nat.ne_of_lt (Nat.lt_trans H12.out H23.out))).trans KR4.out); have KE5 := Lib.hid ((ho _ (Nat.ne_of_lt H23.out)).trans KE4.out); have HR5 := Lib.hid (Kd.R_step HR4.out (fun k hk _ => ho k (by have := H3.out; omega))); have HL5 : Hid (∀ B', B' ≤ gr → Below B' W w5) := fun B' hB' => (HL4.out B' hB').trans (hb B' (Nat.le_trans hB' (Nat.le_of_lt (Nat.lt_trans H12.out H23.out)))); clear hk ho hz hb)))
    go_end0
    first | exact ⟨v4, rfl, KR5.out, KE5.out, KO5.out, HR5.out, HL5.out⟩ | exact ⟨rfl, KR5.out, KE5.out, v4, KO5.out, HR5.out, HL5.out⟩ | exact ⟨rfl, KR5.out, KE5.out, ⟨v4, KO5.out, HR5.out⟩, HL5.out⟩
  · rw [if_neg hz]
    go_enter Try.func69, Try.ntmps69
    go_wp2_with (first | (go_at_call 70; go_must (refine (takeText.walk rest _).mono ?_; rintro e w1 ⟨rfl, hb⟩; have KR1 := Lib.hid (blk_below KR.out hb); have KE1 := Lib.hid (blk_below KE.out hb); have KO1 := Lib.hid (blk_below KO.out hb); have HR1 := Lib.hid (Kd.R_below HR.out hb); have HL1 := Lib.hid hb; have HS1 := Lib.hid (Nat.le_trans HBW.out hb.size); rw [HQ.out]; clear hb)) | ((with_reducible refine gate_ (.store 9 (.tmp 0) (.tmp 8)) rfl ?_); go_must (refine storeC info_size9 rfl rfl (.tmp 0) (.tmp 8) rfl gr _ (.string q2) rfl rfl rfl rfl KR1.out ?_; intro w2 hk ho hz hb; have KR2 := Lib.hid hk; have KE2 := Lib.hid ((ho _ (Nat.ne_of_gt H12.out)).trans KE1.out); have KO2 := Lib.hid ((ho _ (Nat.ne_of_gt (Nat.lt_trans H12.out H23.out))).trans KO1.out); have HR2 := Lib.hid (Kd.R_step HR1.out (fun k hk _ => ho k (by have := H12.out; have := H23.out; have := H3.out; omega))); have HL2 : Hid (∀ B', B' ≤ gr → Below B' W w2) := fun B' hB' => (HL1.out.mono (Nat.le_trans hB' (Nat.le_of_lt (Nat.lt_of_lt_of_le (Nat.lt_trans (Nat.lt_trans H12.out H23.out) H3.out) HBW.out)))).trans (hb B' hB'); have HS2 : Hid (B ≤ w2.heap.size) := (by unfold Hid; rw [hz]; exact HS1.out); clear hk ho hz hb)) | ((with_reducible refine gate_ (.store 24 (.tmp 1) (.tmp 9)) rfl ?_); go_must (refine storeC info_size24 rfl rfl (.tmp 1) (.tmp 9) rfl ge _ (.int .i64 q3) rfl rfl rfl rfl KE2.out ?_; intro w3 hk ho hz hb; have KE3 := Lib.hid hk; have KR3 := Lib.hid ((ho _ (Nat.ne_of_lt H12.out)).trans KR2.out); have KO3 := Lib.hid ((ho _ (Nat.ne_of_gt H23.out)).trans KO2.out); have HR3 := Lib.hid (Kd.R_step HR2.out (fun k hk _ => ho k (by have := H23.out; have := H3.out; omega))); have HL3 : Hid (∀ B', B' ≤ gr → Below B' W w3) := fun B' hB' => (HL2.out B' hB').trans (hb B' (Nat.le_trans hB' (Nat.le_of_lt H12.out))); have HS3 : Hid (B ≤ w3.heap.size) := (by unfold Hid; rw [hz]; exact HS2.out); have x1 := (blk_cell KE3.out 0).trans (rfl : _ = some (Value.int .i64 q3)); have x2 := (blk_cell KO3.out 0).trans (rfl : _ = some v); clear hk ho hz hb)))
    go_end0
    first | exact ⟨v, rfl, KR3.out, KE3.out, KO3.out, HR3.out, HL3.out⟩ | exact ⟨rfl, KR3.out, KE3.out, v, KO3.out, HR3.out, HL3.out⟩ | exact ⟨rfl, KR3.out, KE3.out, ⟨v, KO3.out, HR3.out⟩, HL3.out⟩
end Go.Proofs.Ytipahpkdddijmaa.Q

-- F3
namespace Go.Proofs.Ytipahpkdddijmaa.Q
open Go.WideMaps Go.RowKit Go.Proofs.YtipahpkdddijmaaW.PrintWords Go.Proofs.YtipahpkdddijmaaW.PrintLast Go.Proofs.YtipahpkdddijmaaW.PrintMore Go.Maps
set_option linter.unusedVariables false
set_option linter.unusedSimpArgs false

/-! ### wire.TakeList -/
def takeLoop : Nat → ByteArray → List ByteArray → ByteArray × Int × List ByteArray
  | 0, rest, out => (rest, 0, out)
  | n + 1, rest, out => if (takeW rest).2.2 = 0 then takeLoop n (takeW rest).2.1 (out ++ [(takeW rest).1]) else ((takeW rest).2.1, (takeW rest).2.2, out)
def finT (n : Nat) (rest : ByteArray) (e : Int) (out : List ByteArray) : ByteArray × Int × List ByteArray := if e = 0 then takeLoop n rest out else (rest, e, out)
def outT (r : ByteArray × Int × List ByteArray) : List ByteArray × ByteArray × Int := if r.2.1 = 0 then (r.2.2, r.1, 0) else ([], ⟨#[]⟩, r.2.1)
def takeListW (s : ByteArray) : List ByteArray × ByteArray × Int := outT (finT (countW s).1.toNat (countW s).2.1 (countW s).2.2 [])
theorem countW_le (s : ByteArray) : (countW s).1 ≤ 4000 := by
  unfold countW
  split
  · decide
  · split
    · decide
    · simp only; omega
theorem finT_step (n : Nat) (rest : ByteArray) (out : List ByteArray) : finT (n + 1) rest 0 out = finT n (takeW rest).2.1 (takeW rest).2.2 (if (takeW rest).2.2 = 0 then out ++ [(takeW rest).1] else out) := by
  unfold finT
  rw [if_pos rfl, takeLoop]
  split <;> rfl
set_option maxHeartbeats 2000000 in
set_option maxRecDepth 100000 in
theorem takeList.walk (s : ByteArray) (w : World) : Calls Try.prog 57 #[.string s] w fun e w' => ∃ v, e = .returned (.tuple #[v, .string (takeListW s).2.1, .int .i64 (takeListW s).2.2]) ∧ Kd.R Kd.string 9 w' w.heap.size (fun _ => True) v (takeListW s).1 ∧ Below w.heap.size w w' := by
  have HC1 := fun W => wire_count.calls 9 s (countW s).1 (countW s).2.1 (countW s).2.2 W (count_w s 9 (Nat.le_refl _))
  have HB0 : Hid (Below w.heap.size w w) := Below.refl _ _
  have hp := countW_pos s
  have hl := countW_le s
  unfold takeListW
  generalize countW s = c at *
  obtain ⟨n0, r0, c0⟩ := c
  simp only at hp hl HC1 ⊢
  generalize hF : finT n0.toNat r0 c0 [] = F
  have HF := Lib.hid hF
  have HP := Lib.hid hp
  have HLn := Lib.hid hl
  clear hF hp hl
  go_enter Try.func57, Try.ntmps57
  go_wp2_with (first | (go_at_call 68; go_must (refine (HC1 _).mono ?_; rintro e w1 ⟨rfl, hd⟩; have HB1 := keepB HB0 hd.below; clear hd)) | ((with_reducible refine gate_dst (N := 6) rfl ?_); go_must (refine box_event ?hg (N := 6) ?hd (cs := #[.string (⟨#[]⟩ : ByteArray)]) (t := 9) ?hr ?_; (case hd => rfl); (case hg => rfl); (case hr => first | (go_simp; done) | (go_simp; rfl)); intro g6 e6 w2 hk hb; have K6 := Lib.hid hk; have HB2 := keepB HB1 hb; have G6 : Hid (w.heap.size ≤ g6) := (by unfold Hid; rw [e6]; exact HB1.out.size); clear e6 hk hb)) | ((with_reducible refine gate_dst (N := 7) rfl ?_); go_must (refine box_event ?hg (N := 7) ?hd (cs := #[.int .i64 0]) (t := 24) ?hr ?_; (case hd => rfl); (case hg => rfl); (case hr => first | (go_simp; done) | (go_simp; rfl)); intro g7 e7 w3 hk hb; have K7 := Lib.hid hk; have K6b := Lib.hid (blk_below K6.out hb); have G67 : Hid (g6 < g7) := (by unfold Hid; rw [e7]; exact blk_lt K6.out); have HB3 := keepB HB2 hb; clear e7 hk hb)) | ((with_reducible refine gate_ (.store 9 (.tmp 6) (.tmp 14)) rfl ?_); go_must (refine storeC info_size9 rfl rfl (.tmp 6) (.tmp 14) rfl g6 _ (.string r0) rfl rfl rfl rfl K6b.out ?_; intro w4 hk ho hz hb; have K6c := Lib.hid hk; have K7c := Lib.hid ((ho _ (Nat.ne_of_gt G67.out)).trans K7.out); have HB4 := Lib.hid (HB3.out.trans (hb _ G6.out)); clear hk ho hz hb)) | ((with_reducible refine gate_ (.store 24 (.tmp 7) (.tmp 15)) rfl ?_); go_must (refine storeC info_size24 rfl rfl (.tmp 7) (.tmp 15) rfl g7 _ (.int .i64 c0) rfl rfl rfl rfl K7c.out ?_; intro w5 hk ho hz hb; have K7d := Lib.hid hk; have K6d := Lib.hid ((ho _ (Nat.ne_of_lt G67.out)).trans K6c.out); have HB5 := Lib.hid (HB4.out.trans (hb _ (Nat.le_of_lt (Nat.lt_of_le_of_lt G6.out G67.out)))); clear hk ho hz hb)) | ((with_reducible refine gate_dst (N := 8) rfl ?_); go_must (refine box_event ?hg (N := 8) ?hd (cs := #[.slice none 0 0]) (t := 59) ?hr ?_; (case hd => rfl); (case hg => rfl); (case hr => first | (go_simp; done) | (go_simp; rfl)); intro g8 e8 w6 hk hb; have K8 := Lib.hid hk; have K6e := Lib.hid (blk_below K6d.out hb); have K7e := Lib.hid (blk_below K7d.out hb); have G78 : Hid (g7 < g8) := (by unfold Hid; rw [e8]; exact blk_lt K7d.out); have HB6 := keepB HB5 hb; have G8 := Lib.hid (blk_lt K8.out); clear e8 hk hb)))
  go_loopw [5] (fun v5 wr => ∃ (n : Nat) (rest : ByteArray) (er : Int) (v : Value) (out : List ByteArray), v5 = .int .i64 n ∧ n + out.length ≤ 4000 ∧ Hid (wr.heap[g6]? = some (.cells #[.string rest] 9 (0, 0))) ∧ Hid (wr.heap[g7]? = some (.cells #[.int .i64 er] 24 (0, 0))) ∧
    Hid (wr.heap[g8]? = some (.cells #[v] 59 (0, 0))) ∧ Hid (Kd.R Kd.string 9 wr w6.heap.size (fun k => w6.heap.size ≤ k) v out) ∧ Hid (Below w.heap.size w wr) ∧ Hid (finT n rest er out = F) ∧ Hid (w6.heap.size ≤ wr.heap.size)) (fun v5 _ => (intOf v5).toNat)
  case atStart => exact ⟨n0.toNat, r0, c0, .slice none 0 0, [], by have := HP.out; simp; omega, by have := HLn.out; have := HP.out; simp; omega, K6e, K7e, K8, Kd.R_nil _ _ _ _ _, HB6, HF, Nat.le_refl _⟩
  case round =>
    obtain ⟨n, rest, er, v, out, rfl, hn, KA, KB, KC, HR, HB, HFN, HSZ⟩ := hrel
    have d1 := (blk_cell KB.out 0).trans (rfl : _ = some (Value.int .i64 er))
    have d0 := (blk_cell KA.out 0).trans (rfl : _ = some (Value.string rest))
    have d2 := (blk_cell KC.out 0).trans (rfl : _ = some v)
    by_cases he : er = 0
    · subst he
      cases n with
      | zero =>
        have HX : Hid ((rest, 0, out) = F) := by have := HFN.out; unfold Hid; unfold finT at this; rw [if_pos rfl] at this; exact this
        have hF := HX.out
        subst hF
        go_wp2
        go_region
        go_wp2
        go_ret3
        rw [show outT (rest, 0, out) = (out, rest, 0) from if_pos rfl]
        first
          | exact ⟨v, rfl, Kd.R_mono (Kd.R_lower (Kd.R_drew HR.out) (Nat.le_trans HB6.out.size (Nat.le_refl _))) (fun _ _ => trivial), below_drew1 HB.out⟩
          | exact ⟨v, rfl, Kd.R_mono (Kd.R_lower HR.out HB6.out.size) (fun _ _ => trivial), HB.out⟩
      | succ n =>
        have HX := Lib.hid (finT_step n rest out)
        have p0 : (0 : Int) < ((n + 1 : Nat) : Int) := by omega
        have hbig : ((n + 1 : Nat) : Int) ≤ 9223372036854775807 := by omega
        go_wp2_with (go_at_call 69; go_must (refine (closure69.walk g6 g7 g8 w6.heap.size rest 0 v out _ G67.out G78.out G8.out HSZ.out KA.out KB.out KC.out HR.out (by omega)).mono ?_; rintro e w7 ⟨v', rfl, ka, kb, kc, hr, hb⟩; have KA7 := Lib.hid ka; have KB7 := Lib.hid kb; have KC7 := Lib.hid kc; have HR7 := Lib.hid hr; have HB7 := Lib.hid (HB.out.trans (hb _ G6.out)); have HS7 := Lib.hid (Nat.le_trans HSZ.out (hb _ G6.out).size); clear ka kb kc hr hb))
        go_roundw
        case rel => exact ⟨n, _, _, v', _, by go_num, by split <;> (first | (rw [List.length_append, List.length_singleton]; omega) | omega), KA7, KB7, KC7, HR7, HB7, by unfold Hid; rw [← HX.out]; exact HFN.out, HS7⟩
        case measure => simp [intOf]
    · have HX : Hid ((rest, er, out) = F) := by have := HFN.out; unfold Hid; unfold finT at this; rw [if_neg he] at this; exact this
      have hF := HX.out
      subst hF
      cases n with
      | zero =>
        go_wp2
        go_region
        go_wp2
        go_ret3
        rw [show outT (rest, er, out) = ([], ⟨#[]⟩, er) from if_neg he]
        first
          | exact ⟨_, rfl, Kd.R_nil _ _ _ _ _, below_drew1 HB.out⟩
          | exact ⟨_, rfl, Kd.R_nil _ _ _ _ _, HB.out⟩
      | succ n =>
        have p0 : (0 : Int) < ((n + 1 : Nat) : Int) := by omega
        go_wp2
        go_region
        go_wp2
        go_ret3
        rw [show outT (rest, er, out) = ([], ⟨#[]⟩, er) from if_neg he]
        first
          | exact ⟨_, rfl, Kd.R_nil _ _ _ _ _, below_drew1 HB.out⟩
          | exact ⟨_, rfl, Kd.R_nil _ _ _ _ _, HB.out⟩
end Go.Proofs.Ytipahpkdddijmaa.Q

-- F4
namespace Go.Proofs.Ytipahpkdddijmaa.Q
open Go.WideMaps Go.RowKit Go.Proofs.YtipahpkdddijmaaW.PrintWords Go.Proofs.YtipahpkdddijmaaW.PrintLast Go.Proofs.YtipahpkdddijmaaW.PrintMore Go.Maps
set_option linter.unusedVariables false
set_option linter.unusedSimpArgs false

/-! ### wire.Whole -/
def wholeW (s : ByteArray) : List ByteArray × Int :=
  if (takeListW s).2.2 = 0 then (if (takeListW s).2.1.toList.isEmpty = true then ((takeListW s).1, 0) else ([], 2)) else ([], (takeListW s).2.2)
set_option maxHeartbeats 2000000 in
set_option maxRecDepth 100000 in
theorem whole.walk (s : ByteArray) (w : World) : Calls Try.prog 34 #[.string s] w fun e w' => ∃ v, e = .returned (.tuple #[v, .int .i64 (wholeW s).2]) ∧ Kd.R Kd.string 9 w' w.heap.size (fun _ => True) v (wholeW s).1 ∧ Below w.heap.size w w' := by
  have HC := Lib.hid (takeList.walk s)
  have HB0 : Hid (Below w.heap.size w w) := Below.refl _ _
  unfold wholeW
  generalize takeListW s = t at *
  obtain ⟨l, r, e⟩ := t
  simp only
  by_cases he : e = 0
  · subst he
    rw [if_pos rfl]
    cases hr : r.toList.isEmpty
    · rw [if_neg (by decide)]
      go_enter Try.func34, Try.ntmps34
      go_wp2_with (go_at_call 57; go_must (refine (HC.out _).mono ?_; rintro e w1 ⟨v, rfl, ho, hb⟩; have HO := Lib.hid ho; have HB := Lib.hid hb; clear ho hb))
      go_ret2
      exact ⟨_, rfl, Kd.R_nil _ _ _ _ _, HB.out⟩
    · rw [if_pos rfl]
      go_enter Try.func34, Try.ntmps34
      go_wp2_with (go_at_call 57; go_must (refine (HC.out _).mono ?_; rintro e w1 ⟨v, rfl, ho, hb⟩; have HO := Lib.hid ho; have HB := Lib.hid hb; clear ho hb))
      go_ret2
      exact ⟨_, rfl, HO.out, HB.out⟩
  · rw [if_neg he]
    go_enter Try.func34, Try.ntmps34
    go_wp2_with (go_at_call 57; go_must (refine (HC.out _).mono ?_; rintro e w1 ⟨v, rfl, ho, hb⟩; have HO := Lib.hid ho; have HB := Lib.hid hb; clear ho hb))
    go_ret2
    exact ⟨_, rfl, Kd.R_nil _ _ _ _ _, HB.out⟩
end Go.Proofs.Ytipahpkdddijmaa.Q

-- F5
namespace Go.Proofs.Ytipahpkdddijmaa.Q
open Go.RowKit Go.Proofs.YtipahpkdddijmaaW.PrintWords Go.Proofs.YtipahpkdddijmaaW.PrintLast Go.Proofs.YtipahpkdddijmaaW.PrintMore
set_option linter.unusedVariables false
set_option linter.unusedSimpArgs false

/-! ### what was laid is taken -/
theorem lay2_le (n : Nat) (h : n < 65536) : leN (lay2B n).data.toList = n := by
  unfold lay2B strOfNums
  simp [leN, shr, show IntKind.u64.bits = 64 from rfl]
  omega
theorem dig_of (n d : Nat) (hd : 0 < d) : ((n : Int) / (d : Int) % 256).toNat % 256 = n / d % 256 := by
  rw [show ((n : Int) / (d : Int)) = ((n / d : Nat) : Int) from rfl]
  omega
theorem mod_step (n d : Nat) : n % d + d * (n / d % 256) = n % (d * 256) := (Nat.mod_mul (x := n) (a := d) (b := 256)).symm
theorem num8_le (n : Nat) (h : n < 18446744073709551616) : leN (num8 n).data.toList = n := by
  have e : leN (num8 n).data.toList = n % 256 + 256 * (n / 256 % 256) + 65536 * (n / 65536 % 256) + 16777216 * (n / 16777216 % 256) + 4294967296 * (n / 4294967296 % 256) + 1099511627776 * (n / 1099511627776 % 256) + 281474976710656 * (n / 281474976710656 % 256) + 72057594037927936 * (n / 72057594037927936 % 256) := by
    have d1 : ((n : Int) / 256 % 256).toNat % 256 = n / 256 % 256 := dig_of n 256 (by decide)
    have d2 : ((n : Int) / 65536 % 256).toNat % 256 = n / 65536 % 256 := dig_of n 65536 (by decide)
    have d3 : ((n : Int) / 16777216 % 256).toNat % 256 = n / 16777216 % 256 := dig_of n 16777216 (by decide)
    have d4 : ((n : Int) / 4294967296 % 256).toNat % 256 = n / 4294967296 % 256 := dig_of n 4294967296 (by decide)
    have d5 : ((n : Int) / 1099511627776 % 256).toNat % 256 = n / 1099511627776 % 256 := dig_of n 1099511627776 (by decide)
    have d6 : ((n : Int) / 281474976710656 % 256).toNat % 256 = n / 281474976710656 % 256 := dig_of n 281474976710656 (by decide)
    have d7 : ((n : Int) / 72057594037927936 % 256).toNat % 256 = n / 72057594037927936 % 256 := dig_of n 72057594037927936 (by decide)
    have d0 : ((n : Int) % 256).toNat % 256 = n % 256 := by omega
    unfold num8 strOfNums
    simp [leN, shr, show IntKind.u64.bits = 64 from rfl]
    generalize ((n : Int) % 256).toNat % 256 = x0 at *
    generalize ((n : Int) / 256 % 256).toNat % 256 = x1 at *
    generalize ((n : Int) / 65536 % 256).toNat % 256 = x2 at *
    generalize ((n : Int) / 16777216 % 256).toNat % 256 = x3 at *
    generalize ((n : Int) / 4294967296 % 256).toNat % 256 = x4 at *
    generalize ((n : Int) / 1099511627776 % 256).toNat % 256 = x5 at *
    generalize ((n : Int) / 281474976710656 % 256).toNat % 256 = x6 at *
    generalize ((n : Int) / 72057594037927936 % 256).toNat % 256 = x7 at *
    rw [← d0, ← d1, ← d2, ← d3, ← d4, ← d5, ← d6, ← d7]
    clear d0 d1 d2 d3 d4 d5 d6 d7 h
    omega
  have m1 := mod_step n 256
  have m2 := mod_step n 65536
  have m3 := mod_step n 16777216
  have m4 := mod_step n 4294967296
  have m5 := mod_step n 1099511627776
  have m6 := mod_step n 281474976710656
  have m7 := mod_step n 72057594037927936
  rw [e, m1, m2, m3, m4, m5, m6, m7]
  exact Nat.mod_eq_of_lt h
theorem ext_list (s : ByteArray) (a b : Nat) : (s.extract a b).data.toList = (s.data.toList.take b).drop a := by
  rw [ByteArray.data_extract, Array.toList_extract, List.extract_eq_take_drop, List.drop_take]
theorem lay2_len (n : Int) : (lay2B n).data.toList.length = 2 := by rw [Array.length_toList]; exact lay2B_size n
theorem size_list (s : ByteArray) : s.data.toList.length = s.size := by rw [Array.length_toList]; rfl
theorem count_laid (s r : ByteArray) (n : Nat) (hn : n ≤ 4000) (h : s.data.toList = (lay2B n).data.toList ++ r.data.toList) : countW s = ((n : Int), r, 0) := by
  have hl : s.size = 2 + r.size := by rw [← size_list, h, List.length_append, lay2_len, size_list]
  have h0 : (s.extract 0 2).data.toList = (lay2B n).data.toList := by
    rw [ext_list, h, List.drop_zero, List.take_left' (lay2_len n)]
  have h1 : s.extract 2 s.size = r := by
    apply bytes_inj
    rw [ext_list, List.take_of_length_le (by rw [size_list]; exact Nat.le_refl _), h, List.drop_left' (lay2_len n)]
  unfold countW
  rw [if_neg (by omega), h0, lay2_le n (by omega), if_neg (by omega), h1]
theorem take_laid (s t r : ByteArray) (ht : t.size ≤ 4000) (h : s.data.toList = textL t ++ r.data.toList) : takeW s = (t, r, 0) := by
  have ht2 : textL t = (lay2B t.size).data.toList ++ t.data.toList := by
    unfold textL textB
    rw [ByteArray.data_append, Array.toList_append]
  have hc : countW s = ((t.size : Int), t ++ r, 0) := count_laid s (t ++ r) t.size ht (by rw [h, ht2, ByteArray.data_append, Array.toList_append, List.append_assoc])
  unfold takeW
  rw [hc]
  simp only
  rw [if_pos trivial]
  unfold cutW
  rw [if_neg (by rw [ByteArray.size_append]; omega), Int.toNat_natCast]
  congr 1
  · apply bytes_inj
    rw [ext_list, List.drop_zero, ByteArray.data_append, Array.toList_append, List.take_left' (size_list t)]
  · congr 1
    apply bytes_inj
    rw [ext_list, List.take_of_length_le (by rw [size_list]; exact Nat.le_refl _), ByteArray.data_append, Array.toList_append, List.drop_left' (size_list t)]
theorem loop_laid : ∀ (ts : List ByteArray) (s : ByteArray) (out : List ByteArray), (∀ t ∈ ts, t.size ≤ 4000) → s.data.toList = ts.flatMap textL → takeLoop ts.length s out = (⟨#[]⟩, 0, out ++ ts)
  | [], s, out, _, h => by
    have : s = ⟨#[]⟩ := bytes_inj (by rw [h]; rfl)
    rw [this, List.append_nil]
    rfl
  | t :: ts, s, out, ht, h => by
    rw [List.flatMap_cons] at h
    have hk := take_laid s t ⟨(ts.flatMap textL).toArray⟩ (ht t List.mem_cons_self) (by rw [h])
    rw [List.length_cons, takeLoop, hk]
    simp only
    rw [if_pos trivial, loop_laid ts _ _ (fun x hx => ht x (List.mem_cons_of_mem _ hx)) rfl, List.append_assoc]
    rfl
theorem whole_laid (ts : List ByteArray) (hl : ts.length ≤ 4000) (ht : ∀ t ∈ ts, t.size ≤ 4000) : wholeW (listB ts) = (ts, 0) := by
  have hc : countW (listB ts) = ((ts.length : Int), ⟨(ts.flatMap textL).toArray⟩, 0) := count_laid _ _ _ hl rfl
  have hL : takeListW (listB ts) = (ts, ⟨#[]⟩, 0) := by
    unfold takeListW
    rw [hc]
    simp only
    unfold finT
    rw [if_pos rfl, Int.toNat_natCast, loop_laid ts _ [] ht rfl]
    unfold outT
    rw [if_pos rfl, List.nil_append]
  unfold wholeW
  rw [hL]
  simp only
  rw [if_pos trivial, if_pos (by rw [Lib.toList_data]; rfl)]
end Go.Proofs.Ytipahpkdddijmaa.Q

-- F6
namespace Go.Proofs.Ytipahpkdddijmaa.Q
open Go.RowKit Go.Shelf
set_option linter.unusedVariables false
set_option linter.unusedSimpArgs false
attribute [local go_sem] Oper.semAt_some

/-! ### slices.Chunk at four strings a chunk -/
theorem fin_take_succ {m k : Nat} (h : k < m) : (List.finRange m).take (k + 1) = (List.finRange m).take k ++ [⟨k, h⟩] := by
  rw [List.take_succ_eq_append_getElem (by simpa using h)]
  simp
set_option maxRecDepth 100000 in
set_option maxHeartbeats 2000000 in
theorem chunk_in (F : Fence) (n : Nat) (h5 : F.fn 35) (hro : F.round = none) (a : Option Addr) (len cap : Nat) (w : World) :
    CallsIn F n Try.prog 35 #[.slice a len cap, .int .i64 4] w fun e w' => e = .returned (.func (.func 58) #[] #[.pointer (some ⟨w.heap.size, 0, none⟩), .pointer (some ⟨w.heap.size + 1, 0, none⟩)]) ∧ w' = (w.alloc (.cells #[.slice a len cap] 59)).alloc (.cells #[.int .i64 4] 3) := by
  refine callsIn_of_wp Try.func35 rfl h5 ?_ hro
  simp only [Try.ntmps35, List.size_toArray, List.length_cons, List.length_nil, Nat.reduceAdd, Nat.reduceSub, Array.replicate_succ, Array.replicate_zero, List.push_toArray, List.append_toArray, List.nil_append, List.cons_append]
  gi_wp2
  go_ret
  exact ⟨rfl, rfl⟩
set_option maxRecDepth 100000 in
set_option maxHeartbeats 2000000 in
theorem chunk1_in (F : Fence) (n : Nat) (h7 : F.fn 58) (hro : F.round = none) (hn : 1 ≤ n) (l Bs Bn b m cap : Nat) (hreach : 4 * m ≤ 100000) (hcap : 4 * m ≤ cap) (hcap2 : cap ≤ 9223372036854775807) (Kp : World → World → Prop) (hK0 : ∀ W, Kp W W) (hKd : ∀ W, Kp W W.drew) (hKt : ∀ {A B C : World}, Kp A B → Kp B C → Kp A C) (hKs : ∀ {A B : World}, Kp A B → B.cell? ⟨Bs, 0, none⟩ = A.cell? ⟨Bs, 0, none⟩ ∧ B.cell? ⟨Bn, 0, none⟩ = A.cell? ⟨Bn, 0, none⟩) (J Jx : List (Fin m) → World → Prop) (hJd : ∀ s W, J s W → J s W.drew)
    (hY : ∀ pre x W, J pre W → pre.length < m → YieldAt F (n - 1) Try.prog l #[.slice (some ⟨b, 4 * x.1, none⟩) 4 4] W fun e W' =>
      (e = .returned (.bool true) ∧ J (pre ++ [x]) W' ∧ Kp W W') ∨ (e = .returned (.bool false) ∧ Jx (pre ++ [x]) W'))
    (W : World) (hBs : W.cell? ⟨Bs, 0, none⟩ = some (.slice (some ⟨b, 0, none⟩) (4 * m) cap)) (hBn : W.cell? ⟨Bn, 0, none⟩ = some (.int .i64 4)) (h0 : J [] W) :
    CallsIn F n Try.prog 58 #[.func (.yield l) #[] #[], .pointer (some ⟨Bs, 0, none⟩), .pointer (some ⟨Bn, 0, none⟩)] W fun e W' => (∃ v, e = .returned v) ∧
      (J (List.finRange m) W' ∨ (∃ pre, (∃ k, k ≤ m ∧ pre = (List.finRange m).take k) ∧ Jx pre W')) := by
  refine callsIn_of_wp Try.func58 rfl h7 ?_ hro
  simp only [Try.ntmps58, List.size_toArray, List.length_cons, List.length_nil, Nat.reduceAdd, Nat.reduceSub, Array.replicate_succ, Array.replicate_zero, List.push_toArray, List.append_toArray, List.nil_append, List.cons_append]
  gi_wp2
  gi_loopw [4] (fun i wr => ∃ k : Nat, k ≤ m ∧ i = .int .i64 ((4 * k : Nat) : Int) ∧ J ((List.finRange m).take k) wr ∧ Kp W wr)
    (fun i _ => 4 * m - (intOf i).toNat)
  case atStart => exact ⟨0, Nat.zero_le _, rfl, h0, hK0 _⟩
  case round =>
    obtain ⟨k, hk, rfl, hJs, hnx⟩ := hrel
    have hc1 := (hKs hnx).1.trans hBs
    have hc2 := (hKs hnx).2.trans hBn
    by_cases hlt : k < m
    · have hmin : min 4 (((4 * m - 4 * k : Nat)) : Int) = 4 := by omega
      have p0 : (0 : Int) ≤ ((4 * k : Nat) : Int) := by omega
      have p1 : ((4 * k : Nat) : Int) < ((4 * m : Nat) : Int) := by omega
      have p2 : ((4 * k : Nat) : Int) ≤ ((4 * m : Nat) : Int) := by omega
      have hbr : Kp wr wr.drew := hKd wr
      gi_wp2
      gi_region
      all_goals
        obtain ⟨fn, tmps, assign, body, hy, hR⟩ := hY _ ⟨k, hlt⟩ wr.drew (hJd _ _ hJs) (by rw [List.length_take, List.length_finRange]; omega)
        dsimp only at hy
        gi_wp2
        refine hR.mono ?_
        rintro e W3 (⟨rfl, hJ3, hk3⟩ | ⟨rfl, hJx3⟩)
        · have hn3 : Kp W W3 := hKt (hKt hnx hbr) hk3
          have hc3 := (hKs hn3).2.trans hBn
          gi_wp2
          go_roundw
          case rel => exact ⟨k + 1, by omega, by first | go_num | (congr 1; omega) | (simp; omega), by rw [fin_take_succ hlt]; exact hJ3, hn3⟩
          case measure => simp [intOf]; omega
        · gi_wp2
          refine bodyPost_ret (results_none rfl _ _ _) rfl ?_
          exact ⟨⟨_, rfl⟩, .inr ⟨_, ⟨k + 1, by omega, (fin_take_succ hlt).symm⟩, hJx3⟩⟩
    · obtain rfl : k = m := by omega
      gi_wp2
      go_end0
      exact ⟨⟨_, rfl⟩, .inl (by rw [List.take_of_length_le (by rw [List.length_finRange]; exact Nat.le_refl _)] at hJs; exact hJs)⟩
end Go.Proofs.Ytipahpkdddijmaa.Q

-- F7
namespace Go.Proofs.Ytipahpkdddijmaa.Q
open Go.RowKit Go.Shelf
set_option linter.unusedVariables false
set_option linter.unusedSimpArgs false
attribute [local go_sem] Oper.semAt_some

theorem grown_drew (W : World) (row : Option Nat) : W.grownBy W.drew row := ⟨rfl, rfl, rfl, Nat.le_refl _, fun _ _ _ => rfl⟩
set_option maxRecDepth 100000 in
set_option maxHeartbeats 1000000 in
theorem chunk1_nil_in (F : Fence) (n : Nat) (h7 : F.fn 58) (hro : F.round = none) (l Bs Bn : Nat) (J : List (Fin 0) → World → Prop) (W : World) (hBs : W.cell? ⟨Bs, 0, none⟩ = some (.slice none 0 0)) (h0 : J [] W) :
    CallsIn F n Try.prog 58 #[.func (.yield l) #[] #[], .pointer (some ⟨Bs, 0, none⟩), .pointer (some ⟨Bn, 0, none⟩)] W fun e W' => (∃ v, e = .returned v) ∧ J [] W' := by
  refine callsIn_of_wp Try.func58 rfl h7 ?_ hro
  simp only [Try.ntmps58, List.size_toArray, List.length_cons, List.length_nil, Nat.reduceAdd, Nat.reduceSub, Array.replicate_succ, Array.replicate_zero, List.push_toArray, List.append_toArray, List.nil_append, List.cons_append]
  gi_wp2
  gi_loopw [4] (fun i wr => i = .int .i64 0 ∧ wr = W) (fun _ _ => 0)
  case atStart => exact ⟨rfl, rfl⟩
  case round =>
    obtain ⟨rfl, rfl⟩ := hrel
    gi_wp2
    go_end0
    exact ⟨⟨_, rfl⟩, h0⟩
/-- **slices.Chunk(l, 4) HANDS BACK A VALUE THAT 'SeqStopsK'**: all m chunks, in order; or a prefix; Kp: whatever keeps the two boxes. -/
theorem chunk_stops (F : Fence) (n : Nat) (h7 : F.fn 58) (hro : F.round = none) (hn : 1 ≤ n) (Bs Bn b m cap : Nat) (hreach : 4 * m ≤ 100000) (hcap : 4 * m ≤ cap) (hcap2 : cap ≤ 9223372036854775807) (Kp : World → World → Prop) (hK0 : ∀ W, Kp W W) (hKd : ∀ W, Kp W W.drew) (hKt : ∀ {A B C : World}, Kp A B → Kp B C → Kp A C)
    (hKs : ∀ {A B : World}, Kp A B → B.cell? ⟨Bs, 0, none⟩ = A.cell? ⟨Bs, 0, none⟩ ∧ B.cell? ⟨Bn, 0, none⟩ = A.cell? ⟨Bn, 0, none⟩) (w : World) (hbs : Bs < w.heap.size) (hbn : Bn < w.heap.size)
    (hc1 : w.cell? ⟨Bs, 0, none⟩ = some (.slice (some ⟨b, 0, none⟩) (4 * m) cap)) (hc2 : w.cell? ⟨Bn, 0, none⟩ = some (.int .i64 4)) :
    SeqStopsK F n Try.prog 58 #[.pointer (some ⟨Bs, 0, none⟩), .pointer (some ⟨Bn, 0, none⟩)] (fun x : Fin m => #[Value.slice (some ⟨b, 4 * x.1, none⟩) 4 4]) Kp (fun ys => ys = List.finRange m) (fun pre => pre <+: List.finRange m) m w := fun l J Jx W hW hJ _ hY h0 => by
  have d1 := (hW.cell (p := ⟨Bs, 0, none⟩) hbs).trans hc1
  have d2 := (hW.cell (p := ⟨Bn, 0, none⟩) hbn).trans hc2
  refine (chunk1_in F n h7 hro hn l Bs Bn b m cap hreach hcap hcap2 Kp hK0 hKd hKt hKs J Jx (fun s W1 h => hJ s W1 W1.drew none h (grown_drew _ _) (fun r e => by cases e)) hY W d1 d2 h0).mono ?_
  rintro e W' ⟨he, hj | ⟨pre, ⟨k, hk, rfl⟩, hj⟩⟩
  · exact ⟨he, .inl ⟨_, rfl, hj⟩⟩
  · exact ⟨he, .inr ⟨_, List.take_prefix _ _, hj⟩⟩
end Go.Proofs.Ytipahpkdddijmaa.Q

-- F8
namespace Go.Proofs.Ytipahpkdddijmaa.Q
open Go.RowKit Go.Proofs.YtipahpkdddijmaaW.PrintWords Go.Proofs.YtipahpkdddijmaaW.PrintLast Go.Proofs.YtipahpkdddijmaaW.PrintMore
set_option linter.unusedVariables false
set_option linter.unusedSimpArgs false

/-! ### wire.TakeNum -/
/-- A number taken: (number, rest, error). -/
def numW (s : ByteArray) : Int × ByteArray × Int := if s.size < 8 then (0, ⟨#[]⟩, 3) else ((leN (s.extract 0 8).data.toList : Int), s.extract 8 s.size, 0)
theorem num_w (s : ByteArray) (k : Nat) (hk : 9 ≤ k) : wire_TakeNum.f k s = some (numW s) := by
  unfold wire_TakeNum.f wire_cut.f numW
  by_cases h : s.size < 8
  · rw [if_pos (by omega), if_pos h, Option.bind_some]
    simp only
    rw [if_neg (by decide)]
  · rw [if_neg (by omega), if_pos (by omega), if_pos (by omega), if_neg h, Option.bind_some]
    simp only
    have hs : (s.extract 0 8).size = 8 := by rw [ByteArray.size_extract]; omega
    rw [show ((8 : Int)).toNat = 8 from rfl, if_pos trivial, read_f _ (by omega) k (by omega), Option.bind_some]
theorem num_laid (n : Nat) (h : n < 18446744073709551616) : numW (num8 n) = ((n : Int), ⟨#[]⟩, 0) := by
  have hs : (num8 n).size = 8 := num8_size n
  have h0 : (num8 (n : Int)).extract 0 8 = num8 n := by
    apply bytes_inj
    rw [ext_list, List.drop_zero, List.take_of_length_le (by rw [size_list]; omega)]
  have h1 : (num8 (n : Int)).extract 8 (num8 (n : Int)).size = ⟨#[]⟩ := by
    apply bytes_inj
    rw [ext_list, List.drop_eq_nil_of_le (by rw [List.length_take, size_list]; omega)]
  unfold numW
  rw [if_neg (by omega), h0, num8_le n h, h1]
theorem takeNum.walk (s : ByteArray) (w : World) : Calls Try.prog 36 #[.string s] w fun e w' => e = .returned (.tuple #[.int .u64 (numW s).1, .string (numW s).2.1, .int .i64 (numW s).2.2]) ∧ Drawn0 w w' := wire_TakeNum.calls 9 s _ _ _ w (num_w s 9 (Nat.le_refl _))
/-- change.gone, as octets. -/
theorem goneN_true_ne : goneN true ≠ goneN false := by
  intro h
  have h1 := congrArg (fun s : ByteArray => leN s.data.toList) h
  unfold goneN at h1
  simp only [if_true, if_false, Bool.false_eq_true] at h1
  have a := num8_le 1 (by decide)
  have b := num8_le 0 (by decide)
  rw [show ((1 : Int)) = ((1 : Nat) : Int) from rfl, show ((0 : Int)) = ((0 : Nat) : Int) from rfl] at h1
  omega
end Go.Proofs.Ytipahpkdddijmaa.Q

-- F9
namespace Go.Proofs.Ytipahpkdddijmaa.Q
open Go.RowKit Go.Proofs.YtipahpkdddijmaaW.PrintWords Go.Proofs.YtipahpkdddijmaaW.PrintLast Go.Proofs.YtipahpkdddijmaaW.PrintMore
set_option linter.unusedVariables false
set_option linter.unusedSimpArgs false

/-! ### change.Take, in plain words -/
def noteOf (a b c d : ByteArray) : Option S39 := if (numW a).2.2 = 0 ∧ (numW a).2.1.toList.isEmpty = true then some ⟨(numW a).1, ⟨b, d, c.toList == (goneN true).toList⟩⟩ else none
def takeN : List ByteArray → Option (List S39)
  | a :: b :: c :: d :: r => (noteOf a b c d).bind fun n => (takeN r).map (n :: ·)
  | _ => some []
def takeR (s : ByteArray) : List S39 × Int :=
  if (wholeW s).2 = 0 ∧ (wholeW s).1.length % 4 = 0 then
    (match takeN (wholeW s).1 with
      | none => ([], 2)
      | some out => if (layR out).2 = 0 ∧ (layR out).1 = s then (out, 0) else ([], 2))
  else ([], 2)
theorem note_laid (n : S39) (h0 : 0 ≤ n.f0) (h1 : n.f0 ≤ 18446744073709551615) : noteOf (num8 n.f0) n.f1.f0 (goneN n.f1.f2) n.f1.f1 = some n := by
  obtain ⟨f0, f1, f2, f3⟩ := n
  simp only at h0 h1 ⊢
  obtain ⟨k, rfl⟩ : ∃ k : Nat, f0 = k := ⟨f0.toNat, by omega⟩
  unfold noteOf
  rw [num_laid k (by omega)]
  simp only
  rw [if_pos ⟨trivial, by rw [Lib.toList_data]; rfl⟩]
  have hg : ((goneN f3).toList == (goneN true).toList) = f3 := by
    cases f3
    · rw [beq_eq_false_iff_ne]
      exact fun h => goneN_true_ne (bytes_eq h).symm
    · simp
  rw [hg]
theorem takeN_laid : ∀ l : List S39, (∀ n ∈ l, 0 ≤ n.f0 ∧ n.f0 ≤ 18446744073709551615) → takeN (textsN l) = some l
  | [], _ => rfl
  | n :: l, h => by
    obtain ⟨h0, h1⟩ := h n List.mem_cons_self
    show takeN (num8 n.f0 :: n.f1.f0 :: goneN n.f1.f2 :: n.f1.f1 :: textsN l) = _
    rw [takeN, note_laid n h0 h1, Option.bind_some, takeN_laid l (fun m hm => h m (List.mem_cons_of_mem _ hm))]
    rfl
theorem layR_ok {l : List S39} (h : (layR l).2 = 0) : l.length ≠ 0 ∧ l.length ≤ 100 ∧ l.any (fun n => !mayN n) = false ∧ layR l = (listB (textsN l), 0) := by
  unfold layR at h
  split at h
  · cases h
  · rename_i hn
    have hn1 : l.length ≠ 0 := fun e => hn (Or.inl e)
    have hn2 : l.length ≤ 100 := by
      rcases Nat.lt_or_ge 100 l.length with x | x
      · exact absurd (Or.inr (Or.inl x)) hn
      · exact x
    have hn3 : l.any (fun n => !mayN n) = false := by
      cases hx : l.any (fun n => !mayN n) with
      | false => rfl
      | true => exact absurd (Or.inr (Or.inr hx)) hn
    split at h
    · cases h
    · rename_i hs
      refine ⟨hn1, hn2, hn3, ?_⟩
      unfold layR
      rw [if_neg hn, if_neg hs]
theorem take_of_lay {l : List S39} (hw : ∀ n ∈ l, 0 ≤ n.f0 ∧ n.f0 ≤ 18446744073709551615) (h : (layR l).2 = 0) : takeR (layR l).1 = (l, 0) := by
  obtain ⟨h1, h2, h3, h4⟩ := layR_ok h
  have ht := textsN_len l
  have hwh := whole_laid (textsN l) (by omega) (textsN_size h3)
  unfold takeR
  rw [h4]
  simp only
  rw [hwh]
  simp only
  rw [if_pos ⟨trivial, by omega⟩, takeN_laid l hw]
  simp only
  rw [h4, if_pos ⟨rfl, rfl⟩]
end Go.Proofs.Ytipahpkdddijmaa.Q

-- F10
namespace Go.Proofs.Ytipahpkdddijmaa.Q
open Go.RowKit Go.Shelf Go.Proofs.YtipahpkdddijmaaW.PrintWords
set_option linter.unusedVariables false
set_option linter.unusedSimpArgs false

/-! ### a drawn region in a round of the wide fence: by the held walk of the plain calculus -/
theorem rows_wide {n : Nat} {P : Program} {row : String} {args : Array Value} {w : World} {R : Value → World → Prop} (h : Rows P row args w R) : RowsIn Fence.wide n P row args w R :=
  fun c cs _ => let ⟨v, w', r, s⟩ := h c cs; ⟨v, w', r, stepsIn_wide.2 s⟩
theorem oper_wpIn_round {l n : Nat} {P : Program} {o : Oper} {a : Act} {w : World} {K : Act → World → Prop} {Q : Exit → Act → World → Prop} (hnd : ∀ c, o.op ≠ .defer c) (h : o.wp P a w K Q) :
    o.wpIn (Fence.wide.inRound l) n P a w K Q := by
  unfold Oper.wpIn
  refine ⟨fun _ _ => trivial, ?_⟩
  rw [Oper.semAt_eq _ _ _ hnd]
  unfold Oper.wp at h
  generalize (execOp a.eval o).run P w = r at *
  cases r with
  | ok x w' =>
    cases x <;> simp only [Oper.upon, Oper.uponIn] at h ⊢ <;> first | exact h | skip
    · exact ⟨fun hd => (by cases hd), CallsIn.mono (CallsIn.inRound l (callsIn_wide.2 h)) (fun e w'' he => by cases e <;> exact he)⟩
    · exact ⟨fun hd => (by cases hd), rows_wide h⟩
  | halt x w' => cases x <;> simp only [Oper.upon, Oper.uponIn] at h ⊢ <;> exact h
theorem wpAnyIn_round {l n : Nat} {P : Program} {md : Region.Mode} {ops : Array Oper} {Q : Exit → Act → World → Prop} (hnd : ∀ o ∈ ops.toList, ∀ c, o.op ≠ .defer c) (hno : ¬ LetsOut Q) :
    ∀ (fuel : Nat) (listed : Array Bool) (a : Act) (w : World), wpAny P md ops Q fuel listed a w → wpAnyIn (Fence.wide.inRound l) n P md ops Q fuel listed a w
  | 0, _, _, _, h => h
  | fuel + 1, listed, a, w, h => by
    refine ⟨h.1, fun i hi => ?_⟩
    have := h.2 i hi
    unfold wpOpIn
    unfold wpOp at this
    split
    · rename_i e; rw [e] at this; exact wpAnyIn_round hnd hno fuel _ _ _ this
    · rename_i o ho
      rw [ho] at this
      simp only at this
      split
      · rename_i hw
        rw [if_pos hw] at this
        have hm : o ∈ ops.toList := by
          obtain ⟨hlt, e⟩ := Array.getElem?_eq_some_iff.1 ho
          rw [← e]; exact Array.getElem_mem_toList hlt
        refine Oper.wpIn_mono (fun a w => wpAnyIn_round hnd hno fuel _ a w) (oper_wpIn_round (hnd o hm) (this.resolve_right fun h => hno h.2))
      · rename_i hw
        rw [if_neg hw] at this
        exact ⟨fun _ _ => trivial, wpAnyIn_round hnd hno fuel _ _ _ this⟩
def noDefer (ops : Array Oper) : Bool := ops.toList.all fun o => match o.op with | .defer _ => false | _ => true
theorem noDefer_spec {ops : Array Oper} (h : noDefer ops = true) : ∀ o ∈ ops.toList, ∀ c, o.op ≠ .defer c := by
  intro o ho c hc
  have := List.all_eq_true.1 h o ho
  rw [hc] at this
  cases this
theorem round_region_held {l n : Nat} {P : Program} {ops : Array Oper} {Q : Exit → Act → World → Prop} {id : Nat} {a : Act} {w : World} (S : World → Prop) (hm : P.follows .mixedOrders = true) (hnd : noDefer ops = true) (hno : ¬ LetsOut Q) (hS : S w.drew)
    (h : S w.drew → wpAnyH P .any ops Q S ops.size (Array.replicate ops.size false) a w.drew) : (Code.region id ops true).wpIn (Fence.wide.inRound l) n P Q a w :=
  wpIn_region_any hm (wpAnyIn_round (noDefer_spec hnd) hno _ _ _ _ (wpAny_of_held _ _ _ _ (h hS)))
end Go.Proofs.Ytipahpkdddijmaa.Q

-- F11
namespace Go.Proofs.Ytipahpkdddijmaa.Q
open Go.RowKit Go.Shelf Go.Proofs.YtipahpkdddijmaaW.PrintWords
set_option linter.unusedVariables false
set_option linter.unusedSimpArgs false
attribute [local go_sem] Oper.semAt_some

/-! ### plain: the notes chunk by chunk -/
def nth (ts : List ByteArray) (k : Nat) : ByteArray := (ts[k]?).getD ⟨#[]⟩
def nAt (ts : List ByteArray) {m : Nat} (x : Fin m) : Option S39 := noteOf (nth ts (4 * x.1)) (nth ts (4 * x.1 + 1)) (nth ts (4 * x.1 + 2)) (nth ts (4 * x.1 + 3))
theorem takeN_cons (a b c d : ByteArray) (r : List ByteArray) : takeN (a :: b :: c :: d :: r) = (noteOf a b c d).bind fun n => (takeN r).map (n :: ·) := rfl
theorem na_succ (a b c d : ByteArray) (r : List ByteArray) {m : Nat} (x : Fin m) : nAt (a :: b :: c :: d :: r) x.succ = nAt r x := by
  unfold nAt nth
  simp only [Fin.val_succ]
  rw [show 4 * (x.1 + 1) = 4 * x.1 + 4 by omega]
  simp
theorem na_zero (a b c d : ByteArray) (r : List ByteArray) {m : Nat} : nAt (a :: b :: c :: d :: r) (0 : Fin (m + 1)) = noteOf a b c d := by
  unfold nAt nth; simp
theorem takeN_na : ∀ (m : Nat) (ts : List ByteArray), ts.length = 4 * m → takeN ts = if (List.finRange m).all (fun x => (nAt ts x).isSome) then some ((List.finRange m).filterMap (nAt ts)) else none
  | 0, ts, h => by
    have : ts = [] := List.eq_nil_of_length_eq_zero (by omega)
    subst this
    simp [takeN]
  | m + 1, ts, h => by
    match ts, h with
    | a :: b :: c :: d :: r, h =>
      have hr : r.length = 4 * m := by simp at h; omega
      rw [takeN_cons, takeN_na m r hr, List.finRange_succ, List.all_cons, List.all_map, List.filterMap_cons, List.filterMap_map, na_zero]
      have e1 : ((fun x => (nAt (a :: b :: c :: d :: r) x).isSome) ∘ Fin.succ) = fun x : Fin m => (nAt r x).isSome := by funext x; show (nAt _ x.succ).isSome = _; rw [na_succ]
      have e2 : (nAt (a :: b :: c :: d :: r) ∘ Fin.succ) = (nAt r : Fin m → Option S39) := by funext x; show nAt _ x.succ = _; rw [na_succ]
      rw [e1, e2]
      cases noteOf a b c d with
      | none => simp
      | some n =>
        simp only [Option.bind_some, Option.isSome_some, Bool.true_and]
        by_cases hh : (List.finRange m).all (fun x => (nAt r x).isSome) = true
        · rw [if_pos hh, if_pos hh]; rfl
        · rw [if_neg hh, if_neg hh]; rfl
theorem takeN_none {m : Nat} {ts : List ByteArray} (h : ts.length = 4 * m) {x : Fin m} (hx : nAt ts x = none) : takeN ts = none := by
  rw [takeN_na m ts h, if_neg]
  intro hh
  have := List.all_eq_true.1 hh x (List.mem_finRange x)
  rw [hx] at this
  cases this
theorem takeN_all {m : Nat} {ts : List ByteArray} (h : ts.length = 4 * m) (hx : ∀ x ∈ List.finRange m, (nAt ts x).isSome = true) : takeN ts = some ((List.finRange m).filterMap (nAt ts)) := by
  rw [takeN_na m ts h, if_pos (List.all_eq_true.2 hx)]
/-- slices.Chunk's value, of whatever row (also of no row). -/
theorem chunk_stops_any (F : Fence) (n : Nat) (h7 : F.fn 58) (hro : F.round = none) (hn : 1 ≤ n) (Bs Bn b m cap : Nat) (A : Option Addr) (hA : A = some ⟨b, 0, none⟩ ∨ (A = none ∧ m = 0 ∧ cap = 0)) (hreach : 4 * m ≤ 100000) (hcap : 4 * m ≤ cap) (hcap2 : cap ≤ 9223372036854775807) (Kp : World → World → Prop) (hK0 : ∀ W, Kp W W) (hKd : ∀ W, Kp W W.drew) (hKt : ∀ {A B C : World}, Kp A B → Kp B C → Kp A C)
    (hKs : ∀ {A B : World}, Kp A B → B.cell? ⟨Bs, 0, none⟩ = A.cell? ⟨Bs, 0, none⟩ ∧ B.cell? ⟨Bn, 0, none⟩ = A.cell? ⟨Bn, 0, none⟩) (w : World) (hbs : Bs < w.heap.size) (hbn : Bn < w.heap.size)
    (hc1 : w.cell? ⟨Bs, 0, none⟩ = some (.slice A (4 * m) cap)) (hc2 : w.cell? ⟨Bn, 0, none⟩ = some (.int .i64 4)) :
    SeqStopsK F n Try.prog 58 #[.pointer (some ⟨Bs, 0, none⟩), .pointer (some ⟨Bn, 0, none⟩)] (fun x : Fin m => #[Value.slice (some ⟨b, 4 * x.1, none⟩) 4 4]) Kp (fun ys => ys = List.finRange m) (fun pre => pre <+: List.finRange m) m w := by
  rcases hA with rfl | ⟨rfl, rfl, rfl⟩
  · exact chunk_stops F n h7 hro hn Bs Bn b m cap hreach hcap hcap2 Kp hK0 hKd hKt hKs w hbs hbn hc1 hc2
  · intro l J Jx W hW hJ _ hY h0
    refine (chunk1_nil_in F n h7 hro l Bs Bn J W ((hW.cell (p := ⟨Bs, 0, none⟩) hbs).trans hc1) h0).mono ?_
    rintro e W' ⟨he, hj⟩
    exact ⟨he, .inl ⟨[], rfl, hj⟩⟩
theorem string_row {w : World} {base : Nat} {v : Value} {ts : List ByteArray} {ok : Nat → Prop} (h : Kd.R Kd.string 9 w base ok v ts) :
    ∃ A b c, v = .slice A ts.length c ∧ ts.length ≤ c ∧ c ≤ maxLen ∧ (A = some ⟨b, 0, none⟩ ∧ (∀ k, k < ts.length → w.cell? ⟨b, k, none⟩ = some (.string (nth ts k))) ∧ base ≤ b ∧ b < w.heap.size ∨ (A = none ∧ ts.length = 0 ∧ c = 0)) := by
  obtain ⟨A, c, rfl, hc, hr⟩ := Kd.R_reads h
  obtain ⟨_, inner, ho, hi⟩ := h
  rcases ho.2 with ⟨he, h0⟩ | ⟨g, cap, cur, he, hg, hh, hn, hm, _⟩
  · injection he with e1 e2 e3
    subst e1 e3
    exact ⟨none, 0, 0, rfl, hc, Nat.zero_le _, .inr ⟨rfl, h0, rfl⟩⟩
  · injection he with e1 e2 e3
    subst e1 e3
    refine ⟨_, g, c, rfl, hc, hm, .inl ⟨rfl, fun k hk => ?_, hg, (Array.getElem?_eq_some_iff.1 hh).1⟩⟩
    obtain ⟨ad, e, hcell⟩ := at_str hr (Below.refl _ _) k hk
    cases e
    have : (Addr.add ⟨g, 0, none⟩ k) = ⟨g, k, none⟩ := by unfold Addr.add; split <;> simp_all
    rw [this] at hcell
    rw [hcell, nth, List.getElem?_eq_getElem hk]; rfl
end Go.Proofs.Ytipahpkdddijmaa.Q

-- F12
namespace Go.Proofs.Ytipahpkdddijmaa.Q
open Go.RowKit Go.Shelf Go.Proofs.YtipahpkdddijmaaW.PrintWords
set_option linter.unusedVariables false
set_option linter.unusedSimpArgs false
attribute [local go_sem] Oper.semAt_some

theorem takeLoop_len : ∀ (n : Nat) (rest : ByteArray) (out : List ByteArray), (takeLoop n rest out).2.2.length ≤ out.length + n
  | 0, _, _ => Nat.le_refl _
  | n + 1, rest, out => by
    unfold takeLoop
    split
    · have := takeLoop_len n (takeW rest).2.1 (out ++ [(takeW rest).1])
      simp at this
      omega
    · simp only; omega
theorem wholeW_len {s : ByteArray} {ts : List ByteArray} (h : wholeW s = (ts, 0)) : ts.length ≤ 4000 := by
  have h2 := congrArg Prod.fst h
  have h3 : (takeListW s).1.length ≤ 4000 := by
    have hc := countW_le s
    unfold takeListW outT
    split
    · unfold finT
      split
      · have := takeLoop_len (countW s).1.toNat (countW s).2.1 []
        simp at this
        simp only
        omega
      · simp
    · simp
  unfold wholeW at h2
  split at h2
  · split at h2
    · simp only at h2; rw [← h2]; exact h3
    · simp only at h2; rw [← h2]; simp
  · simp only at h2; rw [← h2]; simp
theorem belowN {B : Nat} {a w : World} (h : Below B a w) (n : Nat) : Below B a (w.drewN n) := h.trans ⟨rfl, rfl, rfl, Nat.le_refl _, fun _ _ => rfl⟩
/-- What a round of change.Take keeps at hand: the box of out, its row, the two boxes of the iterator. -/
structure RB (B : Nat) (a b v : Value) (n : Nat) (xs : List Value) (w1 W W' : World) : Prop where
  box : Boxed W' B 22 v
  row : W'.ownsRow B 39 4 v n xs
  bs : Boxed W' (B + 1) 59 a
  bn : Boxed W' (B + 1 + 1) 3 b
  keep : KeepsOthers W W'
  bel : Below B w1 W'
theorem RB.step {B n : Nat} {a b v : Value} {xs : List Value} {w1 W W1 W2 : World} (h : RB B a b v n xs w1 W W1) (hb : Below W1.heap.size W1 W2) : RB B a b v n xs w1 W W2 :=
  ⟨(hb.block _ h.box.lt).trans h.box, owns_row_below h.row hb, (hb.block _ h.bs.lt).trans h.bs, (hb.block _ h.bn.lt).trans h.bn,
   h.keep.trans ⟨hb.size, fun k o hk _ => (hb.block k (Array.getElem?_eq_some_iff.1 hk).1).trans hk⟩, h.bel.trans (hb.mono (Nat.le_of_lt h.box.lt))⟩
theorem RB.append {B n k : Nat} {a b v v' : Value} {xs ys : List Value} {w1 W W1 W2 : World} (h : RB B a b v n xs w1 W W1) (ho : W2.ownsRow B 39 4 v' k ys) (hg : W1.grownBy W2 v.ownBlock) :
    Boxed W2 B 22 v ∧ Below B w1 W2 ∧ RB B a b v' k ys w1 W (W2.setCell ⟨B, 0, none⟩ v') := by
  have hb2 : Below B w1 W2 := by
    refine (h.bel).grown hg (Nat.le_of_lt h.box.lt) fun j ej => ?_
    rcases h.row.2 with ⟨rfl, _⟩ | ⟨g, cap, cur, rfl, hb, _, _⟩
    · simp [Value.ownBlock] at ej
    · obtain rfl : g = j := by simpa [Value.ownBlock] using ej
      exact hb
  have h1 : Boxed W2 B 22 v := h.box.kept hg (h.box.not_row (by decide) h.row)
  have h2 : Boxed W2 (B + 1) 59 a := h.bs.kept hg (h.bs.not_row (by decide) h.row)
  have h3 : Boxed W2 (B + 1 + 1) 3 b := h.bn.kept hg (h.bn.not_row (by decide) h.row)
  refine ⟨h1, hb2, h1.set v', ho.kept (grownBy_setCell' W2 B v') (.inr (h1.not_row (by decide) ho).symm), ?_, ?_, ?_, ?_⟩
  · exact (Below.heap_setCell _ _ _ _ (by show B + 1 ≠ B; omega)).trans h2
  · exact (Below.heap_setCell _ _ _ _ (by show B + 1 + 1 ≠ B; omega)).trans h3
  · refine (h.keep.trans (KeepsOthers.of_grownBy hg fun j o ej hj => ?_)).trans (KeepsOthers.setCell _ _ _)
    rcases h.row.2 with ⟨rfl, _⟩ | ⟨g, cap, cur, rfl, _, hgb, _⟩
    · simp [Value.ownBlock] at ej
    · obtain rfl : g = j := by simpa [Value.ownBlock] using ej
      rw [hgb] at hj; cases hj; rfl
  · exact hb2.setCell (p := ⟨B, 0, none⟩) (Nat.le_refl _) v'
/-- Between two rounds. -/
def TI (ts : List ByteArray) {m : Nat} (B : Nat) (a b : Value) (w1 : World) (pre : List (Fin m)) (W : World) : Prop :=
  (∃ v, Boxed W B 22 v ∧ W.ownsRow B 39 4 v (pre.filterMap (nAt ts)).length (fl (pre.filterMap (nAt ts))) ∧ (∀ x ∈ pre, (nAt ts x).isSome = true)) ∧ Below B w1 W ∧ Boxed W (B + 1) 59 a ∧ Boxed W (B + 1 + 1) 3 b
/-- A round has left by 'return nil, ErrForm'. -/
def TX (ts : List ByteArray) {m : Nat} (n0 : Nat) (w : World) (c : Code) (pre : List (Fin m)) (W : World) : Prop :=
  c = .ret ∧ (∃ x ∈ pre, nAt ts x = none) ∧ W.cell? ⟨n0, 0, none⟩ = some (.slice none 0 0) ∧ W.cell? ⟨n0 + 1, 0, none⟩ = some (.int .i64 2) ∧ Below n0 w W
theorem boxed_own1 {β : Type} (B' B : Nat) (t : TypeId) (v : Value) : OwnFrom (β := β) B' (fun _ W => Boxed W B t v) := by
  intro s X Y row hv hg hr
  refine hv.kept hg (fun e' => ?_)
  obtain ⟨_, o, ho, hc⟩ := hr B e'.symm
  rw [show X.heap[B]? = _ from hv] at ho; cases ho; cases hc
theorem TI_own (ts : List ByteArray) {m : Nat} (B B' : Nat) (a b : Value) (w1 : World) (h1 : B ≤ w1.heap.size) (h2 : B ≤ B') : OwnFrom B' (TI ts (m := m) B a b w1) :=
  OwnFrom.and (Own.from (holdsRow_own B B 22 39 4 (fun (pre : List (Fin m)) => (pre.filterMap (nAt ts)).length) (fun (pre : List (Fin m)) => fl (pre.filterMap (nAt ts))) (fun (pre : List (Fin m)) v => ∀ x ∈ pre, (nAt ts x).isSome = true)) _)
    (OwnFrom.and (ownFrom_below h1 h2) (OwnFrom.and (boxed_own1 _ _ _ _) (boxed_own1 _ _ _ _)))
theorem TX_own (ts : List ByteArray) {m : Nat} (n0 B' : Nat) (w : World) (h1 : n0 ≤ w.heap.size) (h2 : n0 ≤ B') (c : Code) : OwnFrom B' (TX ts (m := m) n0 w c) := by
  intro s A B row hs hg hr
  obtain ⟨e1, e2, e3, e4, e5⟩ := hs
  refine ⟨e1, e2, cell_kept e3 hg (fun r e => (hr r e).2), cell_kept e4 hg (fun r e => (hr r e).2), ?_⟩
  exact ownFrom_below (β := List (Fin m)) h1 h2 s A B row e5 hg hr
theorem TX_ret {ts : List ByteArray} {m n0 B nd : Nat} {w w1 W : World} {pre : List (Fin m)} {x : Fin m} (hn : n0 ≤ w.heap.size) (hB : n0 ≤ B) (hb0 : Below n0 w w1) (hb : Below B w1 W) (hx : nAt ts x = none)
    (r0 : W.cell? ⟨n0, 0, none⟩ = some (.slice none 0 0)) (r1 : W.cell? ⟨n0 + 1, 0, none⟩ = some (.int .i64 0)) :
    KeepsOthers W (((W.drewN nd).setCell ⟨n0, 0, none⟩ (.slice none 0 0)).setCell ⟨n0 + 1, 0, none⟩ (.int .i64 2)) ∧ TX ts n0 w .ret (pre ++ [x]) (((W.drewN nd).setCell ⟨n0, 0, none⟩ (.slice none 0 0)).setCell ⟨n0 + 1, 0, none⟩ (.int .i64 2)) := by
  have d0 : (W.drewN nd).cell? ⟨n0, 0, none⟩ = some (.slice none 0 0) := r0
  have d1 : (W.drewN nd).cell? ⟨n0 + 1, 0, none⟩ = some (.int .i64 0) := r1
  have kd : KeepsOthers W (W.drewN nd) := ⟨Nat.le_refl _, fun _ _ h _ => h⟩
  have e0 : ((W.drewN nd).setCell ⟨n0, 0, none⟩ (.slice none 0 0)).cell? ⟨n0, 0, none⟩ = some (.slice none 0 0) := World.cell?_setCell_same' _ _ _ (by rw [d0]; rfl)
  have e1 : ((W.drewN nd).setCell ⟨n0, 0, none⟩ (.slice none 0 0)).cell? ⟨n0 + 1, 0, none⟩ = some (.int .i64 0) := by
    rw [World.cell?_of_block (Below.heap_setCell _ _ _ _ (by show n0 + 1 ≠ n0; omega))]; exact d1
  refine ⟨(kd.trans (KeepsOthers.setCell _ _ _)).trans (KeepsOthers.setCell _ _ _), rfl, ⟨x, by simp, hx⟩, ?_, World.cell?_setCell_same' _ _ _ (by rw [e1]; rfl), ?_⟩
  · rw [World.cell?_of_block (Below.heap_setCell _ _ _ _ (by show n0 ≠ n0 + 1; omega))]; exact e0
  · exact (belowN (hb0.trans (hb.mono hB)) nd).setCell (p := ⟨n0, 0, none⟩) (Nat.le_refl _) _ |>.setCell (p := ⟨n0 + 1, 0, none⟩) (by show n0 ≤ n0 + 1; omega) _
theorem TI_next {ts : List ByteArray} {m B : Nat} {a b v' : Value} {w1 W W' : World} {pre : List (Fin m)} {x : Fin m} {n : S39} (hall : ∀ y ∈ pre, (nAt ts y).isSome = true) (HE : nAt ts x = some n) (hbs : Boxed W (B + 1) 59 a) (hbn : Boxed W (B + 1 + 1) 3 b)
    (h : RB B a b v' ((pre.filterMap (nAt ts)).length + 1) (fl (pre.filterMap (nAt ts)) ++ [.int .u64 n.f0, .string n.f1.f0, .string n.f1.f1, .bool n.f1.f2]) w1 W W') :
    KeepsOthers W W' ∧ (W'.cell? ⟨B + 1, 0, none⟩ = W.cell? ⟨B + 1, 0, none⟩ ∧ W'.cell? ⟨B + 1 + 1, 0, none⟩ = W.cell? ⟨B + 1 + 1, 0, none⟩) ∧ TI ts B a b w1 (pre ++ [x]) W' := by
  have hr : NRow W' B v' (pre.filterMap (nAt ts) ++ [n]) := NRow.snoc h.row
  have he : (pre ++ [x]).filterMap (nAt ts) = pre.filterMap (nAt ts) ++ [n] := by rw [List.filterMap_append]; simp [HE]
  refine ⟨h.keep, ⟨h.bs.cell.trans hbs.cell.symm, h.bn.cell.trans hbn.cell.symm⟩, ⟨v', h.box, ?_, ?_⟩, h.bel, h.bs, h.bn⟩
  · rw [he]; exact hr
  · intro y hy
    rcases List.mem_append.1 hy with h1 | h1
    · exact hall y h1
    · obtain rfl : y = x := by simpa using h1
      rw [HE]; rfl
theorem fin_world {w w3 : World} {D n0 : Nat} {v0 v1 u0 u1 : Value} (hK : w3.heap[D]? = some (.deferred (some []))) (q0 : w3.cell? ⟨n0, 0, none⟩ = some u0) (q1 : w3.cell? ⟨n0 + 1, 0, none⟩ = some u1) (hn : n0 ≤ w.heap.size) (hD : w.heap.size ≤ D) (hw : w.heap.size ≤ w3.heap.size) (hb : Below n0 w w3) :
    ((w3.setCell ⟨n0, 0, none⟩ v0).setCell ⟨n0 + 1, 0, none⟩ v1).heap[D]? = some (.deferred (some [])) ∧
    (((w3.setCell ⟨n0, 0, none⟩ v0).setCell ⟨n0 + 1, 0, none⟩ v1).putObj D (.deferred none)).cell? ⟨n0, 0, none⟩ = some v0 ∧
    (((w3.setCell ⟨n0, 0, none⟩ v0).setCell ⟨n0 + 1, 0, none⟩ v1).putObj D (.deferred none)).cell? ⟨n0 + 1, 0, none⟩ = some v1 ∧
    Below n0 w (((w3.setCell ⟨n0, 0, none⟩ v0).setCell ⟨n0 + 1, 0, none⟩ v1).putObj D (.deferred none)) := by
  have e0 : (w3.setCell ⟨n0, 0, none⟩ v0).cell? ⟨n0, 0, none⟩ = some v0 := World.cell?_setCell_same' _ _ _ (by rw [q0]; rfl)
  have e1 : (w3.setCell ⟨n0, 0, none⟩ v0).cell? ⟨n0 + 1, 0, none⟩ = some u1 := by
    rw [World.cell?_of_block (Below.heap_setCell _ _ _ _ (by show n0 + 1 ≠ n0; omega))]; exact q1
  have g0 : ((w3.setCell ⟨n0, 0, none⟩ v0).setCell ⟨n0 + 1, 0, none⟩ v1).cell? ⟨n0, 0, none⟩ = some v0 := by
    rw [World.cell?_of_block (Below.heap_setCell _ _ _ _ (by show n0 ≠ n0 + 1; omega))]; exact e0
  have g1 : ((w3.setCell ⟨n0, 0, none⟩ v0).setCell ⟨n0 + 1, 0, none⟩ v1).cell? ⟨n0 + 1, 0, none⟩ = some v1 := World.cell?_setCell_same' _ _ _ (by rw [e1]; rfl)
  have hK5 : ((w3.setCell ⟨n0, 0, none⟩ v0).setCell ⟨n0 + 1, 0, none⟩ v1).heap[D]? = some (.deferred (some [])) := (KeepsOthers.setCell _ _ _).same D _ ((KeepsOthers.setCell _ _ _).same D _ hK rfl) rfl
  refine ⟨hK5, cell_kept g0 (grownBy_putObj' _ D (.deferred none)) (fun r e => by cases e; exact ⟨_, hK5, rfl⟩), cell_kept g1 (grownBy_putObj' _ D (.deferred none)) (fun r e => by cases e; exact ⟨_, hK5, rfl⟩), ?_⟩
  exact ((hb.setCell (p := ⟨n0, 0, none⟩) (Nat.le_refl _) _).setCell (p := ⟨n0 + 1, 0, none⟩) (by show n0 ≤ n0 + 1; omega) _).trans (belowK_b (w := w) hn _ D _ _ hD hK5 rfl rfl)
theorem fin_row {w3 : World} {D n0 B : Nat} {v0 v1 v : Value} {l : List S39} (h : NRow w3 B v l) (hB : n0 + 1 < B) (hK5 : ((w3.setCell ⟨n0, 0, none⟩ v0).setCell ⟨n0 + 1, 0, none⟩ v1).heap[D]? = some (.deferred (some []))) :
    NRow (((w3.setCell ⟨n0, 0, none⟩ v0).setCell ⟨n0 + 1, 0, none⟩ v1).putObj D (.deferred none)) n0 v l := by
  have h1 : NRow (w3.setCell ⟨n0, 0, none⟩ v0) B v l := h.grown (grownBy_setCell' w3 n0 v0) (fun g e => by intro e2; exact h.ne_low (b := n0) (by omega) (by rw [e, e2]))
  have h2 : NRow ((w3.setCell ⟨n0, 0, none⟩ v0).setCell ⟨n0 + 1, 0, none⟩ v1) B v l := h1.grown (grownBy_setCell' _ (n0 + 1) v1) (fun g e => by intro e2; exact h1.ne_low (b := n0 + 1) (by omega) (by rw [e, e2]))
  have h3 : NRow (((w3.setCell ⟨n0, 0, none⟩ v0).setCell ⟨n0 + 1, 0, none⟩ v1).putObj D (.deferred none)) B v l := ownsRow_putObj h2 _ hK5 rfl
  exact h3.mono (by omega)
set_option maxRecDepth 100000 in
set_option maxHeartbeats 4000000 in
theorem take_all.walk (s : ByteArray) (w : World) (ts : List ByteArray) (m : Nat) (hts : wholeW s = (ts, 0)) (hm : ts.length = 4 * m) :
    Calls Try.prog 13 #[.string s] w fun e w' => ∃ v, e = .returned (.tuple #[v, .int .i64 (takeR s).2]) ∧ NRow w' w.heap.size v (takeR s).1 ∧ Below w.heap.size w w' := by
  have hm4 : 4 * m ≤ 4000 := hm ▸ wholeW_len hts
  obtain ⟨i0, hi, hy0, hy1, hy2⟩ := info_parts info39
  refine (callsIn_wide (n := 5)).1 ?_
  refine callsIn_of_wp_marks Try.func13 rfl trivial ?_ rfl
  simp only [Try.ntmps13, List.size_toArray, List.length_cons, List.length_nil, Nat.reduceAdd, Nat.reduceSub, Array.replicate_succ, Array.replicate_zero, List.push_toArray, List.append_toArray, List.nil_append, List.cons_append]
  have hrem : Int.tmod ((4 * m : Nat) : Int) 4 = 0 := by rw [show (((4 * m : Nat)) : Int) = 4 * (m : Int) by omega]; exact Int.mul_tmod_right _ _
  have hrem2 : Int.tmod (4 * (m : Int)) 4 = 0 := Int.mul_tmod_right _ _
  gi_wp2_with (first | (refine ⟨trivial, ?_⟩; gi_at_call 34; refine (callsIn_wide.2 (whole.walk s _)).mono ?_; rintro e w1 ⟨v, rfl, ho, hb⟩; rw [hts] at ho ⊢; obtain ⟨A, b, c, rfl, hc, hcm, hA⟩ := string_row ho; clear ho; simp only [hm] at hc hA ⊢) | (refine ⟨trivial, ?_⟩; gi_at_call 35; refine (chunk_in _ _ trivial rfl A (4 * m) c _).mono ?_; rintro e w2 ⟨rfl, rfl⟩))
  have hR0 : Boxed w1 w.heap.size 22 (.slice none 0 0) := (hb.block _ (by simp; try omega)).trans (((Boxed.new w 22 (.slice none 0 0)).alloc _))
  have hR1 : Boxed w1 (w.heap.size + 1) 24 (.int .i64 0) := (hb.block _ (by simp)).trans (by have := Boxed.new (w.alloc (.cells #[.slice none 0 0] 22)) 24 (.int .i64 0); rwa [World.size_alloc] at this)
  have hs1 : w.heap.size + 2 ≤ w1.heap.size := by have := hb.size; simpa using this
  have hb0 : Below w.heap.size w w1 := (((Below.refl _ w).alloc (Nat.le_refl _) _).alloc (by simp) _).trans (hb.mono (by simp; try omega))
  clear hb
  obtain ⟨b, hA⟩ : ∃ b, (A = some ⟨b, 0, none⟩ ∧ (∀ k, k < 4 * m → w1.cell? ⟨b, k, none⟩ = some (.string (nth ts k))) ∧ b < w1.heap.size ∨ (A = none ∧ m = 0 ∧ c = 0)) := by
    rcases hA with ⟨e, h1, _, h2⟩ | ⟨e, h1, h2⟩
    · exact ⟨b, .inl ⟨e, h1, h2⟩⟩
    · exact ⟨0, .inr ⟨e, by omega, h2⟩⟩
  have bO := Boxed.new w1 22 (.slice none 0 0)
  have bS := Boxed.new (w1.alloc (.cells #[.slice none 0 0] 22)) 59 (.slice A (4 * m) c)
  have bN := Boxed.new ((w1.alloc (.cells #[.slice none 0 0] 22)).alloc (.cells #[.slice A (4 * m) c] 59)) 3 (.int .i64 4)
  rw [World.size_alloc] at bS
  rw [World.size_alloc, World.size_alloc] at bN
  refine wpIn_rangeFunc_ownF (F := Fence.wide) (n := 5) rfl (by omega) (gf := 58) (lb := #[.pointer (some ⟨w1.heap.size + 1, 0, none⟩), .pointer (some ⟨w1.heap.size + 1 + 1, 0, none⟩)]) rfl trivial (enters_of Try.func58 (by kernel_rfl) rfl)
    (chunk_stops_any Fence.wide (5 - 1) trivial rfl (by omega) (w1.heap.size + 1) (w1.heap.size + 1 + 1) b m c A ?hA (by omega) hc hcm
      (fun X Y => Y.cell? ⟨w1.heap.size + 1, 0, none⟩ = X.cell? ⟨w1.heap.size + 1, 0, none⟩ ∧ Y.cell? ⟨w1.heap.size + 1 + 1, 0, none⟩ = X.cell? ⟨w1.heap.size + 1 + 1, 0, none⟩) (fun _ => ⟨rfl, rfl⟩) (fun _ => ⟨rfl, rfl⟩) (fun h k => ⟨k.1.trans h.1, k.2.trans h.2⟩) (fun h => h)
      (((w1.alloc (.cells #[.slice none 0 0] 22)).alloc (.cells #[.slice A (4 * m) c] 59)).alloc (.cells #[.int .i64 4] 3)) (by simp; try omega) (by simp; try omega) (bS.alloc _).cell bN.cell)
    (fun h k => ⟨k.1.trans h.1, k.2.trans h.2⟩) ?hKb (Below.refl _ _) (fun _ => rfl)
    (TI ts w1.heap.size (.slice A (4 * m) c) (.int .i64 4) w1) (TX ts w.heap.size w)
    (TI_own ts _ _ _ _ w1 (Nat.le_refl _) (by simp; try omega)) (TX_own ts _ _ w (Nat.le_refl _) (by simp; try omega)) ?h0
    (fun x => { tmps := #[Value.string s, undef, Value.pointer (some { block := w.heap.size, off := 0 }),
          Value.pointer (some { block := w.heap.size + 1, off := 0 }), Value.slice A (4 * m) c, Value.int IntKind.i64 0,
          Value.pointer (some { block := w1.heap.size, off := 0 }),
          Value.slice (some { block := b, off := 4 * x.1 }) 4 4, undef, undef, undef, undef, undef,
          Value.tuple #[Value.slice A (4 * m) c, Value.int IntKind.i64 0], Value.string s,
          Value.tuple #[Value.slice A (4 * m) c, Value.int IntKind.i64 0], Value.slice A (4 * m) c,
          Value.int IntKind.i64 0, Value.int IntKind.i64 0, Value.bool false, Value.bool false, Value.slice A (4 * m) c,
          Value.int IntKind.i64 (4 * (m : Int)), Value.int IntKind.i64 0, Value.bool false, Value.bool false,
          Value.slice A (4 * m) c,
          Value.func (Fn.func 58) #[]
            #[Value.pointer (some { block := w1.heap.size + 1, off := 0 }),
              Value.pointer (some { block := w1.heap.size + 1 + 1, off := 0 })],
          Value.slice (some { block := b, off := 4 * x.1 }) 4 4, undef, undef, undef, undef, undef, undef, undef, undef,
          undef, undef, undef, undef, undef, undef, undef, undef, undef, undef, undef, undef, undef, undef, undef,
          undef, undef, undef, undef, undef, undef, undef, undef, undef, undef, undef, undef, undef, undef, undef,
          undef, undef, undef, undef, undef, undef], defers := [] }) ?assign ?body ?done ?stop
  case hA => rcases hA with ⟨e, _⟩ | ⟨e, h1, h2⟩
             · exact .inl e
             · exact .inr ⟨e, h1, h2⟩
  case h0 => exact ⟨⟨_, (bO.alloc _).alloc _, World.ownsRow_nil _ _ _ _, fun x hx => by cases hx⟩, (((Below.refl _ w1).alloc (Nat.le_refl _) _).alloc (by simp) _).alloc (by simp; try omega) _, bS.alloc _, bN⟩
  case hKb =>
    intro W l o o' hl ho hc _
    have hl2 : w1.heap.size + 3 ≤ l := by simpa using hl
    exact ⟨World.cell?_of_block (World.putObj_heap_other (by show w1.heap.size + 1 ≠ l; omega)), World.cell?_of_block (World.putObj_heap_other (by show w1.heap.size + 1 + 1 ≠ l; omega))⟩
  case assign =>
    intro l x W K hK
    gi_wp2
    exact hK
  case body =>
    rintro l pre x W ⟨⟨v, hv, hrow, hall⟩, hB, hbs, hbn⟩ hlt
    obtain ⟨k, hk⟩ := x
    have hA2 : A = some ⟨b, 0, none⟩ ∧ (∀ k, k < 4 * m → w1.cell? ⟨b, k, none⟩ = some (.string (nth ts k))) ∧ b < w1.heap.size := by
      rcases hA with h | ⟨_, h, _⟩
      · exact h
      · omega
    obtain ⟨rfl, hcl, hblt⟩ := hA2
    have c0 := (hB.cell (p := ⟨b, 4 * k, none⟩) hblt).trans (hcl (4 * k) (by omega))
    have c1 := (hB.cell (p := ⟨b, 4 * k + 1, none⟩) hblt).trans (hcl (4 * k + 1) (by omega))
    have c2 := (hB.cell (p := ⟨b, 4 * k + 2, none⟩) hblt).trans (hcl (4 * k + 2) (by omega))
    have c3 := (hB.cell (p := ⟨b, 4 * k + 3, none⟩) hblt).trans (hcl (4 * k + 3) (by omega))
    have HN := fun W => takeNum.walk (nth ts (4 * k)) W
    have HE : nAt ts (⟨k, hk⟩ : Fin m) = noteOf (nth ts (4 * k)) (nth ts (4 * k + 1)) (nth ts (4 * k + 2)) (nth ts (4 * k + 3)) := rfl
    have e1 := hcl (4 * k + 1) (by omega)
    have e2 := hcl (4 * k + 2) (by omega)
    have e3 := hcl (4 * k + 3) (by omega)
    dsimp only
    generalize nth ts (4 * k) = t0 at *
    generalize nth ts (4 * k + 1) = t1 at *
    generalize nth ts (4 * k + 2) = t2 at *
    generalize nth ts (4 * k + 3) = t3 at *
    unfold noteOf at HE
    generalize numW t0 = q at *
    obtain ⟨qn, qr, qe⟩ := q
    simp only at HE HN
    clear hA hcl
    have r0 := (hB.cell (p := ⟨w.heap.size, 0, none⟩) (by show w.heap.size < _; omega)).trans hR0.cell
    have r1 := (hB.cell (p := ⟨w.heap.size + 1, 0, none⟩) (by show w.heap.size + 1 < _; omega)).trans hR1.cell
    have f0 := (hB.frozen (p := ⟨w.heap.size, 0, none⟩) (by show w.heap.size < _; omega)).trans hR0.frozen
    have f1 := (hB.frozen (p := ⟨w.heap.size + 1, 0, none⟩) (by show w.heap.size + 1 < _; omega)).trans hR1.frozen
    have hnl : (pre.filterMap (nAt ts)).length ≤ 4000 := by have := List.length_filterMap_le (nAt ts) pre; omega
    have hb1 : (pre.filterMap (nAt ts)).length + 1 ≤ maxLen := by unfold maxLen; omega
    have hb2 : ((pre.filterMap (nAt ts)).length + 1) * 48 ≤ 140737488355328 := by omega
    by_cases hq : qe = 0 ∧ qr.toList.isEmpty = true
    · obtain ⟨rfl, hq⟩ := hq
      rw [if_pos ⟨rfl, hq⟩] at HE
      have HG := Lib.hid (fun W => change_gone.calls 9 true (goneN true) W (gone8_eq _))
      gi_wp2_with (refine ⟨trivial, ?_⟩; gi_at_call 36; refine (CallsIn.inRound l (callsIn_wide.2 (HN _))).mono ?_; rintro e w2 ⟨rfl, ⟨⟨nd, rfl⟩⟩⟩)
      have RB0 : Hid (RB w1.heap.size (.slice (some ⟨b, 0, none⟩) (4 * m) c) (.int .i64 4) v (pre.filterMap (nAt ts)).length (fl (pre.filterMap (nAt ts))) w1 W (W.drewN nd)) := RB.step ⟨hv, hrow, hbs, hbn, KeepsOthers.refl _, hB⟩ (belowN (Below.refl _ _) nd)
      have d1 : (W.drewN nd).cell? ⟨b, 4 * k + 1, none⟩ = some (.string t1) := c1
      have d2 : (W.drewN nd).cell? ⟨b, 4 * k + 2, none⟩ = some (.string t2) := c2
      have d3 : (W.drewN nd).cell? ⟨b, 4 * k + 3, none⟩ = some (.string t3) := c3
      clear c0 c1 c2 c3 hv hrow hB r0 r1 f0 f1 HN
      generalize W.drewN nd = W' at *
      have RBX := Lib.hid (RB0.out.step (W2 := W'.drew) ((Below.refl _ _).trans ⟨rfl, rfl, rfl, Nat.le_refl _, fun _ _ => rfl⟩))
      refine round_region_held (S := fun W' => W'.cell? ⟨b, 4 * k + 1, none⟩ = some (.string t1) ∧ W'.cell? ⟨b, 4 * k + 2, none⟩ = some (.string t2) ∧ W'.cell? ⟨b, 4 * k + 3, none⟩ = some (.string t3)) (by kernel_rfl) (by kernel_rfl) (by rintro ⟨a, w, h⟩; exact h) ⟨d1, d2, d3⟩ (fun hHeld => ?_)
      refine wpAnyH_take (i := 1) (oi := { dst := some 44, op := Op.move (Operand.tmp 8), type := 35, pos := "change.go:63", after := #[], guard := none }) (v := ?v1) rfl (by kernel_rfl) (by kernel_rfl) (by kernel_rfl) (fun _ _ _ h => h) (Or.inl ⟨by rfl, ?y1⟩) (by assumption) ?r1
      case y1 => (intro w hSw; obtain ⟨s1, s2, s3⟩ := hSw; go_simp; try with_reducible rfl)
      try simp only [Act.put, List.setIfInBounds_toArray, List.set_cons_zero, List.set_cons_succ]
      refine wpAnyH_take (i := 2) (oi := { dst := some 45, op := Op.move (Operand.tmp 7), type := 59, pos := "change.go:63", after := #[], guard := none }) (v := ?v2) rfl (by kernel_rfl) (by kernel_rfl) (by kernel_rfl) (fun _ _ _ h => h) (Or.inl ⟨by rfl, ?y2⟩) (by assumption) ?r2
      case y2 => (intro w hSw; obtain ⟨s1, s2, s3⟩ := hSw; go_simp; try with_reducible rfl)
      try simp only [Act.put, List.setIfInBounds_toArray, List.set_cons_zero, List.set_cons_succ]
      refine wpAnyH_take (i := 3) (oi := { dst := some 46, op := Op.indexAddr 59 (Operand.tmp 45) (Operand.const (Value.int IntKind.i64 1)), type := 0, pos := "change.go:63", after := #[{ on := 2, ground := Ground.data }], guard := none }) (v := ?v3) rfl (by kernel_rfl) (by kernel_rfl) (by kernel_rfl) (fun _ _ _ h => h) (Or.inl ⟨by rfl, ?y3⟩) (by assumption) ?r3
      case y3 => (intro w hSw; obtain ⟨s1, s2, s3⟩ := hSw; go_simp; try with_reducible rfl)
      try simp only [Act.put, List.setIfInBounds_toArray, List.set_cons_zero, List.set_cons_succ]
      refine wpAnyH_take (i := 4) (oi := { dst := some 47, op := Op.load 9 (Operand.tmp 46), type := 9, pos := "change.go:63", after := #[{ on := 3, ground := Ground.data }], guard := none }) (v := ?v4) rfl (by kernel_rfl) (by kernel_rfl) (by kernel_rfl) (fun _ _ _ h => h) (Or.inl ⟨by rfl, ?y4⟩) (by assumption) ?r4
      case y4 => (intro w hSw; obtain ⟨s1, s2, s3⟩ := hSw; go_simp; try with_reducible rfl)
      try simp only [Act.put, List.setIfInBounds_toArray, List.set_cons_zero, List.set_cons_succ]
      refine wpAnyH_take (i := 5) (oi := { dst := some 48, op := Op.move (Operand.tmp 7), type := 59, pos := "change.go:63", after := #[], guard := none }) (v := ?v5) rfl (by kernel_rfl) (by kernel_rfl) (by kernel_rfl) (fun _ _ _ h => h) (Or.inl ⟨by rfl, ?y5⟩) (by assumption) ?r5
      case y5 => (intro w hSw; obtain ⟨s1, s2, s3⟩ := hSw; go_simp; try with_reducible rfl)
      try simp only [Act.put, List.setIfInBounds_toArray, List.set_cons_zero, List.set_cons_succ]
      refine wpAnyH_take (i := 6) (oi := { dst := some 49, op := Op.indexAddr 59 (Operand.tmp 48) (Operand.const (Value.int IntKind.i64 2)), type := 0, pos := "change.go:63", after := #[{ on := 5, ground := Ground.data }], guard := none }) (v := ?v6) rfl (by kernel_rfl) (by kernel_rfl) (by kernel_rfl) (fun _ _ _ h => h) (Or.inl ⟨by rfl, ?y6⟩) (by assumption) ?r6
      case y6 => (intro w hSw; obtain ⟨s1, s2, s3⟩ := hSw; go_simp; try with_reducible rfl)
      try simp only [Act.put, List.setIfInBounds_toArray, List.set_cons_zero, List.set_cons_succ]
      refine wpAnyH_take (i := 7) (oi := { dst := some 50, op := Op.load 9 (Operand.tmp 49), type := 9, pos := "change.go:63", after := #[{ on := 6, ground := Ground.data }], guard := none }) (v := ?v7) rfl (by kernel_rfl) (by kernel_rfl) (by kernel_rfl) (fun _ _ _ h => h) (Or.inl ⟨by rfl, ?y7⟩) (by assumption) ?r7
      case y7 => (intro w hSw; obtain ⟨s1, s2, s3⟩ := hSw; go_simp; try with_reducible rfl)
      try simp only [Act.put, List.setIfInBounds_toArray, List.set_cons_zero, List.set_cons_succ]
      refine wpAnyH_take (i := 10) (oi := { dst := some 53, op := Op.move (Operand.tmp 7), type := 59, pos := "change.go:63", after := #[], guard := none }) (v := ?v8) rfl (by kernel_rfl) (by kernel_rfl) (by kernel_rfl) (fun _ _ _ h => h) (Or.inl ⟨by rfl, ?y8⟩) (by assumption) ?r8
      case y8 => (intro w hSw; obtain ⟨s1, s2, s3⟩ := hSw; go_simp; try with_reducible rfl)
      try simp only [Act.put, List.setIfInBounds_toArray, List.set_cons_zero, List.set_cons_succ]
      refine wpAnyH_take (i := 11) (oi := { dst := some 54, op := Op.indexAddr 59 (Operand.tmp 53) (Operand.const (Value.int IntKind.i64 3)), type := 0, pos := "change.go:63", after := #[{ on := 10, ground := Ground.data }], guard := none }) (v := ?v9) rfl (by kernel_rfl) (by kernel_rfl) (by kernel_rfl) (fun _ _ _ h => h) (Or.inl ⟨by rfl, ?y9⟩) (by assumption) ?r9
      case y9 => (intro w hSw; obtain ⟨s1, s2, s3⟩ := hSw; go_simp; try with_reducible rfl)
      try simp only [Act.put, List.setIfInBounds_toArray, List.set_cons_zero, List.set_cons_succ]
      refine wpAnyH_take (i := 12) (oi := { dst := some 55, op := Op.load 9 (Operand.tmp 54), type := 9, pos := "change.go:63", after := #[{ on := 11, ground := Ground.data }], guard := none }) (v := ?v10) rfl (by kernel_rfl) (by kernel_rfl) (by kernel_rfl) (fun _ _ _ h => h) (Or.inl ⟨by rfl, ?y10⟩) (by assumption) ?r10
      case y10 => (intro w hSw; obtain ⟨s1, s2, s3⟩ := hSw; go_simp; try with_reducible rfl)
      try simp only [Act.put, List.setIfInBounds_toArray, List.set_cons_zero, List.set_cons_succ]
      refine wpAnyH_ready (rs := [0, 8]) (by kernel_rfl) (by simp) ?_
      refine AllReadyH.cons (o := { dst := some 43, op := Op.load 22 (Operand.tmp 6), type := 22, pos := "change.go:63", after := #[], guard := none }) rfl (fun K hK => ?_) ?_
      · skip
        rw [if_pos (by rfl)]
        have hc0 := RBX.out.box.cell
        have hc1 := RB0.out.box.cell
        go_simp
        refine hK.out _ _ (by assumption) (fun hHeld => ?_)
        clear hK K hc0 hc1
        try simp only [Act.put, List.setIfInBounds_toArray, List.set_cons_zero, List.set_cons_succ]
        refine wpAnyH_ready (rs := [8]) (by kernel_rfl) (by simp) ?_
        refine AllReadyH.cons (o := { dst := some 51, op := Op.call { callee := Callee.value (Operand.func 30), args := #[Operand.const (Value.bool true)], argTypes := #[4] }, type := 9, pos := "change.go:63", after := #[], guard := none }) rfl (fun K hK => ?_) ?_
        · skip
          rw [if_pos (by rfl)]
          go_simp
          refine (HG.out _).mono ?_
          rintro e8 w8 ⟨rfl, hb8⟩
          refine hK.out _ _ (by obtain ⟨s1, s2, s3⟩ := hHeld; exact ⟨(keepc hb8 s1), (keepc hb8 s2), (keepc hb8 s3)⟩) (fun hHeld => ?_)
          replace RBX := Lib.hid (RBX.out.step hb8)
          clear hK K hb8
          try simp only [Act.put, List.setIfInBounds_toArray, List.set_cons_zero, List.set_cons_succ]
          refine wpAnyH_take (i := 9) (oi := { dst := some 52, op := Op.binOp BinOp.eql 9 (Operand.tmp 50) (Operand.tmp 51) 9, type := 4, pos := "change.go:63", after := #[{ on := 7, ground := Ground.data }, { on := 8, ground := Ground.data }], guard := none }) (v := ?v11) rfl (by kernel_rfl) (by kernel_rfl) (by kernel_rfl) (fun _ _ _ h => h) (Or.inl ⟨by rfl, ?y11⟩) (by assumption) ?r11
          case y11 => (intro w hSw; obtain ⟨s1, s2, s3⟩ := hSw; go_simp; try with_reducible rfl)
          try simp only [Act.put, List.setIfInBounds_toArray, List.set_cons_zero, List.set_cons_succ]
          refine wpAnyH_take (i := 13) (oi := { dst := some 56, op := Op.build 37 #[(0, Operand.tmp 47), (2, Operand.tmp 52), (1, Operand.tmp 55)], type := 37, pos := "change.go:63", after := #[{ on := 4, ground := Ground.data }, { on := 9, ground := Ground.data }, { on := 12, ground := Ground.data }], guard := none }) (v := ?v12) rfl (by kernel_rfl) (by kernel_rfl) (by kernel_rfl) (fun _ _ _ h => h) (Or.inl ⟨by rfl, ?y12⟩) (by assumption) ?r12
          case y12 => (intro w hSw; obtain ⟨s1, s2, s3⟩ := hSw; go_simp; try with_reducible rfl)
          try simp only [Act.put, List.setIfInBounds_toArray, List.set_cons_zero, List.set_cons_succ]
          refine wpAnyH_take (i := 14) (oi := { dst := some 57, op := Op.build 39 #[(0, Operand.tmp 44), (1, Operand.tmp 56)], type := 39, pos := "change.go:63", after := #[{ on := 1, ground := Ground.data }, { on := 13, ground := Ground.data }], guard := none }) (v := ?v13) rfl (by kernel_rfl) (by kernel_rfl) (by kernel_rfl) (fun _ _ _ h => h) (Or.inl ⟨by rfl, ?y13⟩) (by assumption) ?r13
          case y13 => (intro w hSw; obtain ⟨s1, s2, s3⟩ := hSw; go_simp; try with_reducible rfl)
          try simp only [Act.put, List.setIfInBounds_toArray, List.set_cons_zero, List.set_cons_succ]
          refine wpAnyH_ready (rs := [15]) (by kernel_rfl) (by simp) ?_
          refine AllReadyH.cons (o := { dst := some 58, op := Op.buildSlice 22 1 #[(0, Operand.tmp 57)], type := 22, pos := "change.go:63", after := #[{ on := 14, ground := Ground.data }], guard := none }) rfl (fun K hK => ?_) ?_
          · skip
            rw [if_pos (by rfl)]
            go_simp
            have BK : Hid ((w8.alloc (.cells #[.int .u64 qn, .string t1, .string t3, .bool (t2.toList == (goneN true).toList)] 39)).heap[w8.heap.size]? = some (.cells #[.int .u64 qn, .string t1, .string t3, .bool (t2.toList == (goneN true).toList)] 39 (0, 0))) := blk_new _ _
            have RB9 := Lib.hid (RBX.out.step (belowA w8 (.cells #[.int .u64 qn, .string t1, .string t3, .bool (t2.toList == (goneN true).toList)] 39)))
            have S9 := (⟨keepcA (.cells #[.int .u64 qn, .string t1, .string t3, .bool (t2.toList == (goneN true).toList)] 39) hHeld.1, keepcA _ hHeld.2.1, keepcA _ hHeld.2.2⟩ : (w8.alloc (.cells #[.int .u64 qn, .string t1, .string t3, .bool (t2.toList == (goneN true).toList)] 39)).cell? ⟨b, 4 * k + 1, none⟩ = some (.string t1) ∧ (w8.alloc (.cells #[.int .u64 qn, .string t1, .string t3, .bool (t2.toList == (goneN true).toList)] 39)).cell? ⟨b, 4 * k + 2, none⟩ = some (.string t2) ∧ (w8.alloc (.cells #[.int .u64 qn, .string t1, .string t3, .bool (t2.toList == (goneN true).toList)] 39)).cell? ⟨b, 4 * k + 3, none⟩ = some (.string t3))
            clear hHeld RBX
            have RBX := RB9
            clear RB9
            generalize w8.alloc (.cells #[.int .u64 qn, .string t1, .string t3, .bool (t2.toList == (goneN true).toList)] 39) = w9 at BK RBX S9 ⊢
            generalize w8.heap.size = g9 at BK ⊢
            refine hK.out _ _ S9 (fun hHeld => ?_)
            clear hK K S9
            try simp only [Act.put, List.setIfInBounds_toArray, List.set_cons_zero, List.set_cons_succ]
            refine wpAnyH_ready (rs := [16]) (by kernel_rfl) (by simp) ?_
            refine AllReadyH.cons (o := { dst := some 59, op := Op.call { callee := Callee.builtin Builtin.append, args := #[Operand.tmp 43, Operand.tmp 58], argTypes := #[22, 22] }, type := 22, pos := "change.go:63", after := #[{ on := 0, ground := Ground.data }, { on := 15, ground := Ground.data }, { on := 8, ground := Ground.chain }], guard := none }) rfl (fun K hK => ?_) AllReadyH.nil
            refine step_append_lies _ rfl (.tmp 43) (.tmp 58) 22 rfl w1.heap.size 39 i0 (.agg #[(.int .u64 0), (.string ⟨#[]⟩), (.string ⟨#[]⟩), (.bool false)]) 4 48 Try.underlying22 hi hy0 hy1 hy2 rfl (by decide) v (pre.filterMap (nAt ts)).length (fl (pre.filterMap (nAt ts))) rfl RBX.out.row _ 1 1 [.int .u64 qn, .string t1, .string t3, .bool (t2.toList == (goneN true).toList)] rfl rfl (World.news_of_block BK.out) (enc_one ⟨qn, ⟨t1, t3, _⟩⟩) (by decide) hb1 hb2 (Nat.le_of_lt RBX.out.box.lt) _ rfl ?_
            intro g cap w10 hown hgrow _ _
            obtain ⟨hx, hbx, RBY⟩ := RBX.out.append hown hgrow
            refine hK.out _ _ ⟨(hbx.cell (p := ⟨b, 4 * k + 1, none⟩) hblt).trans e1, (hbx.cell (p := ⟨b, 4 * k + 2, none⟩) hblt).trans e2, (hbx.cell (p := ⟨b, 4 * k + 3, none⟩) hblt).trans e3⟩ (fun hHeld => ?_)
            clear hK K hHeld
            try simp only [Act.put, List.setIfInBounds_toArray, List.set_cons_zero, List.set_cons_succ]
            refine wpAnyH_ready (rs := [17]) (by kernel_rfl) (by simp) ?_
            refine AllReadyH.cons (o := { dst := none, op := Op.store 22 (Operand.tmp 6) (Operand.tmp 59), type := 0, pos := "change.go:63", after := #[{ on := 16, ground := Ground.data }, { on := 16, ground := Ground.chain }, { on := 0, ground := Ground.phase }, { on := 1, ground := Ground.phase }, { on := 2, ground := Ground.phase }, { on := 3, ground := Ground.phase }, { on := 4, ground := Ground.phase }, { on := 5, ground := Ground.phase }, { on := 6, ground := Ground.phase }, { on := 7, ground := Ground.phase }, { on := 8, ground := Ground.phase }, { on := 9, ground := Ground.phase }, { on := 10, ground := Ground.phase }, { on := 11, ground := Ground.phase }, { on := 12, ground := Ground.phase }, { on := 13, ground := Ground.phase }, { on := 14, ground := Ground.phase }, { on := 15, ground := Ground.phase }, { on := 16, ground := Ground.phase }], guard := none }) rfl (fun K hK => ?_) AllReadyH.nil
            rw [if_pos (by rfl)]
            have hxc := hx.cell
            have hxf := hx.frozen
            have hRBY := Lib.hid RBY
            clear RBY hgrow hown hbx RBX
            go_simp
            refine hK.out _ _ ⟨(hRBY.out.bel.cell (p := ⟨b, 4 * k + 1, none⟩) hblt).trans e1, (hRBY.out.bel.cell (p := ⟨b, 4 * k + 2, none⟩) hblt).trans e2, (hRBY.out.bel.cell (p := ⟨b, 4 * k + 3, none⟩) hblt).trans e3⟩ (fun hHeld => ?_)
            refine wpAnyH_done (by kernel_rfl) ?_ _
            exact TI_next hall HE hbs hbn hRBY.out
          exact AllReadyH.nil
        exact AllReadyH.nil
      refine AllReadyH.cons (o := { dst := some 51, op := Op.call { callee := Callee.value (Operand.func 30), args := #[Operand.const (Value.bool true)], argTypes := #[4] }, type := 9, pos := "change.go:63", after := #[], guard := none }) rfl (fun K hK => ?_) ?_
      · skip
        rw [if_pos (by rfl)]
        go_simp
        refine (HG.out _).mono ?_
        rintro e8 w8 ⟨rfl, hb8⟩
        refine hK.out _ _ (by obtain ⟨s1, s2, s3⟩ := hHeld; exact ⟨(keepc hb8 s1), (keepc hb8 s2), (keepc hb8 s3)⟩) (fun hHeld => ?_)
        replace RBX := Lib.hid (RBX.out.step hb8)
        clear hK K hb8
        try simp only [Act.put, List.setIfInBounds_toArray, List.set_cons_zero, List.set_cons_succ]
        refine wpAnyH_take (i := 9) (oi := { dst := some 52, op := Op.binOp BinOp.eql 9 (Operand.tmp 50) (Operand.tmp 51) 9, type := 4, pos := "change.go:63", after := #[{ on := 7, ground := Ground.data }, { on := 8, ground := Ground.data }], guard := none }) (v := ?v14) rfl (by kernel_rfl) (by kernel_rfl) (by kernel_rfl) (fun _ _ _ h => h) (Or.inl ⟨by rfl, ?y14⟩) (by assumption) ?r14
        case y14 => (intro w hSw; obtain ⟨s1, s2, s3⟩ := hSw; go_simp; try with_reducible rfl)
        try simp only [Act.put, List.setIfInBounds_toArray, List.set_cons_zero, List.set_cons_succ]
        refine wpAnyH_take (i := 13) (oi := { dst := some 56, op := Op.build 37 #[(0, Operand.tmp 47), (2, Operand.tmp 52), (1, Operand.tmp 55)], type := 37, pos := "change.go:63", after := #[{ on := 4, ground := Ground.data }, { on := 9, ground := Ground.data }, { on := 12, ground := Ground.data }], guard := none }) (v := ?v15) rfl (by kernel_rfl) (by kernel_rfl) (by kernel_rfl) (fun _ _ _ h => h) (Or.inl ⟨by rfl, ?y15⟩) (by assumption) ?r15
        case y15 => (intro w hSw; obtain ⟨s1, s2, s3⟩ := hSw; go_simp; try with_reducible rfl)
        try simp only [Act.put, List.setIfInBounds_toArray, List.set_cons_zero, List.set_cons_succ]
        refine wpAnyH_take (i := 14) (oi := { dst := some 57, op := Op.build 39 #[(0, Operand.tmp 44), (1, Operand.tmp 56)], type := 39, pos := "change.go:63", after := #[{ on := 1, ground := Ground.data }, { on := 13, ground := Ground.data }], guard := none }) (v := ?v16) rfl (by kernel_rfl) (by kernel_rfl) (by kernel_rfl) (fun _ _ _ h => h) (Or.inl ⟨by rfl, ?y16⟩) (by assumption) ?r16
        case y16 => (intro w hSw; obtain ⟨s1, s2, s3⟩ := hSw; go_simp; try with_reducible rfl)
        try simp only [Act.put, List.setIfInBounds_toArray, List.set_cons_zero, List.set_cons_succ]
        refine wpAnyH_ready (rs := [0, 15]) (by kernel_rfl) (by simp) ?_
        refine AllReadyH.cons (o := { dst := some 43, op := Op.load 22 (Operand.tmp 6), type := 22, pos := "change.go:63", after := #[], guard := none }) rfl (fun K hK => ?_) ?_
        · skip
          rw [if_pos (by rfl)]
          have hc0 := RBX.out.box.cell
          have hc1 := RB0.out.box.cell
          go_simp
          refine hK.out _ _ (by assumption) (fun hHeld => ?_)
          clear hK K hc0 hc1
          try simp only [Act.put, List.setIfInBounds_toArray, List.set_cons_zero, List.set_cons_succ]
          refine wpAnyH_ready (rs := [15]) (by kernel_rfl) (by simp) ?_
          refine AllReadyH.cons (o := { dst := some 58, op := Op.buildSlice 22 1 #[(0, Operand.tmp 57)], type := 22, pos := "change.go:63", after := #[{ on := 14, ground := Ground.data }], guard := none }) rfl (fun K hK => ?_) ?_
          · skip
            rw [if_pos (by rfl)]
            go_simp
            have BK : Hid ((w8.alloc (.cells #[.int .u64 qn, .string t1, .string t3, .bool (t2.toList == (goneN true).toList)] 39)).heap[w8.heap.size]? = some (.cells #[.int .u64 qn, .string t1, .string t3, .bool (t2.toList == (goneN true).toList)] 39 (0, 0))) := blk_new _ _
            have RB9 := Lib.hid (RBX.out.step (belowA w8 (.cells #[.int .u64 qn, .string t1, .string t3, .bool (t2.toList == (goneN true).toList)] 39)))
            have S9 := (⟨keepcA (.cells #[.int .u64 qn, .string t1, .string t3, .bool (t2.toList == (goneN true).toList)] 39) hHeld.1, keepcA _ hHeld.2.1, keepcA _ hHeld.2.2⟩ : (w8.alloc (.cells #[.int .u64 qn, .string t1, .string t3, .bool (t2.toList == (goneN true).toList)] 39)).cell? ⟨b, 4 * k + 1, none⟩ = some (.string t1) ∧ (w8.alloc (.cells #[.int .u64 qn, .string t1, .string t3, .bool (t2.toList == (goneN true).toList)] 39)).cell? ⟨b, 4 * k + 2, none⟩ = some (.string t2) ∧ (w8.alloc (.cells #[.int .u64 qn, .string t1, .string t3, .bool (t2.toList == (goneN true).toList)] 39)).cell? ⟨b, 4 * k + 3, none⟩ = some (.string t3))
            clear hHeld RBX
            have RBX := RB9
            clear RB9
            generalize w8.alloc (.cells #[.int .u64 qn, .string t1, .string t3, .bool (t2.toList == (goneN true).toList)] 39) = w9 at BK RBX S9 ⊢
            generalize w8.heap.size = g9 at BK ⊢
            refine hK.out _ _ S9 (fun hHeld => ?_)
            clear hK K S9
            try simp only [Act.put, List.setIfInBounds_toArray, List.set_cons_zero, List.set_cons_succ]
            refine wpAnyH_ready (rs := [16]) (by kernel_rfl) (by simp) ?_
            refine AllReadyH.cons (o := { dst := some 59, op := Op.call { callee := Callee.builtin Builtin.append, args := #[Operand.tmp 43, Operand.tmp 58], argTypes := #[22, 22] }, type := 22, pos := "change.go:63", after := #[{ on := 0, ground := Ground.data }, { on := 15, ground := Ground.data }, { on := 8, ground := Ground.chain }], guard := none }) rfl (fun K hK => ?_) AllReadyH.nil
            refine step_append_lies _ rfl (.tmp 43) (.tmp 58) 22 rfl w1.heap.size 39 i0 (.agg #[(.int .u64 0), (.string ⟨#[]⟩), (.string ⟨#[]⟩), (.bool false)]) 4 48 Try.underlying22 hi hy0 hy1 hy2 rfl (by decide) v (pre.filterMap (nAt ts)).length (fl (pre.filterMap (nAt ts))) rfl RBX.out.row _ 1 1 [.int .u64 qn, .string t1, .string t3, .bool (t2.toList == (goneN true).toList)] rfl rfl (World.news_of_block BK.out) (enc_one ⟨qn, ⟨t1, t3, _⟩⟩) (by decide) hb1 hb2 (Nat.le_of_lt RBX.out.box.lt) _ rfl ?_
            intro g cap w10 hown hgrow _ _
            obtain ⟨hx, hbx, RBY⟩ := RBX.out.append hown hgrow
            refine hK.out _ _ ⟨(hbx.cell (p := ⟨b, 4 * k + 1, none⟩) hblt).trans e1, (hbx.cell (p := ⟨b, 4 * k + 2, none⟩) hblt).trans e2, (hbx.cell (p := ⟨b, 4 * k + 3, none⟩) hblt).trans e3⟩ (fun hHeld => ?_)
            clear hK K hHeld
            try simp only [Act.put, List.setIfInBounds_toArray, List.set_cons_zero, List.set_cons_succ]
            refine wpAnyH_ready (rs := [17]) (by kernel_rfl) (by simp) ?_
            refine AllReadyH.cons (o := { dst := none, op := Op.store 22 (Operand.tmp 6) (Operand.tmp 59), type := 0, pos := "change.go:63", after := #[{ on := 16, ground := Ground.data }, { on := 16, ground := Ground.chain }, { on := 0, ground := Ground.phase }, { on := 1, ground := Ground.phase }, { on := 2, ground := Ground.phase }, { on := 3, ground := Ground.phase }, { on := 4, ground := Ground.phase }, { on := 5, ground := Ground.phase }, { on := 6, ground := Ground.phase }, { on := 7, ground := Ground.phase }, { on := 8, ground := Ground.phase }, { on := 9, ground := Ground.phase }, { on := 10, ground := Ground.phase }, { on := 11, ground := Ground.phase }, { on := 12, ground := Ground.phase }, { on := 13, ground := Ground.phase }, { on := 14, ground := Ground.phase }, { on := 15, ground := Ground.phase }, { on := 16, ground := Ground.phase }], guard := none }) rfl (fun K hK => ?_) AllReadyH.nil
            rw [if_pos (by rfl)]
            have hxc := hx.cell
            have hxf := hx.frozen
            have hRBY := Lib.hid RBY
            clear RBY hgrow hown hbx RBX
            go_simp
            refine hK.out _ _ ⟨(hRBY.out.bel.cell (p := ⟨b, 4 * k + 1, none⟩) hblt).trans e1, (hRBY.out.bel.cell (p := ⟨b, 4 * k + 2, none⟩) hblt).trans e2, (hRBY.out.bel.cell (p := ⟨b, 4 * k + 3, none⟩) hblt).trans e3⟩ (fun hHeld => ?_)
            refine wpAnyH_done (by kernel_rfl) ?_ _
            exact TI_next hall HE hbs hbn hRBY.out
          exact AllReadyH.nil
        refine AllReadyH.cons (o := { dst := some 58, op := Op.buildSlice 22 1 #[(0, Operand.tmp 57)], type := 22, pos := "change.go:63", after := #[{ on := 14, ground := Ground.data }], guard := none }) rfl (fun K hK => ?_) ?_
        · skip
          rw [if_pos (by rfl)]
          go_simp
          have BK : Hid ((w8.alloc (.cells #[.int .u64 qn, .string t1, .string t3, .bool (t2.toList == (goneN true).toList)] 39)).heap[w8.heap.size]? = some (.cells #[.int .u64 qn, .string t1, .string t3, .bool (t2.toList == (goneN true).toList)] 39 (0, 0))) := blk_new _ _
          have RB9 := Lib.hid (RBX.out.step (belowA w8 (.cells #[.int .u64 qn, .string t1, .string t3, .bool (t2.toList == (goneN true).toList)] 39)))
          have S9 := (⟨keepcA (.cells #[.int .u64 qn, .string t1, .string t3, .bool (t2.toList == (goneN true).toList)] 39) hHeld.1, keepcA _ hHeld.2.1, keepcA _ hHeld.2.2⟩ : (w8.alloc (.cells #[.int .u64 qn, .string t1, .string t3, .bool (t2.toList == (goneN true).toList)] 39)).cell? ⟨b, 4 * k + 1, none⟩ = some (.string t1) ∧ (w8.alloc (.cells #[.int .u64 qn, .string t1, .string t3, .bool (t2.toList == (goneN true).toList)] 39)).cell? ⟨b, 4 * k + 2, none⟩ = some (.string t2) ∧ (w8.alloc (.cells #[.int .u64 qn, .string t1, .string t3, .bool (t2.toList == (goneN true).toList)] 39)).cell? ⟨b, 4 * k + 3, none⟩ = some (.string t3))
          clear hHeld RBX
          have RBX := RB9
          clear RB9
          generalize w8.alloc (.cells #[.int .u64 qn, .string t1, .string t3, .bool (t2.toList == (goneN true).toList)] 39) = w9 at BK RBX S9 ⊢
          generalize w8.heap.size = g9 at BK ⊢
          refine hK.out _ _ S9 (fun hHeld => ?_)
          clear hK K S9
          try simp only [Act.put, List.setIfInBounds_toArray, List.set_cons_zero, List.set_cons_succ]
          refine wpAnyH_ready (rs := [0]) (by kernel_rfl) (by simp) ?_
          refine AllReadyH.cons (o := { dst := some 43, op := Op.load 22 (Operand.tmp 6), type := 22, pos := "change.go:63", after := #[], guard := none }) rfl (fun K hK => ?_) ?_
          · skip
            rw [if_pos (by rfl)]
            have hc0 := RBX.out.box.cell
            have hc1 := RB0.out.box.cell
            go_simp
            refine hK.out _ _ (by assumption) (fun hHeld => ?_)
            clear hK K hc0 hc1
            try simp only [Act.put, List.setIfInBounds_toArray, List.set_cons_zero, List.set_cons_succ]
            refine wpAnyH_ready (rs := [16]) (by kernel_rfl) (by simp) ?_
            refine AllReadyH.cons (o := { dst := some 59, op := Op.call { callee := Callee.builtin Builtin.append, args := #[Operand.tmp 43, Operand.tmp 58], argTypes := #[22, 22] }, type := 22, pos := "change.go:63", after := #[{ on := 0, ground := Ground.data }, { on := 15, ground := Ground.data }, { on := 8, ground := Ground.chain }], guard := none }) rfl (fun K hK => ?_) AllReadyH.nil
            refine step_append_lies _ rfl (.tmp 43) (.tmp 58) 22 rfl w1.heap.size 39 i0 (.agg #[(.int .u64 0), (.string ⟨#[]⟩), (.string ⟨#[]⟩), (.bool false)]) 4 48 Try.underlying22 hi hy0 hy1 hy2 rfl (by decide) v (pre.filterMap (nAt ts)).length (fl (pre.filterMap (nAt ts))) rfl RBX.out.row _ 1 1 [.int .u64 qn, .string t1, .string t3, .bool (t2.toList == (goneN true).toList)] rfl rfl (World.news_of_block BK.out) (enc_one ⟨qn, ⟨t1, t3, _⟩⟩) (by decide) hb1 hb2 (Nat.le_of_lt RBX.out.box.lt) _ rfl ?_
            intro g cap w10 hown hgrow _ _
            obtain ⟨hx, hbx, RBY⟩ := RBX.out.append hown hgrow
            refine hK.out _ _ ⟨(hbx.cell (p := ⟨b, 4 * k + 1, none⟩) hblt).trans e1, (hbx.cell (p := ⟨b, 4 * k + 2, none⟩) hblt).trans e2, (hbx.cell (p := ⟨b, 4 * k + 3, none⟩) hblt).trans e3⟩ (fun hHeld => ?_)
            clear hK K hHeld
            try simp only [Act.put, List.setIfInBounds_toArray, List.set_cons_zero, List.set_cons_succ]
            refine wpAnyH_ready (rs := [17]) (by kernel_rfl) (by simp) ?_
            refine AllReadyH.cons (o := { dst := none, op := Op.store 22 (Operand.tmp 6) (Operand.tmp 59), type := 0, pos := "change.go:63", after := #[{ on := 16, ground := Ground.data }, { on := 16, ground := Ground.chain }, { on := 0, ground := Ground.phase }, { on := 1, ground := Ground.phase }, { on := 2, ground := Ground.phase }, { on := 3, ground := Ground.phase }, { on := 4, ground := Ground.phase }, { on := 5, ground := Ground.phase }, { on := 6, ground := Ground.phase }, { on := 7, ground := Ground.phase }, { on := 8, ground := Ground.phase }, { on := 9, ground := Ground.phase }, { on := 10, ground := Ground.phase }, { on := 11, ground := Ground.phase }, { on := 12, ground := Ground.phase }, { on := 13, ground := Ground.phase }, { on := 14, ground := Ground.phase }, { on := 15, ground := Ground.phase }, { on := 16, ground := Ground.phase }], guard := none }) rfl (fun K hK => ?_) AllReadyH.nil
            rw [if_pos (by rfl)]
            have hxc := hx.cell
            have hxf := hx.frozen
            have hRBY := Lib.hid RBY
            clear RBY hgrow hown hbx RBX
            go_simp
            refine hK.out _ _ ⟨(hRBY.out.bel.cell (p := ⟨b, 4 * k + 1, none⟩) hblt).trans e1, (hRBY.out.bel.cell (p := ⟨b, 4 * k + 2, none⟩) hblt).trans e2, (hRBY.out.bel.cell (p := ⟨b, 4 * k + 3, none⟩) hblt).trans e3⟩ (fun hHeld => ?_)
            refine wpAnyH_done (by kernel_rfl) ?_ _
            exact TI_next hall HE hbs hbn hRBY.out
          exact AllReadyH.nil
        exact AllReadyH.nil
      exact AllReadyH.nil
    · rw [if_neg hq] at HE
      have hq2 : qe ≠ 0 ∨ qr.toList.isEmpty = false := by
        by_cases h : qe = 0
        · exact .inr (by cases h2 : qr.toList.isEmpty; rfl; exact absurd ⟨h, h2⟩ hq)
        · exact .inl h
      rcases hq2 with hq2 | hq2
      · gi_wp2_with (refine ⟨trivial, ?_⟩; gi_at_call 36; refine (CallsIn.inRound l (callsIn_wide.2 (HN _))).mono ?_; rintro e w2 ⟨rfl, ⟨⟨nd, rfl⟩⟩⟩)
        exact TX_ret (Nat.le_refl _) (by omega) hb0 hB HE r0 r1
      · gi_wp2_with (refine ⟨trivial, ?_⟩; gi_at_call 36; refine (CallsIn.inRound l (callsIn_wide.2 (HN _))).mono ?_; rintro e w2 ⟨rfl, ⟨⟨nd, rfl⟩⟩⟩)
        all_goals exact TX_ret (Nat.le_refl _) (by omega) hb0 hB HE r0 r1
  case done =>
    rintro D ys W hD rfl ⟨⟨v, hv, hrow, hall⟩, hB, hbs, hbn⟩ hK
    have hN : NRow W w1.heap.size v ((List.finRange m).filterMap (nAt ts)) := hrow
    have hT : takeR s = if (layR ((List.finRange m).filterMap (nAt ts))).2 = 0 ∧ (layR ((List.finRange m).filterMap (nAt ts))).1 = s then ((List.finRange m).filterMap (nAt ts), 0) else ([], 2) := by
      unfold takeR
      rw [hts]
      simp only
      rw [if_pos ⟨trivial, by omega⟩, takeN_all hm hall]
    obtain ⟨A2, c2, rfl, hc2, hC⟩ := hN.reads
    have HT := Lib.hid hT
    have HN := Lib.hid hN
    clear hT hall hbs hbn hN hrow
    have r0 := (hB.cell (p := ⟨w.heap.size, 0, none⟩) (by show w.heap.size < _; omega)).trans hR0.cell
    have r1 := (hB.cell (p := ⟨w.heap.size + 1, 0, none⟩) (by show w.heap.size + 1 < _; omega)).trans hR1.cell
    have f0 := (hB.frozen (p := ⟨w.heap.size, 0, none⟩) (by show w.heap.size < _; omega)).trans hR0.frozen
    have f1 := (hB.frozen (p := ⟨w.heap.size + 1, 0, none⟩) (by show w.heap.size + 1 < _; omega)).trans hR1.frozen
    have hRlt : w.heap.size + 1 < W.heap.size := by have := hB.size; omega
    have HL := Lib.hid (lay.walk A2 c2 _ W hC)
    have hvc := hv.cell
    have HB := Lib.hid (hb0.trans (hB.mono (by omega)))
    have hDs : w.heap.size ≤ D := by simp at hD; omega
    have hDlt : D < W.heap.size := (Array.getElem?_eq_some_iff.1 hK).1
    generalize hns : (List.finRange m).filterMap (nAt ts) = ns at *
    have HC := Lib.hid hC
    clear hC hns hB hD
    generalize layR ns = lr at *
    obtain ⟨own, le⟩ := lr
    have HV := Lib.hid hv
    by_cases hl : le = 0 ∧ own = s
    · obtain ⟨rfl, rfl⟩ := hl
      gi_wp2_with (refine ⟨trivial, ?_⟩; gi_at_call 11; refine (callsIn_wide.2 HL.out).mono ?_; rintro e w3 ⟨rfl, hb3⟩; have v3 := (hb3.cell (p := ⟨w1.heap.size, 0, none⟩) HV.out.lt).trans hvc; have q0 := (hb3.cell (p := ⟨w.heap.size, 0, none⟩) (by show w.heap.size < _; omega)).trans r0; have q1 := (hb3.cell (p := ⟨w.heap.size + 1, 0, none⟩) hRlt).trans r1; have g0 := (hb3.frozen (p := ⟨w.heap.size, 0, none⟩) (by show w.heap.size < _; omega)).trans f0; have g1 := (hb3.frozen (p := ⟨w.heap.size + 1, 0, none⟩) hRlt).trans f1; have HB3 := Lib.hid hb3; clear hb3)
      obtain ⟨hK5, z0, z1, hbF⟩ := fin_world (D := D) (v0 := .slice A2 ns.length c2) (v1 := .int .i64 0) ((HB3.out.block _ hDlt).trans hK) q0 q1 (Nat.le_refl _) hDs (Nat.le_trans HB.out.size HB3.out.size) (HB.out.trans (HB3.out.mono (by omega)))
      refine ⟨by simp, .inl ⟨_, _, rfl, run_takeDeferred hK5, ?_⟩⟩
      rw [HT.out, if_pos (by simp)]
      exact ⟨.tuple #[.slice A2 ns.length c2, .int .i64 0], by simp [results, Try.f13, go_sem, z0, z1], _, rfl, fin_row (HN.out.below HB3.out) (by omega) hK5, hbF⟩
    · gi_wp2_with (refine ⟨trivial, ?_⟩; gi_at_call 11; refine (callsIn_wide.2 HL.out).mono ?_; rintro e w3 ⟨rfl, hb3⟩; have v3 := (hb3.cell (p := ⟨w1.heap.size, 0, none⟩) HV.out.lt).trans hvc; have q0 := (hb3.cell (p := ⟨w.heap.size, 0, none⟩) (by show w.heap.size < _; omega)).trans r0; have q1 := (hb3.cell (p := ⟨w.heap.size + 1, 0, none⟩) hRlt).trans r1; have g0 := (hb3.frozen (p := ⟨w.heap.size, 0, none⟩) (by show w.heap.size < _; omega)).trans f0; have g1 := (hb3.frozen (p := ⟨w.heap.size + 1, 0, none⟩) hRlt).trans f1; have HB3 := Lib.hid hb3; clear hb3)
      all_goals (try (exfalso; rename_i ha hb; exact hl ⟨ha, bytes_eq (by simpa using hb)⟩))
      all_goals
        obtain ⟨hK5, z0, z1, hbF⟩ := fin_world (D := D) (v0 := .slice none 0 0) (v1 := .int .i64 2) ((HB3.out.block _ hDlt).trans hK) q0 q1 (Nat.le_refl _) hDs (Nat.le_trans HB.out.size HB3.out.size) (HB.out.trans (HB3.out.mono (by omega)))
        refine ⟨by simp, .inl ⟨_, _, rfl, run_takeDeferred hK5, ?_⟩⟩
        rw [HT.out, if_neg hl]
        exact ⟨.tuple #[.slice none 0 0, .int .i64 2], by simp [results, Try.f13, go_sem, z0, z1], _, rfl, NRow.nil _ _, hbF⟩
  case stop =>
    rintro D c pre W hD hpre ⟨rfl, ⟨x, hx, hn⟩, q0, q1, hB⟩ hK
    have hT : takeR s = ([], 2) := by
      unfold takeR
      rw [hts]
      simp only
      rw [if_pos ⟨trivial, by omega⟩, takeN_none hm hn]
    have HT := Lib.hid hT
    clear hT
    gi_wp2
    refine ⟨by simp, .inl ⟨_, _, rfl, run_takeDeferred hK, ?_⟩⟩
    have z0 := cell_kept q0 (grownBy_putObj' _ D (.deferred none)) (fun r e => by cases e; exact ⟨_, hK, rfl⟩)
    have z1 := cell_kept q1 (grownBy_putObj' _ D (.deferred none)) (fun r e => by cases e; exact ⟨_, hK, rfl⟩)
    rw [HT.out]
    refine ⟨.tuple #[.slice none 0 0, .int .i64 2], by simp [results, Try.f13, go_sem, z0, z1], _, rfl, NRow.nil _ _, hB.trans (belowK_b (w := w) (Nat.le_refl _) W D _ _ (by simp at hD; omega) hK rfl rfl)⟩

end Go.Proofs.Ytipahpkdddijmaa.Q

-- F13
namespace Go.Proofs.Ytipahpkdddijmaa.Q
open Go.RowKit Go.Shelf Go.Proofs.YtipahpkdddijmaaW.PrintWords
set_option linter.unusedVariables false
set_option linter.unusedSimpArgs false
set_option maxRecDepth 100000 in
set_option maxHeartbeats 4000000 in
/-- change.Take, at any octets. -/
theorem take_any.walk (s : ByteArray) (w : World) :
    Calls Try.prog 13 #[.string s] w fun e w' => ∃ v, e = .returned (.tuple #[v, .int .i64 (takeR s).2]) ∧ NRow w' w.heap.size v (takeR s).1 ∧ Below w.heap.size w w' := by
  by_cases hc : (wholeW s).2 = 0 ∧ (wholeW s).1.length % 4 = 0
  · obtain ⟨ts, hts⟩ : ∃ ts, wholeW s = (ts, 0) := ⟨(wholeW s).1, by rw [← hc.1]⟩
    rw [hts] at hc
    exact take_all.walk s w ts (ts.length / 4) hts (by have := hc.2; simp only at this; omega)
  · have HT : takeR s = ([], 2) := by unfold takeR; rw [if_neg hc]
    rw [HT]
    have HW := Lib.hid (whole.walk s)
    generalize wholeW s = q at *
    obtain ⟨ts, e⟩ := q
    simp only at hc HW
    have hc' : e ≠ 0 ∨ (e = 0 ∧ ((ts.length : Int).tmod 4 == 0) = false) := by
      by_cases h : e = 0
      · refine .inr ⟨h, ?_⟩
        rw [beq_eq_false_iff_ne]
        intro h2
        rw [Int.tmod_eq_emod_of_nonneg (by omega)] at h2
        exact hc ⟨h, by omega⟩
      · exact .inl h
    have hc2 : e = 0 → ((ts.length : Int) % 4 != 0) = true := by
      intro h
      rw [bne_iff_ne]
      intro h2
      exact hc ⟨h, by omega⟩
    rcases hc' with hc' | ⟨rfl, hc'⟩
    · go_enter Try.func13, Try.ntmps13
      go_wp2_with (go_at_call 34; go_must (refine (HW.out _).mono ?_; rintro e w1 ⟨v, rfl, ho, hb⟩; obtain ⟨A, b, c, rfl, hcc, hcm, hA⟩ := string_row ho; clear ho hcc hcm hA; have HB1 := Lib.hid hb; have hR0 : Boxed w1 w.heap.size 22 (.slice none 0 0) := (hb.block _ (by simp; try omega)).trans (((Boxed.new w 22 (.slice none 0 0)).alloc _)); have hR1 : Boxed w1 (w.heap.size + 1) 24 (.int .i64 0) := (hb.block _ (by simp)).trans (by have := Boxed.new (w.alloc (.cells #[.slice none 0 0] 22)) 24 (.int .i64 0); rwa [World.size_alloc] at this); have q0 := hR0.cell; have q1 := hR1.cell; have g0 := hR0.frozen; have g1 := hR1.frozen; have HB2 := Lib.hid ((((Below.refl _ w).alloc (Nat.le_refl _) (.cells #[.slice none 0 0] 22)).alloc (by simp) (.cells #[.int .i64 0] 24)).trans (hb.mono (by simp; try omega)) : Below w.heap.size w w1); clear hb hR0 hR1))
      have e0 : (w1.setCell ⟨w.heap.size, 0, none⟩ (.slice none 0 0)).cell? ⟨w.heap.size, 0, none⟩ = some (.slice none 0 0) := World.cell?_setCell_same' _ _ _ (by rw [q0]; rfl)
      have e2 : ((w1.setCell ⟨w.heap.size, 0, none⟩ (.slice none 0 0)).setCell ⟨w.heap.size + 1, 0, none⟩ (.int .i64 2)).cell? ⟨w.heap.size, 0, none⟩ = some (.slice none 0 0) := by
        rw [World.cell?_of_block (Below.heap_setCell _ _ _ _ (by show w.heap.size ≠ w.heap.size + 1; omega))]; exact e0
      refine bodyPost_ret (v := .tuple #[.slice none 0 0, .int .i64 2]) ?_ rfl ?_
      · simp [results, Try.results13, go_sem, q0, q1, e0, e2]
      · exact ⟨_, rfl, NRow.nil _ _, (HB2.out.setCell (p := ⟨w.heap.size, 0, none⟩) (Nat.le_refl _) _).setCell (p := ⟨w.heap.size + 1, 0, none⟩) (by show w.heap.size ≤ w.heap.size + 1; omega) _⟩
    · have hc3 := hc2 rfl
      go_enter Try.func13, Try.ntmps13
      go_wp2_with (go_at_call 34; go_must (refine (HW.out _).mono ?_; rintro e w1 ⟨v, rfl, ho, hb⟩; obtain ⟨A, b, c, rfl, hcc, hcm, hA⟩ := string_row ho; clear ho hcc hcm hA; have HB1 := Lib.hid hb; have hR0 : Boxed w1 w.heap.size 22 (.slice none 0 0) := (hb.block _ (by simp; try omega)).trans (((Boxed.new w 22 (.slice none 0 0)).alloc _)); have hR1 : Boxed w1 (w.heap.size + 1) 24 (.int .i64 0) := (hb.block _ (by simp)).trans (by have := Boxed.new (w.alloc (.cells #[.slice none 0 0] 22)) 24 (.int .i64 0); rwa [World.size_alloc] at this); have q0 := hR0.cell; have q1 := hR1.cell; have g0 := hR0.frozen; have g1 := hR1.frozen; have HB2 := Lib.hid ((((Below.refl _ w).alloc (Nat.le_refl _) (.cells #[.slice none 0 0] 22)).alloc (by simp) (.cells #[.int .i64 0] 24)).trans (hb.mono (by simp; try omega)) : Below w.heap.size w w1); clear hb hR0 hR1))
      have e0 : (w1.setCell ⟨w.heap.size, 0, none⟩ (.slice none 0 0)).cell? ⟨w.heap.size, 0, none⟩ = some (.slice none 0 0) := World.cell?_setCell_same' _ _ _ (by rw [q0]; rfl)
      have e2 : ((w1.setCell ⟨w.heap.size, 0, none⟩ (.slice none 0 0)).setCell ⟨w.heap.size + 1, 0, none⟩ (.int .i64 2)).cell? ⟨w.heap.size, 0, none⟩ = some (.slice none 0 0) := by
        rw [World.cell?_of_block (Below.heap_setCell _ _ _ _ (by show w.heap.size ≠ w.heap.size + 1; omega))]; exact e0
      refine bodyPost_ret (v := .tuple #[.slice none 0 0, .int .i64 2]) ?_ rfl ?_
      · simp [results, Try.results13, go_sem, q0, q1, e0, e2]
      · exact ⟨_, rfl, NRow.nil _ _, (HB2.out.setCell (p := ⟨w.heap.size, 0, none⟩) (Nat.le_refl _) _).setCell (p := ⟨w.heap.size + 1, 0, none⟩) (by show w.heap.size ≤ w.heap.size + 1; omega) _⟩
end Go.Proofs.Ytipahpkdddijmaa.Q

-- E9
namespace Go.Proofs.Ytipahpkdddijmaa.Q
open Go.RowKit Go.Proofs.YtipahpkdddijmaaW.PrintWords Go.Proofs.YtipahpkdddijmaaW.PrintLast Go.Proofs.YtipahpkdddijmaaW.PrintMore
set_option linter.unusedVariables false
/-! ### change.Take at any octets, in the print's form -/
def change_TakeA.f (a0 : ByteArray) : Option (List S39 × Int) := some (takeR a0)
theorem change_TakeA.calls (a0 : ByteArray) (r1 : List S39) (r2 : Int) (w : World) (h : change_TakeA.f a0 = some (r1, r2)) :
    Calls Try.prog 13 #[.string a0] w fun e w' => ∃ v0_ : Value, e = .returned (.tuple #[v0_, .int .i64 r2]) ∧ Kd.R k39 39 w' w.heap.size (fun _ => True) v0_ r1 ∧ Below w.heap.size w w' := by
  injection h with h
  have h1 : (takeR a0).1 = r1 := by rw [h]
  have h2 : (takeR a0).2 = r2 := by rw [h]
  subst h1
  subst h2
  refine (take_any.walk a0 w).mono ?_
  rintro e w' ⟨v, rfl, hn, hb⟩
  exact ⟨v, rfl, hn.R, hb⟩
end Go.Proofs.Ytipahpkdddijmaa.Q

-- L8
namespace Go.Proofs.Ytipahpkdddijmaa.Q
open Go.RowKit Go.Proofs.YtipahpkdddijmaaW.PrintWords Go.Proofs.YtipahpkdddijmaaW.PrintLast Go.Proofs.YtipahpkdddijmaaW.PrintMore
attribute [local go_sem] max2_int min2_int max_two min_two max_three min_three max_four min_four   -- for this text's walks alone
set_option linter.unusedVariables false
set_option linter.unusedSimpArgs false

/-! ### cellarerref12_Lay: function 12 -/
mutual
def cellarerref12_Lay.l0 : Nat → List (S39) → List ByteArray → Int → Option (ByteArray × Int)
  | 0, _, _, _ => none
  | k + 1, x0, x4, x5 => if x5 < (x0.length : Int) then (if 0 ≤ x5 then ((cellarerref12_May.f ((rd_T39 x0 x5).f0) ((rd_T39 x0 x5).f1.f0) ((rd_T39 x0 x5).f1.f1) ((rd_T39 x0 x5).f1.f2)).bind fun t121 => (if t121 = true then (if (rd_T39 x0 x5).f1.f2 = true then ((cellarerref02_Num.f k ((rd_T39 x0 x5).f0)).bind fun t124 => ((cellarerref02_Num.f k 1).bind fun t126 => ((some (([t124, (rd_T39 x0 x5).f1.f0, t126, (rd_T39 x0 x5).f1.f1] : List ByteArray) : List ByteArray)).bind fun y128 => (if x4.length + y128.length < 8796093022208 then (cellarerref12_Lay.l0 k x0 (x4 ++ y128) (wrap64 (x5 + 1))) else (none))))) else ((cellarerref02_Num.f k ((rd_T39 x0 x5).f0)).bind fun t135 => ((cellarerref02_Num.f k 0).bind fun t137 => ((some (([t135, (rd_T39 x0 x5).f1.f0, t137, (rd_T39 x0 x5).f1.f1] : List ByteArray) : List ByteArray)).bind fun y139 => (if x4.length + y139.length < 8796093022208 then (cellarerref12_Lay.l0 k x0 (x4 ++ y139) (wrap64 (x5 + 1))) else (none)))))) else (some ((⟨#[]⟩ : ByteArray), 1)))) else (none)) else (if (x0.length : Int) = 0 then (cellarerref12_Lay.j1 k x4 true) else (cellarerref12_Lay.j1 k x4 (decide ((x0.length : Int) > 100))))
def cellarerref12_Lay.j1 : Nat → List ByteArray → Bool → Option (ByteArray × Int)
  | 0, _, _ => none
  | k + 1, x4, x57 => if x57 = true then (some ((⟨#[]⟩ : ByteArray), 1)) else ((cellarerref02_List.f k x4).bind fun bt145 => (if (bt145.1.size : Int) > 12000 then (some ((⟨#[]⟩ : ByteArray), 6)) else (some (bt145.1, 0))))
end
def cellarerref12_Lay.f (k : Nat) (l0 : List (S39)) : Option (ByteArray × Int) := cellarerref12_Lay.l0 k l0 ([] : List ByteArray) 0
theorem cellarerref12_Lay.mono_l : ∀ k, (∀ y0 y1 y2, LeO (cellarerref12_Lay.l0 k y0 y1 y2) (cellarerref12_Lay.l0 (k + 1) y0 y1 y2)) ∧ (∀ y0 y1, LeO (cellarerref12_Lay.j1 k y0 y1) (cellarerref12_Lay.j1 (k + 1) y0 y1))
  | 0 => ⟨fun _ _ _ r h => by simp [cellarerref12_Lay.l0] at h, fun _ _ r h => by simp [cellarerref12_Lay.j1] at h⟩
  | k + 1 => by
    obtain ⟨ih0, ih1⟩ := cellarerref12_Lay.mono_l k
    refine ⟨?_, ?_⟩
    · intro y0 y1 y2
      unfold cellarerref12_Lay.l0
      repeat' first
      | (with_reducible exact ih0 _ _ _)
      | (with_reducible exact ih1 _ _)
      | (with_reducible exact cellarerref02_List.mono _ _)
      | (with_reducible exact cellarerref02_Num.mono _ _)
      | (with_reducible exact LeO.refl _)
      | (with_reducible exact LeO.none _)
      | (with_reducible refine LeO.ite ?_ ?_)
      | (with_reducible refine LeO.bind ?_ (fun _ => ?_))
      | exact ih0 _ _ _
      | exact ih1 _ _
      | exact cellarerref02_List.mono _ _
      | exact cellarerref02_Num.mono _ _
      | exact LeO.none _
      | refine LeO.ite ?_ ?_
      | refine LeO.bind ?_ (fun _ => ?_)
    · intro y0 y1
      unfold cellarerref12_Lay.j1
      repeat' first
      | (with_reducible exact ih0 _ _ _)
      | (with_reducible exact ih1 _ _)
      | (with_reducible exact cellarerref02_List.mono _ _)
      | (with_reducible exact cellarerref02_Num.mono _ _)
      | (with_reducible exact LeO.refl _)
      | (with_reducible exact LeO.none _)
      | (with_reducible refine LeO.ite ?_ ?_)
      | (with_reducible refine LeO.bind ?_ (fun _ => ?_))
      | exact ih0 _ _ _
      | exact ih1 _ _
      | exact cellarerref02_List.mono _ _
      | exact cellarerref02_Num.mono _ _
      | exact LeO.none _
      | refine LeO.ite ?_ ?_
      | refine LeO.bind ?_ (fun _ => ?_)
theorem cellarerref12_Lay.mono : ∀ a0 k, LeO (cellarerref12_Lay.f k a0) (cellarerref12_Lay.f (k + 1) a0) := by
  intro a0 k
  obtain ⟨ih0, ih1⟩ := cellarerref12_Lay.mono_l k
  unfold cellarerref12_Lay.f
  repeat' first
      | (with_reducible exact ih0 _ _ _)
      | (with_reducible exact ih1 _ _)
      | (with_reducible exact cellarerref02_List.mono _ _)
      | (with_reducible exact cellarerref02_Num.mono _ _)
      | (with_reducible exact LeO.refl _)
      | (with_reducible exact LeO.none _)
      | (with_reducible refine LeO.ite ?_ ?_)
      | (with_reducible refine LeO.bind ?_ (fun _ => ?_))
      | exact ih0 _ _ _
      | exact ih1 _ _
      | exact cellarerref02_List.mono _ _
      | exact cellarerref02_Num.mono _ _
      | exact LeO.none _
      | refine LeO.ite ?_ ?_
      | refine LeO.bind ?_ (fun _ => ?_)
def cellarerref12_Lay.T10 : Bool × List (List Nat × List Nat) := (true, [([], []), ([], []), ([], []), ([1, 2], [1, 2]), ([3], [3]), ([4], [4]), ([5], [5]), ([], []), ([], []), ([7, 8], [7, 8]), ([9], [9]), ([10], [10]), ([11], [11]), ([], []), ([13, 6], [13]), ([], []), ([], []), ([15, 16], [15, 16]), ([17], [17]), ([18], [18]), ([19], [19]), ([6, 12, 14, 20], [6, 12, 14, 20]), ([0, 21, 14], [0, 21]), ([22, 22, 0, 1, 2, 3, 4, 5, 6, 7, 8, 9, 10, 11, 12, 13, 14, 15, 16, 17, 18, 19, 20, 21, 22], [0, 22])])
def cellarerref12_Lay.B10 : List Nat := [0, 0, 0, 6, 14, 30, 62, 0, 0, 384, 896, 1920, 3968, 0, 8318, 0, 0, 98304, 229376, 491520, 1015808, 2097150, 4194303, 8388607]
theorem cellarerref12_Lay.tab10 : rtab .any (opsOf Try.f12 10) = cellarerref12_Lay.T10 := by kernel_rfl
theorem cellarerref12_Lay.bits10 : waitsOk cellarerref12_Lay.T10.2 cellarerref12_Lay.B10 = true := by kernel_rfl
set_option maxHeartbeats 8000000 in
set_option maxRecDepth 100000 in
theorem cellarerref12_Lay.calls (k : Nat) (A0 : Option Addr) (c0 : Nat) (l0 : List (S39)) (r1 : ByteArray) (r2 : Int) (w : World) (hr0 : Kd.C k39 w A0 l0.length l0) (hc0 : l0.length ≤ c0) (h : cellarerref12_Lay.f k l0 = some (r1, r2)) :
    Calls Try.prog 12 #[.slice A0 l0.length c0] w fun e w' => e = .returned (.tuple #[.string r1, .int .i64 r2]) ∧ Below w.heap.size w w' := by
  have hu39 := Try.underlying39
  have HR0 := Aside0.mk hr0
  have HC0 := Aside0.mk hc0
  clear hr0 hc0
  have HB := Aside0.mk (Below.refl w.heap.size w)
  have H : (cellarerref12_Lay.l0 k l0 ([] : List ByteArray) 0) = some (r1, r2) := h
  clear h
  have H' := Aside0.mk H
  clear H
  go_enter Try.func12, Try.ntmps12
  go_wp2
  go_loopg [4, 5] k (fun kq v4 v5 w' => ∃ (x4_1 : List ByteArray) (x5_1 : Int), v5 = .int .i64 x5_1 ∧ Aside0 (cellarerref12_Lay.l0 kq l0 x4_1 x5_1 = some (r1, r2)) ∧ Aside0 (kq ≤ k) ∧ Aside0 (Kd.R Kd.string 9 w' w.heap.size (fun _ => True) v4 x4_1) ∧ Aside0 (Below w.heap.size w w'))
  case atStart => exact ⟨(([] : List ByteArray)), (0), (by first | rfl | (simp; done) | (simp [*]; done)), H', ⟨Nat.le_refl _⟩, ⟨by first | exact Kd.R_nil _ _ _ _ _ | exact Kd.N_nil _ _ _ _ _ | exact Kd.V_nil _ _ _ _ _ | exact Kd.Q_nil _ _ _ _ _ | exact Kd.S_nil _ _ _ _ _⟩, ⟨by repeat (first | (with_reducible first | exact HB.out | apply below_alloc | apply pw_below_drewN | apply below_drew1) | exact HB.out)⟩⟩
  case round =>
    clear H'
    try clear c1
    obtain ⟨x4_1, x5_1, rfl, HA, HK1, HO_4, HB⟩ := hrel
    cases gk with
    | zero => exact absurd HA.out (by simp [cellarerref12_Lay.l0])
    | succ k1 =>
      have H := HA.out
      clear HA
      simp only [cellarerref12_Lay.l0] at H
      by_cases c2 : x5_1 < (l0.length : Int)
      · rw [if_pos c2] at H
        have c2b0 : decide (x5_1 < (l0.length : Int)) = true := decide_eq_true c2
        clear c2
        by_cases c3 : 0 ≤ x5_1
        · rw [if_pos c3] at H
          have c3b0 : decide (0 ≤ x5_1) = true := decide_eq_true c3
          clear c3
          replace H := Option.bind_eq_some_iff.mp H
          obtain ⟨t121, A40, H⟩ := H
          replace H : (if t121 = true then (if (rd_T39 l0 x5_1).f1.f2 = true then ((cellarerref02_Num.f k1 ((rd_T39 l0 x5_1).f0)).bind fun t124 => ((cellarerref02_Num.f k1 1).bind fun t126 => ((some (([t124, (rd_T39 l0 x5_1).f1.f0, t126, (rd_T39 l0 x5_1).f1.f1] : List ByteArray) : List ByteArray)).bind fun y128 => (if x4_1.length + y128.length < 8796093022208 then (cellarerref12_Lay.l0 k1 l0 (x4_1 ++ y128) (wrap64 (x5_1 + 1))) else (none))))) else ((cellarerref02_Num.f k1 ((rd_T39 l0 x5_1).f0)).bind fun t135 => ((cellarerref02_Num.f k1 0).bind fun t137 => ((some (([t135, (rd_T39 l0 x5_1).f1.f0, t137, (rd_T39 l0 x5_1).f1.f1] : List ByteArray) : List ByteArray)).bind fun y139 => (if x4_1.length + y139.length < 8796093022208 then (cellarerref12_Lay.l0 k1 l0 (x4_1 ++ y139) (wrap64 (x5_1 + 1))) else (none)))))) else (some ((⟨#[]⟩ : ByteArray), 1))) = some (r1, r2) := H
          have A4 := Aside0.mk A40
          clear A40
          by_cases c5 : t121 = true
          · subst c5
            have H1 : (if (rd_T39 l0 x5_1).f1.f2 = true then ((cellarerref02_Num.f k1 ((rd_T39 l0 x5_1).f0)).bind fun t124 => ((cellarerref02_Num.f k1 1).bind fun t126 => ((some (([t124, (rd_T39 l0 x5_1).f1.f0, t126, (rd_T39 l0 x5_1).f1.f1] : List ByteArray) : List ByteArray)).bind fun y128 => (if x4_1.length + y128.length < 8796093022208 then (cellarerref12_Lay.l0 k1 l0 (x4_1 ++ y128) (wrap64 (x5_1 + 1))) else (none))))) else ((cellarerref02_Num.f k1 ((rd_T39 l0 x5_1).f0)).bind fun t135 => ((cellarerref02_Num.f k1 0).bind fun t137 => ((some (([t135, (rd_T39 l0 x5_1).f1.f0, t137, (rd_T39 l0 x5_1).f1.f1] : List ByteArray) : List ByteArray)).bind fun y139 => (if x4_1.length + y139.length < 8796093022208 then (cellarerref12_Lay.l0 k1 l0 (x4_1 ++ y139) (wrap64 (x5_1 + 1))) else (none)))))) = some (r1, r2) := by rw [if_pos rfl] at H; exact H
            clear H
            have H := H1
            clear H1
            obtain ⟨bq6, hbq6⟩ : ∃ b_ : Bool, b_ = ((rd_T39 l0 x5_1).f1.f2) := ⟨_, rfl⟩
            replace H : (if bq6 = true then ((cellarerref02_Num.f k1 ((rd_T39 l0 x5_1).f0)).bind fun t124 => ((cellarerref02_Num.f k1 1).bind fun t126 => ((some (([t124, (rd_T39 l0 x5_1).f1.f0, t126, (rd_T39 l0 x5_1).f1.f1] : List ByteArray) : List ByteArray)).bind fun y128 => (if x4_1.length + y128.length < 8796093022208 then (cellarerref12_Lay.l0 k1 l0 (x4_1 ++ y128) (wrap64 (x5_1 + 1))) else (none))))) else ((cellarerref02_Num.f k1 ((rd_T39 l0 x5_1).f0)).bind fun t135 => ((cellarerref02_Num.f k1 0).bind fun t137 => ((some (([t135, (rd_T39 l0 x5_1).f1.f0, t137, (rd_T39 l0 x5_1).f1.f1] : List ByteArray) : List ByteArray)).bind fun y139 => (if x4_1.length + y139.length < 8796093022208 then (cellarerref12_Lay.l0 k1 l0 (x4_1 ++ y139) (wrap64 (x5_1 + 1))) else (none)))))) = some (r1, r2) := by rw [← hbq6] at H; exact H
            have Nbq6 := Aside0.mk hbq6
            clear hbq6
            by_cases c7 : bq6 = true
            · subst c7
              have A4b := A4.out
              rw [← Nbq6.out] at A4b
              have A4 := Aside0.mk A4b
              have H1 : ((cellarerref02_Num.f k1 ((rd_T39 l0 x5_1).f0)).bind fun t124 => ((cellarerref02_Num.f k1 1).bind fun t126 => ((some (([t124, (rd_T39 l0 x5_1).f1.f0, t126, (rd_T39 l0 x5_1).f1.f1] : List ByteArray) : List ByteArray)).bind fun y128 => (if x4_1.length + y128.length < 8796093022208 then (cellarerref12_Lay.l0 k1 l0 (x4_1 ++ y128) (wrap64 (x5_1 + 1))) else (none))))) = some (r1, r2) := by rw [if_pos rfl] at H; exact H
              clear H
              have H := H1
              clear H1
              replace H := Option.bind_eq_some_iff.mp H
              obtain ⟨t124, A80, H⟩ := H
              replace H : ((cellarerref02_Num.f k1 1).bind fun t126 => ((some (([t124, (rd_T39 l0 x5_1).f1.f0, t126, (rd_T39 l0 x5_1).f1.f1] : List ByteArray) : List ByteArray)).bind fun y128 => (if x4_1.length + y128.length < 8796093022208 then (cellarerref12_Lay.l0 k1 l0 (x4_1 ++ y128) (wrap64 (x5_1 + 1))) else (none)))) = some (r1, r2) := H
              have A8 := Aside0.mk A80
              clear A80
              replace H := Option.bind_eq_some_iff.mp H
              obtain ⟨t126, A90, H⟩ := H
              replace H : ((some (([t124, (rd_T39 l0 x5_1).f1.f0, t126, (rd_T39 l0 x5_1).f1.f1] : List ByteArray) : List ByteArray)).bind fun y128 => (if x4_1.length + y128.length < 8796093022208 then (cellarerref12_Lay.l0 k1 l0 (x4_1 ++ y128) (wrap64 (x5_1 + 1))) else (none))) = some (r1, r2) := H
              have A9 := Aside0.mk A90
              clear A90
              obtain ⟨y128, hy128⟩ : ∃ y_ : List ByteArray, y_ = (([t124, (rd_T39 l0 x5_1).f1.f0, t126, (rd_T39 l0 x5_1).f1.f1] : List ByteArray)) := ⟨_, rfl⟩
              replace H : (if x4_1.length + y128.length < 8796093022208 then (cellarerref12_Lay.l0 k1 l0 (x4_1 ++ y128) (wrap64 (x5_1 + 1))) else (none)) = some (r1, r2) := by first | (rw [hy128]; with_reducible exact H) | (have H2_ := (Option.bind_some _ _).symm.trans H; rw [hy128]; with_reducible exact H2_) | (have H2_ := (Option.bind_some _ _).symm.trans H; with_reducible exact H2_) | with_reducible exact H | (rw [hy128]; exact H) | exact H
              have Ny128 := Aside0.mk hy128
              clear hy128
              by_cases c10 : x4_1.length + y128.length < 8796093022208
              · rw [if_pos c10] at H
                have LMc10 := Aside0.mk c10
                clear c10
                obtain ⟨y131, hy131⟩ : ∃ y_ : List ByteArray, y_ = (x4_1 ++ y128) := ⟨_, rfl⟩
                replace H : (cellarerref12_Lay.l0 k1 l0 y131 (wrap64 (x5_1 + 1))) = some (r1, r2) := by first | (rw [hy131]; with_reducible exact H) | (have H2_ := (Option.bind_some _ _).symm.trans H; rw [hy131]; with_reducible exact H2_) | (have H2_ := (Option.bind_some _ _).symm.trans H; with_reducible exact H2_) | with_reducible exact H | (rw [hy131]; exact H) | exact H
                have Ny131 := Aside0.mk hy131
                clear hy131
                have H' := Aside0.mk H
                clear H
                have p120 : 0 ≤ (x5_1 : Int) := of_decide_eq_true (by first | (with_reducible assumption) | assumption)
                have q120 : x5_1 < (l0.length : Int) := of_decide_eq_true (by first | (with_reducible assumption) | assumption)
                obtain ⟨ad120, e120, hx120_0, hx120_1, hx120_2, hx120_3⟩ := at_T39 HR0.out x5_1 p120 q120
                (try rw [← Nbq6.out] at hx120_3); (try rw [← Nbq6.out] at hw120_3)
                cases e120
                replace hx120_0 := (HB.out.cell (World.block_lt_of_cell? w _ hx120_0)).trans hx120_0
                replace hx120_1 := (HB.out.cell (World.block_lt_of_cell? w _ hx120_1)).trans hx120_1
                replace hx120_2 := (HB.out.cell (World.block_lt_of_cell? w _ hx120_2)).trans hx120_2
                replace hx120_3 := (HB.out.cell (World.block_lt_of_cell? w _ hx120_3)).trans hx120_3
                replace p120 := eq_true p120
                replace q120 := eq_true q120
                try go_wp2_with (first | ((with_reducible refine gate_callee (f := 17) rfl ?_); refine goesL_ (some 19) rfl rfl Try.func17 (by kernel_rfl) rfl #[.agg #[.int .u64 ((rd_T39 l0 x5_1).f0), .string ((rd_T39 l0 x5_1).f1.f0), .string ((rd_T39 l0 x5_1).f1.f1), .bool true]] rfl (by (try simp only [List.map_toArray, List.map_cons, List.map_nil]); first | done | rfl | (simp only [List.length_drop, List.length_take]; rfl)) ?_; (with_reducible refine (cellarerref12_May.calls ((rd_T39 l0 x5_1).f0) ((rd_T39 l0 x5_1).f1.f0) ((rd_T39 l0 x5_1).f1.f1) true true _ A4.out).mono ?_); rintro e w11 ⟨rfl, hb⟩; refine ⟨_, rfl, ?_⟩; have n0_ := Aside0.mk (Kd.R_below (by (with_reducible repeat (first | apply Kd.R_alloc | apply Kd.R_drewN | apply Kd.R_drew)); exact HO_4.out) hb); have n1_ := Aside0.mk (below_step (by repeat (first | (with_reducible first | exact HB.out | apply below_alloc | apply pw_below_drewN | apply below_drew1) | exact HB.out)) hb); clear HO_4; clear HB; have HO_4 := n0_; have HB := n1_; clear n0_ n1_; (try clear hb); (try clear hb2); (try clear hk); (try clear hi); have p122 : 0 ≤ (x5_1 : Int) := of_decide_eq_true (by first | (with_reducible assumption) | assumption); have q122 : x5_1 < (l0.length : Int) := of_decide_eq_true (by first | (with_reducible assumption) | assumption); obtain ⟨ad122, e122, hx122_0, hx122_1, hx122_2, hx122_3⟩ := at_T39 HR0.out x5_1 p122 q122; (try rw [← Nbq6.out] at hx122_3); (try rw [← Nbq6.out] at hw122_3); obtain rfl : ad120 = ad122 := (by injection e122); replace hx122_0 := (HB.out.cell (World.block_lt_of_cell? w _ hx122_0)).trans hx122_0; replace hx122_1 := (HB.out.cell (World.block_lt_of_cell? w _ hx122_1)).trans hx122_1; replace hx122_2 := (HB.out.cell (World.block_lt_of_cell? w _ hx122_2)).trans hx122_2; replace hx122_3 := (HB.out.cell (World.block_lt_of_cell? w _ hx122_3)).trans hx122_3; replace p122 := eq_true p122; replace q122 := eq_true q122))
                have n0_ := Aside0.mk (Kd.R_drew HO_4.out)
                have n1_ := Aside0.mk (below_drew1 HB.out)
                clear HO_4
                clear HB
                have HO_4 := n0_
                have HB := n1_
                clear n0_ n1_
                have p123 : 0 ≤ (x5_1 : Int) := of_decide_eq_true (by first | (with_reducible assumption) | assumption)
                have q123 : x5_1 < (l0.length : Int) := of_decide_eq_true (by first | (with_reducible assumption) | assumption)
                obtain ⟨ad123, e123, hx123_0, hx123_1, hx123_2, hx123_3⟩ := at_T39 HR0.out x5_1 p123 q123
                have hw123_3 := hx123_3
                have hw123_2 := hx123_2
                have hw123_1 := hx123_1
                have hw123_0 := hx123_0
                (try rw [← Nbq6.out] at hx123_3); (try rw [← Nbq6.out] at hw123_3)
                obtain rfl : ad120 = ad123 := (by injection e123)
                replace hx123_0 := (HB.out.cell (World.block_lt_of_cell? w _ hx123_0)).trans hx123_0
                replace hx123_1 := (HB.out.cell (World.block_lt_of_cell? w _ hx123_1)).trans hx123_1
                replace hx123_2 := (HB.out.cell (World.block_lt_of_cell? w _ hx123_2)).trans hx123_2
                replace hx123_3 := (HB.out.cell (World.block_lt_of_cell? w _ hx123_3)).trans hx123_3
                replace p123 := eq_true p123
                replace q123 := eq_true q123
                have p125 : 0 ≤ (x5_1 : Int) := of_decide_eq_true (by first | (with_reducible assumption) | assumption)
                have q125 : x5_1 < (l0.length : Int) := of_decide_eq_true (by first | (with_reducible assumption) | assumption)
                obtain ⟨ad125, e125, hx125_0, hx125_1, hx125_2, hx125_3⟩ := at_T39 HR0.out x5_1 p125 q125
                have hw125_3 := hx125_3
                have hw125_2 := hx125_2
                have hw125_1 := hx125_1
                have hw125_0 := hx125_0
                (try rw [← Nbq6.out] at hx125_3); (try rw [← Nbq6.out] at hw125_3)
                obtain rfl : ad120 = ad125 := (by injection e125)
                replace hx125_0 := (HB.out.cell (World.block_lt_of_cell? w _ hx125_0)).trans hx125_0
                replace hx125_1 := (HB.out.cell (World.block_lt_of_cell? w _ hx125_1)).trans hx125_1
                replace hx125_2 := (HB.out.cell (World.block_lt_of_cell? w _ hx125_2)).trans hx125_2
                replace hx125_3 := (HB.out.cell (World.block_lt_of_cell? w _ hx125_3)).trans hx125_3
                replace p125 := eq_true p125
                replace q125 := eq_true q125
                have p127 : 0 ≤ (x5_1 : Int) := of_decide_eq_true (by first | (with_reducible assumption) | assumption)
                have q127 : x5_1 < (l0.length : Int) := of_decide_eq_true (by first | (with_reducible assumption) | assumption)
                obtain ⟨ad127, e127, hx127_0, hx127_1, hx127_2, hx127_3⟩ := at_T39 HR0.out x5_1 p127 q127
                have hw127_3 := hx127_3
                have hw127_2 := hx127_2
                have hw127_1 := hx127_1
                have hw127_0 := hx127_0
                (try rw [← Nbq6.out] at hx127_3); (try rw [← Nbq6.out] at hw127_3)
                obtain rfl : ad120 = ad127 := (by injection e127)
                replace hx127_0 := (HB.out.cell (World.block_lt_of_cell? w _ hx127_0)).trans hx127_0
                replace hx127_1 := (HB.out.cell (World.block_lt_of_cell? w _ hx127_1)).trans hx127_1
                replace hx127_2 := (HB.out.cell (World.block_lt_of_cell? w _ hx127_2)).trans hx127_2
                replace hx127_3 := (HB.out.cell (World.block_lt_of_cell? w _ hx127_3)).trans hx127_3
                replace p127 := eq_true p127
                replace q127 := eq_true q127
                refine start_ (n := 24) (S := fun w' => w'.cell? (ad120.add ((x5_1).toNat * 4)) = some (.int .u64 ((rd_T39 l0 x5_1).f0)) ∧ w'.cell? ⟨(ad120.add ((x5_1).toNat * 4)).block, (ad120.add ((x5_1).toNat * 4)).off + 1, none⟩ = some (.string ((rd_T39 l0 x5_1).f1.f0)) ∧ w'.cell? ⟨(ad120.add ((x5_1).toNat * 4)).block, (ad120.add ((x5_1).toNat * 4)).off + 2, none⟩ = some (.string ((rd_T39 l0 x5_1).f1.f1)) ∧ w'.cell? ⟨(ad120.add ((x5_1).toNat * 4)).block, (ad120.add ((x5_1).toNat * 4)).off + 3, none⟩ = some (.bool (true)) ∧ w'.cell? (ad120.add ((x5_1).toNat * 4)) = some (.int .u64 ((rd_T39 l0 x5_1).f0)) ∧ w'.cell? ⟨(ad120.add ((x5_1).toNat * 4)).block, (ad120.add ((x5_1).toNat * 4)).off + 1, none⟩ = some (.string ((rd_T39 l0 x5_1).f1.f0)) ∧ w'.cell? ⟨(ad120.add ((x5_1).toNat * 4)).block, (ad120.add ((x5_1).toNat * 4)).off + 2, none⟩ = some (.string ((rd_T39 l0 x5_1).f1.f1)) ∧ w'.cell? ⟨(ad120.add ((x5_1).toNat * 4)).block, (ad120.add ((x5_1).toNat * 4)).off + 3, none⟩ = some (.bool (true)) ∧ w'.cell? (ad120.add ((x5_1).toNat * 4)) = some (.int .u64 ((rd_T39 l0 x5_1).f0)) ∧ w'.cell? ⟨(ad120.add ((x5_1).toNat * 4)).block, (ad120.add ((x5_1).toNat * 4)).off + 1, none⟩ = some (.string ((rd_T39 l0 x5_1).f1.f0)) ∧ w'.cell? ⟨(ad120.add ((x5_1).toNat * 4)).block, (ad120.add ((x5_1).toNat * 4)).off + 2, none⟩ = some (.string ((rd_T39 l0 x5_1).f1.f1)) ∧ w'.cell? ⟨(ad120.add ((x5_1).toNat * 4)).block, (ad120.add ((x5_1).toNat * 4)).off + 3, none⟩ = some (.bool (true))) (ds := []) #[false, false, false, false, false, false, false, false, false, false, false, false, false, false, false, false, false, false, false, false, false, false, false, false] (by kernel_rfl) rfl rfl ⟨((HB.out.cell (World.block_lt_of_cell? w _ hw123_0)).trans hw123_0), ((HB.out.cell (World.block_lt_of_cell? w _ hw123_1)).trans hw123_1), ((HB.out.cell (World.block_lt_of_cell? w _ hw123_2)).trans hw123_2), ((HB.out.cell (World.block_lt_of_cell? w _ hw123_3)).trans hw123_3), ((HB.out.cell (World.block_lt_of_cell? w _ hw125_0)).trans hw125_0), ((HB.out.cell (World.block_lt_of_cell? w _ hw125_1)).trans hw125_1), ((HB.out.cell (World.block_lt_of_cell? w _ hw125_2)).trans hw125_2), ((HB.out.cell (World.block_lt_of_cell? w _ hw125_3)).trans hw125_3), ((HB.out.cell (World.block_lt_of_cell? w _ hw127_0)).trans hw127_0), ((HB.out.cell (World.block_lt_of_cell? w _ hw127_1)).trans hw127_1), ((HB.out.cell (World.block_lt_of_cell? w _ hw127_2)).trans hw127_2), ((HB.out.cell (World.block_lt_of_cell? w _ hw127_3)).trans hw127_3)⟩ (fun hHeld => ?_); refine with_tabW cellarerref12_Lay.tab10 cellarerref12_Lay.bits10 (fun HT_ HW_ => ?_)
                generalize w11.drew = w12 at HO_4 HB hx123_0 hx123_1 hx123_2 hx123_3 hx125_0 hx125_1 hx125_2 hx125_3 hx127_0 hx127_1 hx127_2 hx127_3 hHeld ⊢
                refine pure_ (i := 0) (N := some 27) (v := ?_) (a' := ?_) #[true, false, false, false, false, false, false, false, false, false, false, false, false, false, false, false, false, false, false, false, false, false, false, false] rfl rfl (any_of HT_.out (by kernel_rfl)) (fun _ _ _ h => h) (Or.inl ⟨by rfl, ?_⟩) ?_ ?_
                rotate_left
                · intro w'
                  go_simp
                  with_reducible rfl
                rotate_left
                · simp only [Act.put, List.setIfInBounds_toArray, List.set_cons_zero, List.set_cons_succ, i64_w, i32_w]
                  rfl
                refine pure_ (i := 1) (N := some 28) (v := ?_) (a' := ?_) #[true, true, false, false, false, false, false, false, false, false, false, false, false, false, false, false, false, false, false, false, false, false, false, false] rfl rfl (any_of HT_.out (by kernel_rfl)) (fun _ _ _ h => h) (Or.inl ⟨by rfl, ?_⟩) ?_ ?_
                rotate_left
                · intro w'
                  go_simp
                  with_reducible rfl
                rotate_left
                · simp only [Act.put, List.setIfInBounds_toArray, List.set_cons_zero, List.set_cons_succ, i64_w, i32_w]
                  rfl
                refine pure_ (i := 2) (N := some 29) (v := ?_) (a' := ?_) #[true, true, true, false, false, false, false, false, false, false, false, false, false, false, false, false, false, false, false, false, false, false, false, false] rfl rfl (any_of HT_.out (by kernel_rfl)) (fun _ _ _ h => h) (Or.inl ⟨by rfl, ?_⟩) ?_ ?_
                rotate_left
                · intro w'
                  go_simp
                  with_reducible rfl
                rotate_left
                · simp only [Act.put, List.setIfInBounds_toArray, List.set_cons_zero, List.set_cons_succ, i64_w, i32_w]
                  rfl
                refine pure_ (i := 3) (N := some 30) (v := ?_) (a' := ?_) #[true, true, true, true, false, false, false, false, false, false, false, false, false, false, false, false, false, false, false, false, false, false, false, false] rfl rfl (any_of HT_.out (by kernel_rfl)) (fun _ _ _ h => h) (Or.inl ⟨by rfl, ?_⟩) ?_ ?_
                rotate_left
                · intro w'
                  go_simp
                  with_reducible rfl
                rotate_left
                · simp only [Act.put, List.setIfInBounds_toArray, List.set_cons_zero, List.set_cons_succ, i64_w, i32_w]
                  rfl
                refine pure_ (i := 4) (N := some 31) (v := ?_) (a' := ?_) #[true, true, true, true, true, false, false, false, false, false, false, false, false, false, false, false, false, false, false, false, false, false, false, false] rfl rfl (any_of HT_.out (by kernel_rfl)) (fun _ _ _ h => h) (Or.inl ⟨by rfl, ?_⟩) ?_ ?_
                rotate_left
                · intro w'
                  go_simp
                  with_reducible rfl
                rotate_left
                · simp only [Act.put, List.setIfInBounds_toArray, List.set_cons_zero, List.set_cons_succ, i64_w, i32_w]
                  rfl
                refine pure_ (i := 7) (N := some 34) (v := ?_) (a' := ?_) #[true, true, true, true, true, false, false, true, false, false, false, false, false, false, false, false, false, false, false, false, false, false, false, false] rfl rfl (any_of HT_.out (by kernel_rfl)) (fun _ _ _ h => h) (Or.inl ⟨by rfl, ?_⟩) ?_ ?_
                rotate_left
                · intro w'
                  go_simp
                  with_reducible rfl
                rotate_left
                · simp only [Act.put, List.setIfInBounds_toArray, List.set_cons_zero, List.set_cons_succ, i64_w, i32_w]
                  rfl
                refine pure_ (i := 8) (N := some 35) (v := ?_) (a' := ?_) #[true, true, true, true, true, false, false, true, true, false, false, false, false, false, false, false, false, false, false, false, false, false, false, false] rfl rfl (any_of HT_.out (by kernel_rfl)) (fun _ _ _ h => h) (Or.inl ⟨by rfl, ?_⟩) ?_ ?_
                rotate_left
                · intro w'
                  go_simp
                  with_reducible rfl
                rotate_left
                · simp only [Act.put, List.setIfInBounds_toArray, List.set_cons_zero, List.set_cons_succ, i64_w, i32_w]
                  rfl
                refine pure_ (i := 9) (N := some 36) (v := ?_) (a' := ?_) #[true, true, true, true, true, false, false, true, true, true, false, false, false, false, false, false, false, false, false, false, false, false, false, false] rfl rfl (any_of HT_.out (by kernel_rfl)) (fun _ _ _ h => h) (Or.inl ⟨by rfl, ?_⟩) ?_ ?_
                rotate_left
                · intro w'
                  go_simp
                  with_reducible rfl
                rotate_left
                · simp only [Act.put, List.setIfInBounds_toArray, List.set_cons_zero, List.set_cons_succ, i64_w, i32_w]
                  rfl
                refine pure_ (i := 10) (N := some 37) (v := ?_) (a' := ?_) #[true, true, true, true, true, false, false, true, true, true, true, false, false, false, false, false, false, false, false, false, false, false, false, false] rfl rfl (any_of HT_.out (by kernel_rfl)) (fun _ _ _ h => h) (Or.inl ⟨by rfl, ?_⟩) ?_ ?_
                rotate_left
                · intro w'
                  go_simp
                  with_reducible rfl
                rotate_left
                · simp only [Act.put, List.setIfInBounds_toArray, List.set_cons_zero, List.set_cons_succ, i64_w, i32_w]
                  rfl
                refine pure_ (i := 11) (N := some 38) (v := ?_) (a' := ?_) #[true, true, true, true, true, false, false, true, true, true, true, true, false, false, false, false, false, false, false, false, false, false, false, false] rfl rfl (any_of HT_.out (by kernel_rfl)) (fun _ _ _ h => h) (Or.inl ⟨by rfl, ?_⟩) ?_ ?_
                rotate_left
                · intro w'
                  go_simp
                  with_reducible rfl
                rotate_left
                · simp only [Act.put, List.setIfInBounds_toArray, List.set_cons_zero, List.set_cons_succ, i64_w, i32_w]
                  rfl
                refine pure_ (i := 13) (N := some 40) (v := ?_) (a' := ?_) #[true, true, true, true, true, false, false, true, true, true, true, true, false, true, false, false, false, false, false, false, false, false, false, false] rfl rfl (any_of HT_.out (by kernel_rfl)) (fun _ _ _ h => h) (Or.inl ⟨by rfl, ?_⟩) ?_ ?_
                rotate_left
                · intro w'
                  go_simp
                  with_reducible rfl
                rotate_left
                · simp only [Act.put, List.setIfInBounds_toArray, List.set_cons_zero, List.set_cons_succ, i64_w, i32_w]
                  rfl
                refine pure_ (i := 15) (N := some 42) (v := ?_) (a' := ?_) #[true, true, true, true, true, false, false, true, true, true, true, true, false, true, false, true, false, false, false, false, false, false, false, false] rfl rfl (any_of HT_.out (by kernel_rfl)) (fun _ _ _ h => h) (Or.inl ⟨by rfl, ?_⟩) ?_ ?_
                rotate_left
                · intro w'
                  go_simp
                  with_reducible rfl
                rotate_left
                · simp only [Act.put, List.setIfInBounds_toArray, List.set_cons_zero, List.set_cons_succ, i64_w, i32_w]
                  rfl
                refine pure_ (i := 16) (N := some 43) (v := ?_) (a' := ?_) #[true, true, true, true, true, false, false, true, true, true, true, true, false, true, false, true, true, false, false, false, false, false, false, false] rfl rfl (any_of HT_.out (by kernel_rfl)) (fun _ _ _ h => h) (Or.inl ⟨by rfl, ?_⟩) ?_ ?_
                rotate_left
                · intro w'
                  go_simp
                  with_reducible rfl
                rotate_left
                · simp only [Act.put, List.setIfInBounds_toArray, List.set_cons_zero, List.set_cons_succ, i64_w, i32_w]
                  rfl
                refine pure_ (i := 17) (N := some 44) (v := ?_) (a' := ?_) #[true, true, true, true, true, false, false, true, true, true, true, true, false, true, false, true, true, true, false, false, false, false, false, false] rfl rfl (any_of HT_.out (by kernel_rfl)) (fun _ _ _ h => h) (Or.inl ⟨by rfl, ?_⟩) ?_ ?_
                rotate_left
                · intro w'
                  go_simp
                  with_reducible rfl
                rotate_left
                · simp only [Act.put, List.setIfInBounds_toArray, List.set_cons_zero, List.set_cons_succ, i64_w, i32_w]
                  rfl
                refine pure_ (i := 18) (N := some 45) (v := ?_) (a' := ?_) #[true, true, true, true, true, false, false, true, true, true, true, true, false, true, false, true, true, true, true, false, false, false, false, false] rfl rfl (any_of HT_.out (by kernel_rfl)) (fun _ _ _ h => h) (Or.inl ⟨by rfl, ?_⟩) ?_ ?_
                rotate_left
                · intro w'
                  go_simp
                  with_reducible rfl
                rotate_left
                · simp only [Act.put, List.setIfInBounds_toArray, List.set_cons_zero, List.set_cons_succ, i64_w, i32_w]
                  rfl
                refine pure_ (i := 19) (N := some 46) (v := ?_) (a' := ?_) #[true, true, true, true, true, false, false, true, true, true, true, true, false, true, false, true, true, true, true, true, false, false, false, false] rfl rfl (any_of HT_.out (by kernel_rfl)) (fun _ _ _ h => h) (Or.inl ⟨by rfl, ?_⟩) ?_ ?_
                rotate_left
                · intro w'
                  go_simp
                  with_reducible rfl
                rotate_left
                · simp only [Act.put, List.setIfInBounds_toArray, List.set_cons_zero, List.set_cons_succ, i64_w, i32_w]
                  rfl
                refine take_ (i := 5) (N := some 32) (v := ?_) (a' := ?_) #[true, true, true, true, true, true, false, true, true, true, true, true, false, true, false, true, true, true, true, true, false, false, false, false] rfl rfl (take_ofW HT_.out HW_.out (by kernel_rfl)) (fun _ _ _ h => h) (Or.inl ⟨by rfl, ?_⟩) hHeld ?_ ?_
                rotate_left
                · rintro w' ⟨s0, s1, s2, s3, s4, s5, s6, s7, s8, s9, s10, s11⟩
                  go_simp
                  with_reducible rfl
                rotate_left
                · simp only [Act.put, List.setIfInBounds_toArray, List.set_cons_zero, List.set_cons_succ, i64_w, i32_w]
                  rfl
                refine take_ (i := 12) (N := some 39) (v := ?_) (a' := ?_) #[true, true, true, true, true, true, false, true, true, true, true, true, true, true, false, true, true, true, true, true, false, false, false, false] rfl rfl (take_ofW HT_.out HW_.out (by kernel_rfl)) (fun _ _ _ h => h) (Or.inl ⟨by rfl, ?_⟩) hHeld ?_ ?_
                rotate_left
                · rintro w' ⟨s0, s1, s2, s3, s4, s5, s6, s7, s8, s9, s10, s11⟩
                  go_simp
                  with_reducible rfl
                rotate_left
                · simp only [Act.put, List.setIfInBounds_toArray, List.set_cons_zero, List.set_cons_succ, i64_w, i32_w]
                  rfl
                refine take_ (i := 20) (N := some 47) (v := ?_) (a' := ?_) #[true, true, true, true, true, true, false, true, true, true, true, true, true, true, false, true, true, true, true, true, true, false, false, false] rfl rfl (take_ofW HT_.out HW_.out (by kernel_rfl)) (fun _ _ _ h => h) (Or.inl ⟨by rfl, ?_⟩) hHeld ?_ ?_
                rotate_left
                · rintro w' ⟨s0, s1, s2, s3, s4, s5, s6, s7, s8, s9, s10, s11⟩
                  go_simp
                  with_reducible rfl
                rotate_left
                · simp only [Act.put, List.setIfInBounds_toArray, List.set_cons_zero, List.set_cons_succ, i64_w, i32_w]
                  rfl
                refine one_ (i := 6) (N := some 33) #[true, true, true, true, true, true, true, true, true, true, true, true, true, true, false, true, true, true, true, true, true, false, false, false] rfl rfl (one_of HT_.out (by kernel_rfl)) (by decide) (fun K hK => ?_)
                refine goes_ Try.func32 (by kernel_rfl) rfl #[.int .u64 ((rd_T39 l0 x5_1).f0)] (by rfl) rfl rfl (by (try simp only [List.map_toArray, List.map_cons, List.map_nil]); first | done | rfl | (simp only [List.length_drop, List.length_take]; rfl)) ?_
                with_reducible refine (cellarerref02_Num.calls k1 ((rd_T39 l0 x5_1).f0) t124 _ A8.out).mono ?_
                rintro e w13 ⟨rfl, hb⟩
                refine ⟨_, rfl, ?_⟩
                have n0_ := Aside0.mk (Kd.R_below (by (with_reducible repeat (first | apply Kd.R_alloc | apply Kd.R_drewN | apply Kd.R_drew)); exact HO_4.out) hb)
                have n1_ := Aside0.mk (below_step (by repeat (first | (with_reducible first | exact HB.out | apply below_alloc | apply pw_below_drewN | apply below_drew1) | exact HB.out)) hb)
                clear HO_4
                clear HB
                have HO_4 := n0_
                have HB := n1_
                clear n0_ n1_
                (try clear hb)
                (try clear hb2)
                (try clear hk)
                (try clear hi)
                refine hK.out _ _ ⟨((HB.out.cell (World.block_lt_of_cell? w _ hw123_0)).trans hw123_0), ((HB.out.cell (World.block_lt_of_cell? w _ hw123_1)).trans hw123_1), ((HB.out.cell (World.block_lt_of_cell? w _ hw123_2)).trans hw123_2), ((HB.out.cell (World.block_lt_of_cell? w _ hw123_3)).trans hw123_3), ((HB.out.cell (World.block_lt_of_cell? w _ hw125_0)).trans hw125_0), ((HB.out.cell (World.block_lt_of_cell? w _ hw125_1)).trans hw125_1), ((HB.out.cell (World.block_lt_of_cell? w _ hw125_2)).trans hw125_2), ((HB.out.cell (World.block_lt_of_cell? w _ hw125_3)).trans hw125_3), ((HB.out.cell (World.block_lt_of_cell? w _ hw127_0)).trans hw127_0), ((HB.out.cell (World.block_lt_of_cell? w _ hw127_1)).trans hw127_1), ((HB.out.cell (World.block_lt_of_cell? w _ hw127_2)).trans hw127_2), ((HB.out.cell (World.block_lt_of_cell? w _ hw127_3)).trans hw127_3)⟩ (fun hHeld => ?_)
                clear hK K
                refine norm_ (a' := ?_) ?_ ?_
                rotate_left
                · show Act.put _ (some 33) _ = _
                  simp only [Act.put, List.setIfInBounds_toArray, List.set_cons_zero, List.set_cons_succ, i64_w, i32_w]
                  rfl
                refine one_ (i := 14) (N := some 41) #[true, true, true, true, true, true, true, true, true, true, true, true, true, true, true, true, true, true, true, true, true, false, false, false] rfl rfl (one_of HT_.out (by kernel_rfl)) (by decide) (fun K hK => ?_)
                refine goes_ Try.func32 (by kernel_rfl) rfl #[.int .u64 1] (by rfl) rfl rfl (by (try simp only [List.map_toArray, List.map_cons, List.map_nil]); first | done | rfl | (simp only [List.length_drop, List.length_take]; rfl)) ?_
                with_reducible refine (cellarerref02_Num.calls k1 1 t126 _ A9.out).mono ?_
                rintro e w14 ⟨rfl, hb⟩
                refine ⟨_, rfl, ?_⟩
                have n0_ := Aside0.mk (Kd.R_below (by (with_reducible repeat (first | apply Kd.R_alloc | apply Kd.R_drewN | apply Kd.R_drew)); exact HO_4.out) hb)
                have n1_ := Aside0.mk (below_step (by repeat (first | (with_reducible first | exact HB.out | apply below_alloc | apply pw_below_drewN | apply below_drew1) | exact HB.out)) hb)
                clear HO_4
                clear HB
                have HO_4 := n0_
                have HB := n1_
                clear n0_ n1_
                (try clear hb)
                (try clear hb2)
                (try clear hk)
                (try clear hi)
                refine hK.out _ _ ⟨((HB.out.cell (World.block_lt_of_cell? w _ hw123_0)).trans hw123_0), ((HB.out.cell (World.block_lt_of_cell? w _ hw123_1)).trans hw123_1), ((HB.out.cell (World.block_lt_of_cell? w _ hw123_2)).trans hw123_2), ((HB.out.cell (World.block_lt_of_cell? w _ hw123_3)).trans hw123_3), ((HB.out.cell (World.block_lt_of_cell? w _ hw125_0)).trans hw125_0), ((HB.out.cell (World.block_lt_of_cell? w _ hw125_1)).trans hw125_1), ((HB.out.cell (World.block_lt_of_cell? w _ hw125_2)).trans hw125_2), ((HB.out.cell (World.block_lt_of_cell? w _ hw125_3)).trans hw125_3), ((HB.out.cell (World.block_lt_of_cell? w _ hw127_0)).trans hw127_0), ((HB.out.cell (World.block_lt_of_cell? w _ hw127_1)).trans hw127_1), ((HB.out.cell (World.block_lt_of_cell? w _ hw127_2)).trans hw127_2), ((HB.out.cell (World.block_lt_of_cell? w _ hw127_3)).trans hw127_3)⟩ (fun hHeld => ?_)
                clear hK K
                refine norm_ (a' := ?_) ?_ ?_
                rotate_left
                · show Act.put _ (some 41) _ = _
                  simp only [Act.put, List.setIfInBounds_toArray, List.set_cons_zero, List.set_cons_succ, i64_w, i32_w]
                  rfl
                refine one_ (i := 21) (N := some 48) #[true, true, true, true, true, true, true, true, true, true, true, true, true, true, true, true, true, true, true, true, true, true, false, false] rfl rfl (one_of HT_.out (by kernel_rfl)) (by decide) (fun K hK => ?_)
                refine Kd.R_lit_step Kd.string _ 9 ?hg (N := 48) ?hd (xs := ([t124, (rd_T39 l0 x5_1).f1.f0, t126, (rd_T39 l0 x5_1).f1.f1] : List ByteArray)) (inner := [.string t124, .string ((rd_T39 l0 x5_1).f1.f0), .string t126, .string ((rd_T39 l0 x5_1).f1.f1)]) (ok := fun _ => True) (okp := fun _ => True) ?hr ?hp (fun _ hk => hk) trivial (Below.refl _ _) (Nat.le_refl _) (by simp) ?_; (case hd => rfl); (case hg => rfl); (case hr => first | (go_simp; done) | (go_simp; rfl)); (case hp => exact (Reps.one (show Kd.M Kd.string _ _ _ t124 [.string t124] from rfl) (Reps.one (show Kd.M Kd.string _ _ _ ((rd_T39 l0 x5_1).f1.f0) [.string ((rd_T39 l0 x5_1).f1.f0)] from rfl) (Reps.one (show Kd.M Kd.string _ _ _ t126 [.string t126] from rfl) (Reps.one (show Kd.M Kd.string _ _ _ ((rd_T39 l0 x5_1).f1.f1) [.string ((rd_T39 l0 x5_1).f1.f1)] from rfl) (Reps.none _ _))))))
                intro v129 w15 ho16 hb hg_ hnew_
                clear hg_ hnew_
                (first | rw [← Ny128.out] at ho16 | (simp only [Int.reduceToNat] at ho16; rw [← Ny128.out] at ho16))
                have n0_ := Aside0.mk (Kd.R_elder' (by (with_reducible repeat (first | apply Kd.R_alloc | apply Kd.R_drewN | apply Kd.R_drew)); exact HO_4.out) (Kd.R_base ho16) hb)
                have n1_ := Aside0.mk (Kd.R_lower (Kd.R_new' ho16 (Kd.R_lt (by (with_reducible repeat (first | apply Kd.R_alloc | apply Kd.R_drewN | apply Kd.R_drew)); exact HO_4.out))) (below_size (by repeat (first | (with_reducible first | exact HB.out | apply below_alloc | apply pw_below_drewN | apply below_drew1) | exact HB.out))))
                have n2_ := Aside0.mk (below_step (by repeat (first | (with_reducible first | exact HB.out | apply below_alloc | apply pw_below_drewN | apply below_drew1) | exact HB.out)) hb)
                clear HO_4
                clear HB
                have HO_4 := n0_
                have HO130 := n1_
                have HB := n2_
                clear n0_ n1_ n2_
                clear hb ho16
                obtain ⟨Ao18, co18, eo18⟩ := Kd.R_slice HO130.out
                (first | subst eo18 | (injection eo18 with f1_ f2_ f3_; have f4_ := f1_.symm; have f5_ := f3_.symm; clear f1_ f2_ f3_; subst f4_; subst f5_))
                refine hK.out _ _ ⟨((HB.out.cell (World.block_lt_of_cell? w _ hw123_0)).trans hw123_0), ((HB.out.cell (World.block_lt_of_cell? w _ hw123_1)).trans hw123_1), ((HB.out.cell (World.block_lt_of_cell? w _ hw123_2)).trans hw123_2), ((HB.out.cell (World.block_lt_of_cell? w _ hw123_3)).trans hw123_3), ((HB.out.cell (World.block_lt_of_cell? w _ hw125_0)).trans hw125_0), ((HB.out.cell (World.block_lt_of_cell? w _ hw125_1)).trans hw125_1), ((HB.out.cell (World.block_lt_of_cell? w _ hw125_2)).trans hw125_2), ((HB.out.cell (World.block_lt_of_cell? w _ hw125_3)).trans hw125_3), ((HB.out.cell (World.block_lt_of_cell? w _ hw127_0)).trans hw127_0), ((HB.out.cell (World.block_lt_of_cell? w _ hw127_1)).trans hw127_1), ((HB.out.cell (World.block_lt_of_cell? w _ hw127_2)).trans hw127_2), ((HB.out.cell (World.block_lt_of_cell? w _ hw127_3)).trans hw127_3)⟩ (fun hHeld => ?_)
                clear hK K
                refine norm_ (a' := ?_) ?_ ?_
                rotate_left
                · show Act.put _ (some 48) _ = _
                  simp only [Act.put, List.setIfInBounds_toArray, List.set_cons_zero, List.set_cons_succ, i64_w, i32_w]
                  rfl
                refine one_ (i := 22) (N := some 49) #[true, true, true, true, true, true, true, true, true, true, true, true, true, true, true, true, true, true, true, true, true, true, true, false] rfl rfl (one_of HT_.out (by kernel_rfl)) (by decide) (fun K hK => ?_)
                refine Kd.R_append_rows_step Kd.string (w0 := w) w.heap.size (by rfl) (.tmp 27) (.tmp 48) 59 9 (.string ⟨#[]⟩) 16 rfl Try.underlying59 info9 rfl (by decide) (by omega) u4 x4_1 y128 _ _ _ (fun k_ => some k_ ≠ (.slice Ao18 y128.length co18 : Value).ownBlock) (fun _ => False) rfl rfl ?aO ?aR (fun _ _ h => h) (fun _ h => h.elim) ?aF ?aB ?aS ?aL ?_
                (case aR => repeat (first | exact (Kd.R_reads' HO130.out).2.2 | (with_reducible refine Kd.C_alloc ?_ _) | (with_reducible refine Kd.C_drewN ?_ _) | (with_reducible refine Kd.C_drew ?_)))
                (case aB => exact (by repeat (first | (with_reducible first | exact HB.out | apply below_alloc | apply pw_below_drewN | apply below_drew1) | exact HB.out)))
                (case aF => exact (fun k_ hk => Kd.fresh' (Kd.R_lt (by (with_reducible repeat (first | apply Kd.R_alloc | apply Kd.R_drewN | apply Kd.R_drew)); exact HO130.out)) k_ hk))
                (case aO => exact (by (with_reducible repeat (first | apply Kd.R_alloc | apply Kd.R_drewN | apply Kd.R_drew)); exact Kd.R_mono HO_4.out (fun _ hk => hk.2)))
                (case aS => exact (below_size (by repeat (first | (with_reducible first | exact HB.out | apply below_alloc | apply pw_below_drewN | apply below_drew1) | exact HB.out))))
                (case aL => have := LMc10.out; omega)
                intro v132 w17 ho hb hg hat
                rw [← Ny131.out] at ho
                have n0_ := Aside0.mk (Kd.R_after (ok := (fun _ => True)) (by (with_reducible repeat (first | apply Kd.R_alloc | apply Kd.R_drewN | apply Kd.R_drew)); exact HO130.out) hg hat)
                have n1_ := Aside0.mk (hb)
                have n2_ := Aside0.mk (ho)
                clear HO130
                clear HB
                clear HO_4
                have HO130 := n0_
                have HB := n1_
                have HO133 := n2_
                clear n0_ n1_ n2_
                clear ho hb hg hat
                refine hK.out _ _ ⟨((HB.out.cell (World.block_lt_of_cell? w _ hw123_0)).trans hw123_0), ((HB.out.cell (World.block_lt_of_cell? w _ hw123_1)).trans hw123_1), ((HB.out.cell (World.block_lt_of_cell? w _ hw123_2)).trans hw123_2), ((HB.out.cell (World.block_lt_of_cell? w _ hw123_3)).trans hw123_3), ((HB.out.cell (World.block_lt_of_cell? w _ hw125_0)).trans hw125_0), ((HB.out.cell (World.block_lt_of_cell? w _ hw125_1)).trans hw125_1), ((HB.out.cell (World.block_lt_of_cell? w _ hw125_2)).trans hw125_2), ((HB.out.cell (World.block_lt_of_cell? w _ hw125_3)).trans hw125_3), ((HB.out.cell (World.block_lt_of_cell? w _ hw127_0)).trans hw127_0), ((HB.out.cell (World.block_lt_of_cell? w _ hw127_1)).trans hw127_1), ((HB.out.cell (World.block_lt_of_cell? w _ hw127_2)).trans hw127_2), ((HB.out.cell (World.block_lt_of_cell? w _ hw127_3)).trans hw127_3)⟩ (fun hHeld => ?_)
                clear hK K
                refine norm_ (a' := ?_) ?_ ?_
                rotate_left
                · show Act.put _ (some 49) _ = _
                  simp only [Act.put, List.setIfInBounds_toArray, List.set_cons_zero, List.set_cons_succ, i64_w, i32_w]
                  rfl
                refine pure_ (i := 23) (N := some 4) (v := ?_) (a' := ?_) #[true, true, true, true, true, true, true, true, true, true, true, true, true, true, true, true, true, true, true, true, true, true, true, true] rfl rfl (any_of HT_.out (by kernel_rfl)) (fun _ _ _ h => h) (Or.inl ⟨by rfl, ?_⟩) ?_ ?_
                rotate_left
                · intro w'
                  go_simp
                  with_reducible rfl
                rotate_left
                · simp only [Act.put, List.setIfInBounds_toArray, List.set_cons_zero, List.set_cons_succ, i64_w, i32_w]
                  rfl
                refine done_ (done_of HT_.out (by kernel_rfl)) ?_
                try go_wp2
                go_roundg k1
                case measure => have := HK1.out; omega
                case rel => exact ⟨(y131), (wrap64 (x5_1 + 1)), (by first | rfl | (simp; done) | (simp [*]; done)), H', ⟨by have := HK1.out; omega⟩, ⟨by (with_reducible repeat (first | apply Kd.R_alloc | apply Kd.R_drewN | apply Kd.R_drew)); exact Kd.R_mono HO133.out (fun _ hk => trivial)⟩, ⟨by repeat (first | (with_reducible first | exact HB.out | apply below_alloc | apply pw_below_drewN | apply below_drew1) | exact HB.out)⟩⟩
              · rw [if_neg c10] at H
                exact absurd H (by simp)
            · replace c7 := Bool.eq_false_iff.mpr c7
              have A4b := A4.out
              rw [← Nbq6.out] at A4b
              have A4 := Aside0.mk A4b
              subst c7
              have H1 : ((cellarerref02_Num.f k1 ((rd_T39 l0 x5_1).f0)).bind fun t135 => ((cellarerref02_Num.f k1 0).bind fun t137 => ((some (([t135, (rd_T39 l0 x5_1).f1.f0, t137, (rd_T39 l0 x5_1).f1.f1] : List ByteArray) : List ByteArray)).bind fun y139 => (if x4_1.length + y139.length < 8796093022208 then (cellarerref12_Lay.l0 k1 l0 (x4_1 ++ y139) (wrap64 (x5_1 + 1))) else (none))))) = some (r1, r2) := by rw [if_neg (show ¬ (false = true) by decide)] at H; exact H
              clear H
              have H := H1
              clear H1
              replace H := Option.bind_eq_some_iff.mp H
              obtain ⟨t135, A190, H⟩ := H
              replace H : ((cellarerref02_Num.f k1 0).bind fun t137 => ((some (([t135, (rd_T39 l0 x5_1).f1.f0, t137, (rd_T39 l0 x5_1).f1.f1] : List ByteArray) : List ByteArray)).bind fun y139 => (if x4_1.length + y139.length < 8796093022208 then (cellarerref12_Lay.l0 k1 l0 (x4_1 ++ y139) (wrap64 (x5_1 + 1))) else (none)))) = some (r1, r2) := H
              have A19 := Aside0.mk A190
              clear A190
              replace H := Option.bind_eq_some_iff.mp H
              obtain ⟨t137, A200, H⟩ := H
              replace H : ((some (([t135, (rd_T39 l0 x5_1).f1.f0, t137, (rd_T39 l0 x5_1).f1.f1] : List ByteArray) : List ByteArray)).bind fun y139 => (if x4_1.length + y139.length < 8796093022208 then (cellarerref12_Lay.l0 k1 l0 (x4_1 ++ y139) (wrap64 (x5_1 + 1))) else (none))) = some (r1, r2) := H
              have A20 := Aside0.mk A200
              clear A200
              obtain ⟨y139, hy139⟩ : ∃ y_ : List ByteArray, y_ = (([t135, (rd_T39 l0 x5_1).f1.f0, t137, (rd_T39 l0 x5_1).f1.f1] : List ByteArray)) := ⟨_, rfl⟩
              replace H : (if x4_1.length + y139.length < 8796093022208 then (cellarerref12_Lay.l0 k1 l0 (x4_1 ++ y139) (wrap64 (x5_1 + 1))) else (none)) = some (r1, r2) := by first | (rw [hy139]; with_reducible exact H) | (have H2_ := (Option.bind_some _ _).symm.trans H; rw [hy139]; with_reducible exact H2_) | (have H2_ := (Option.bind_some _ _).symm.trans H; with_reducible exact H2_) | with_reducible exact H | (rw [hy139]; exact H) | exact H
              have Ny139 := Aside0.mk hy139
              clear hy139
              by_cases c21 : x4_1.length + y139.length < 8796093022208
              · rw [if_pos c21] at H
                have LMc21 := Aside0.mk c21
                clear c21
                obtain ⟨y142, hy142⟩ : ∃ y_ : List ByteArray, y_ = (x4_1 ++ y139) := ⟨_, rfl⟩
                replace H : (cellarerref12_Lay.l0 k1 l0 y142 (wrap64 (x5_1 + 1))) = some (r1, r2) := by first | (rw [hy142]; with_reducible exact H) | (have H2_ := (Option.bind_some _ _).symm.trans H; rw [hy142]; with_reducible exact H2_) | (have H2_ := (Option.bind_some _ _).symm.trans H; with_reducible exact H2_) | with_reducible exact H | (rw [hy142]; exact H) | exact H
                have Ny142 := Aside0.mk hy142
                clear hy142
                have H' := Aside0.mk H
                clear H
                have p120 : 0 ≤ (x5_1 : Int) := of_decide_eq_true (by first | (with_reducible assumption) | assumption)
                have q120 : x5_1 < (l0.length : Int) := of_decide_eq_true (by first | (with_reducible assumption) | assumption)
                obtain ⟨ad120, e120, hx120_0, hx120_1, hx120_2, hx120_3⟩ := at_T39 HR0.out x5_1 p120 q120
                (try rw [← Nbq6.out] at hx120_3); (try rw [← Nbq6.out] at hw120_3)
                cases e120
                replace hx120_0 := (HB.out.cell (World.block_lt_of_cell? w _ hx120_0)).trans hx120_0
                replace hx120_1 := (HB.out.cell (World.block_lt_of_cell? w _ hx120_1)).trans hx120_1
                replace hx120_2 := (HB.out.cell (World.block_lt_of_cell? w _ hx120_2)).trans hx120_2
                replace hx120_3 := (HB.out.cell (World.block_lt_of_cell? w _ hx120_3)).trans hx120_3
                replace p120 := eq_true p120
                replace q120 := eq_true q120
                try go_wp2_with (first | ((with_reducible refine gate_callee (f := 17) rfl ?_); refine goesL_ (some 19) rfl rfl Try.func17 (by kernel_rfl) rfl #[.agg #[.int .u64 ((rd_T39 l0 x5_1).f0), .string ((rd_T39 l0 x5_1).f1.f0), .string ((rd_T39 l0 x5_1).f1.f1), .bool false]] rfl (by (try simp only [List.map_toArray, List.map_cons, List.map_nil]); first | done | rfl | (simp only [List.length_drop, List.length_take]; rfl)) ?_; (with_reducible refine (cellarerref12_May.calls ((rd_T39 l0 x5_1).f0) ((rd_T39 l0 x5_1).f1.f0) ((rd_T39 l0 x5_1).f1.f1) false true _ A4.out).mono ?_); rintro e w22 ⟨rfl, hb⟩; refine ⟨_, rfl, ?_⟩; have n0_ := Aside0.mk (Kd.R_below (by (with_reducible repeat (first | apply Kd.R_alloc | apply Kd.R_drewN | apply Kd.R_drew)); exact HO_4.out) hb); have n1_ := Aside0.mk (below_step (by repeat (first | (with_reducible first | exact HB.out | apply below_alloc | apply pw_below_drewN | apply below_drew1) | exact HB.out)) hb); clear HO_4; clear HB; have HO_4 := n0_; have HB := n1_; clear n0_ n1_; (try clear hb); (try clear hb2); (try clear hk); (try clear hi); have p122 : 0 ≤ (x5_1 : Int) := of_decide_eq_true (by first | (with_reducible assumption) | assumption); have q122 : x5_1 < (l0.length : Int) := of_decide_eq_true (by first | (with_reducible assumption) | assumption); obtain ⟨ad122, e122, hx122_0, hx122_1, hx122_2, hx122_3⟩ := at_T39 HR0.out x5_1 p122 q122; (try rw [← Nbq6.out] at hx122_3); (try rw [← Nbq6.out] at hw122_3); obtain rfl : ad120 = ad122 := (by injection e122); replace hx122_0 := (HB.out.cell (World.block_lt_of_cell? w _ hx122_0)).trans hx122_0; replace hx122_1 := (HB.out.cell (World.block_lt_of_cell? w _ hx122_1)).trans hx122_1; replace hx122_2 := (HB.out.cell (World.block_lt_of_cell? w _ hx122_2)).trans hx122_2; replace hx122_3 := (HB.out.cell (World.block_lt_of_cell? w _ hx122_3)).trans hx122_3; replace p122 := eq_true p122; replace q122 := eq_true q122))
                have n0_ := Aside0.mk (Kd.R_drew HO_4.out)
                have n1_ := Aside0.mk (below_drew1 HB.out)
                clear HO_4
                clear HB
                have HO_4 := n0_
                have HB := n1_
                clear n0_ n1_
                have p134 : 0 ≤ (x5_1 : Int) := of_decide_eq_true (by first | (with_reducible assumption) | assumption)
                have q134 : x5_1 < (l0.length : Int) := of_decide_eq_true (by first | (with_reducible assumption) | assumption)
                obtain ⟨ad134, e134, hx134_0, hx134_1, hx134_2, hx134_3⟩ := at_T39 HR0.out x5_1 p134 q134
                have hw134_3 := hx134_3
                have hw134_2 := hx134_2
                have hw134_1 := hx134_1
                have hw134_0 := hx134_0
                (try rw [← Nbq6.out] at hx134_3); (try rw [← Nbq6.out] at hw134_3)
                obtain rfl : ad120 = ad134 := (by injection e134)
                replace hx134_0 := (HB.out.cell (World.block_lt_of_cell? w _ hx134_0)).trans hx134_0
                replace hx134_1 := (HB.out.cell (World.block_lt_of_cell? w _ hx134_1)).trans hx134_1
                replace hx134_2 := (HB.out.cell (World.block_lt_of_cell? w _ hx134_2)).trans hx134_2
                replace hx134_3 := (HB.out.cell (World.block_lt_of_cell? w _ hx134_3)).trans hx134_3
                replace p134 := eq_true p134
                replace q134 := eq_true q134
                have p136 : 0 ≤ (x5_1 : Int) := of_decide_eq_true (by first | (with_reducible assumption) | assumption)
                have q136 : x5_1 < (l0.length : Int) := of_decide_eq_true (by first | (with_reducible assumption) | assumption)
                obtain ⟨ad136, e136, hx136_0, hx136_1, hx136_2, hx136_3⟩ := at_T39 HR0.out x5_1 p136 q136
                have hw136_3 := hx136_3
                have hw136_2 := hx136_2
                have hw136_1 := hx136_1
                have hw136_0 := hx136_0
                (try rw [← Nbq6.out] at hx136_3); (try rw [← Nbq6.out] at hw136_3)
                obtain rfl : ad120 = ad136 := (by injection e136)
                replace hx136_0 := (HB.out.cell (World.block_lt_of_cell? w _ hx136_0)).trans hx136_0
                replace hx136_1 := (HB.out.cell (World.block_lt_of_cell? w _ hx136_1)).trans hx136_1
                replace hx136_2 := (HB.out.cell (World.block_lt_of_cell? w _ hx136_2)).trans hx136_2
                replace hx136_3 := (HB.out.cell (World.block_lt_of_cell? w _ hx136_3)).trans hx136_3
                replace p136 := eq_true p136
                replace q136 := eq_true q136
                have p138 : 0 ≤ (x5_1 : Int) := of_decide_eq_true (by first | (with_reducible assumption) | assumption)
                have q138 : x5_1 < (l0.length : Int) := of_decide_eq_true (by first | (with_reducible assumption) | assumption)
                obtain ⟨ad138, e138, hx138_0, hx138_1, hx138_2, hx138_3⟩ := at_T39 HR0.out x5_1 p138 q138
                have hw138_3 := hx138_3
                have hw138_2 := hx138_2
                have hw138_1 := hx138_1
                have hw138_0 := hx138_0
                (try rw [← Nbq6.out] at hx138_3); (try rw [← Nbq6.out] at hw138_3)
                obtain rfl : ad120 = ad138 := (by injection e138)
                replace hx138_0 := (HB.out.cell (World.block_lt_of_cell? w _ hx138_0)).trans hx138_0
                replace hx138_1 := (HB.out.cell (World.block_lt_of_cell? w _ hx138_1)).trans hx138_1
                replace hx138_2 := (HB.out.cell (World.block_lt_of_cell? w _ hx138_2)).trans hx138_2
                replace hx138_3 := (HB.out.cell (World.block_lt_of_cell? w _ hx138_3)).trans hx138_3
                replace p138 := eq_true p138
                replace q138 := eq_true q138
                refine start_ (n := 24) (S := fun w' => w'.cell? (ad120.add ((x5_1).toNat * 4)) = some (.int .u64 ((rd_T39 l0 x5_1).f0)) ∧ w'.cell? ⟨(ad120.add ((x5_1).toNat * 4)).block, (ad120.add ((x5_1).toNat * 4)).off + 1, none⟩ = some (.string ((rd_T39 l0 x5_1).f1.f0)) ∧ w'.cell? ⟨(ad120.add ((x5_1).toNat * 4)).block, (ad120.add ((x5_1).toNat * 4)).off + 2, none⟩ = some (.string ((rd_T39 l0 x5_1).f1.f1)) ∧ w'.cell? ⟨(ad120.add ((x5_1).toNat * 4)).block, (ad120.add ((x5_1).toNat * 4)).off + 3, none⟩ = some (.bool (false)) ∧ w'.cell? (ad120.add ((x5_1).toNat * 4)) = some (.int .u64 ((rd_T39 l0 x5_1).f0)) ∧ w'.cell? ⟨(ad120.add ((x5_1).toNat * 4)).block, (ad120.add ((x5_1).toNat * 4)).off + 1, none⟩ = some (.string ((rd_T39 l0 x5_1).f1.f0)) ∧ w'.cell? ⟨(ad120.add ((x5_1).toNat * 4)).block, (ad120.add ((x5_1).toNat * 4)).off + 2, none⟩ = some (.string ((rd_T39 l0 x5_1).f1.f1)) ∧ w'.cell? ⟨(ad120.add ((x5_1).toNat * 4)).block, (ad120.add ((x5_1).toNat * 4)).off + 3, none⟩ = some (.bool (false)) ∧ w'.cell? (ad120.add ((x5_1).toNat * 4)) = some (.int .u64 ((rd_T39 l0 x5_1).f0)) ∧ w'.cell? ⟨(ad120.add ((x5_1).toNat * 4)).block, (ad120.add ((x5_1).toNat * 4)).off + 1, none⟩ = some (.string ((rd_T39 l0 x5_1).f1.f0)) ∧ w'.cell? ⟨(ad120.add ((x5_1).toNat * 4)).block, (ad120.add ((x5_1).toNat * 4)).off + 2, none⟩ = some (.string ((rd_T39 l0 x5_1).f1.f1)) ∧ w'.cell? ⟨(ad120.add ((x5_1).toNat * 4)).block, (ad120.add ((x5_1).toNat * 4)).off + 3, none⟩ = some (.bool (false))) (ds := []) #[false, false, false, false, false, false, false, false, false, false, false, false, false, false, false, false, false, false, false, false, false, false, false, false] (by kernel_rfl) rfl rfl ⟨((HB.out.cell (World.block_lt_of_cell? w _ hw134_0)).trans hw134_0), ((HB.out.cell (World.block_lt_of_cell? w _ hw134_1)).trans hw134_1), ((HB.out.cell (World.block_lt_of_cell? w _ hw134_2)).trans hw134_2), ((HB.out.cell (World.block_lt_of_cell? w _ hw134_3)).trans hw134_3), ((HB.out.cell (World.block_lt_of_cell? w _ hw136_0)).trans hw136_0), ((HB.out.cell (World.block_lt_of_cell? w _ hw136_1)).trans hw136_1), ((HB.out.cell (World.block_lt_of_cell? w _ hw136_2)).trans hw136_2), ((HB.out.cell (World.block_lt_of_cell? w _ hw136_3)).trans hw136_3), ((HB.out.cell (World.block_lt_of_cell? w _ hw138_0)).trans hw138_0), ((HB.out.cell (World.block_lt_of_cell? w _ hw138_1)).trans hw138_1), ((HB.out.cell (World.block_lt_of_cell? w _ hw138_2)).trans hw138_2), ((HB.out.cell (World.block_lt_of_cell? w _ hw138_3)).trans hw138_3)⟩ (fun hHeld => ?_); refine with_tabW cellarerref12_Lay.tab10 cellarerref12_Lay.bits10 (fun HT_ HW_ => ?_)
                generalize w22.drew = w23 at HO_4 HB hx134_0 hx134_1 hx134_2 hx134_3 hx136_0 hx136_1 hx136_2 hx136_3 hx138_0 hx138_1 hx138_2 hx138_3 hHeld ⊢
                refine pure_ (i := 0) (N := some 27) (v := ?_) (a' := ?_) #[true, false, false, false, false, false, false, false, false, false, false, false, false, false, false, false, false, false, false, false, false, false, false, false] rfl rfl (any_of HT_.out (by kernel_rfl)) (fun _ _ _ h => h) (Or.inl ⟨by rfl, ?_⟩) ?_ ?_
                rotate_left
                · intro w'
                  go_simp
                  with_reducible rfl
                rotate_left
                · simp only [Act.put, List.setIfInBounds_toArray, List.set_cons_zero, List.set_cons_succ, i64_w, i32_w]
                  rfl
                refine pure_ (i := 1) (N := some 28) (v := ?_) (a' := ?_) #[true, true, false, false, false, false, false, false, false, false, false, false, false, false, false, false, false, false, false, false, false, false, false, false] rfl rfl (any_of HT_.out (by kernel_rfl)) (fun _ _ _ h => h) (Or.inl ⟨by rfl, ?_⟩) ?_ ?_
                rotate_left
                · intro w'
                  go_simp
                  with_reducible rfl
                rotate_left
                · simp only [Act.put, List.setIfInBounds_toArray, List.set_cons_zero, List.set_cons_succ, i64_w, i32_w]
                  rfl
                refine pure_ (i := 2) (N := some 29) (v := ?_) (a' := ?_) #[true, true, true, false, false, false, false, false, false, false, false, false, false, false, false, false, false, false, false, false, false, false, false, false] rfl rfl (any_of HT_.out (by kernel_rfl)) (fun _ _ _ h => h) (Or.inl ⟨by rfl, ?_⟩) ?_ ?_
                rotate_left
                · intro w'
                  go_simp
                  with_reducible rfl
                rotate_left
                · simp only [Act.put, List.setIfInBounds_toArray, List.set_cons_zero, List.set_cons_succ, i64_w, i32_w]
                  rfl
                refine pure_ (i := 3) (N := some 30) (v := ?_) (a' := ?_) #[true, true, true, true, false, false, false, false, false, false, false, false, false, false, false, false, false, false, false, false, false, false, false, false] rfl rfl (any_of HT_.out (by kernel_rfl)) (fun _ _ _ h => h) (Or.inl ⟨by rfl, ?_⟩) ?_ ?_
                rotate_left
                · intro w'
                  go_simp
                  with_reducible rfl
                rotate_left
                · simp only [Act.put, List.setIfInBounds_toArray, List.set_cons_zero, List.set_cons_succ, i64_w, i32_w]
                  rfl
                refine pure_ (i := 4) (N := some 31) (v := ?_) (a' := ?_) #[true, true, true, true, true, false, false, false, false, false, false, false, false, false, false, false, false, false, false, false, false, false, false, false] rfl rfl (any_of HT_.out (by kernel_rfl)) (fun _ _ _ h => h) (Or.inl ⟨by rfl, ?_⟩) ?_ ?_
                rotate_left
                · intro w'
                  go_simp
                  with_reducible rfl
                rotate_left
                · simp only [Act.put, List.setIfInBounds_toArray, List.set_cons_zero, List.set_cons_succ, i64_w, i32_w]
                  rfl
                refine pure_ (i := 7) (N := some 34) (v := ?_) (a' := ?_) #[true, true, true, true, true, false, false, true, false, false, false, false, false, false, false, false, false, false, false, false, false, false, false, false] rfl rfl (any_of HT_.out (by kernel_rfl)) (fun _ _ _ h => h) (Or.inl ⟨by rfl, ?_⟩) ?_ ?_
                rotate_left
                · intro w'
                  go_simp
                  with_reducible rfl
                rotate_left
                · simp only [Act.put, List.setIfInBounds_toArray, List.set_cons_zero, List.set_cons_succ, i64_w, i32_w]
                  rfl
                refine pure_ (i := 8) (N := some 35) (v := ?_) (a' := ?_) #[true, true, true, true, true, false, false, true, true, false, false, false, false, false, false, false, false, false, false, false, false, false, false, false] rfl rfl (any_of HT_.out (by kernel_rfl)) (fun _ _ _ h => h) (Or.inl ⟨by rfl, ?_⟩) ?_ ?_
                rotate_left
                · intro w'
                  go_simp
                  with_reducible rfl
                rotate_left
                · simp only [Act.put, List.setIfInBounds_toArray, List.set_cons_zero, List.set_cons_succ, i64_w, i32_w]
                  rfl
                refine pure_ (i := 9) (N := some 36) (v := ?_) (a' := ?_) #[true, true, true, true, true, false, false, true, true, true, false, false, false, false, false, false, false, false, false, false, false, false, false, false] rfl rfl (any_of HT_.out (by kernel_rfl)) (fun _ _ _ h => h) (Or.inl ⟨by rfl, ?_⟩) ?_ ?_
                rotate_left
                · intro w'
                  go_simp
                  with_reducible rfl
                rotate_left
                · simp only [Act.put, List.setIfInBounds_toArray, List.set_cons_zero, List.set_cons_succ, i64_w, i32_w]
                  rfl
                refine pure_ (i := 10) (N := some 37) (v := ?_) (a' := ?_) #[true, true, true, true, true, false, false, true, true, true, true, false, false, false, false, false, false, false, false, false, false, false, false, false] rfl rfl (any_of HT_.out (by kernel_rfl)) (fun _ _ _ h => h) (Or.inl ⟨by rfl, ?_⟩) ?_ ?_
                rotate_left
                · intro w'
                  go_simp
                  with_reducible rfl
                rotate_left
                · simp only [Act.put, List.setIfInBounds_toArray, List.set_cons_zero, List.set_cons_succ, i64_w, i32_w]
                  rfl
                refine pure_ (i := 11) (N := some 38) (v := ?_) (a' := ?_) #[true, true, true, true, true, false, false, true, true, true, true, true, false, false, false, false, false, false, false, false, false, false, false, false] rfl rfl (any_of HT_.out (by kernel_rfl)) (fun _ _ _ h => h) (Or.inl ⟨by rfl, ?_⟩) ?_ ?_
                rotate_left
                · intro w'
                  go_simp
                  with_reducible rfl
                rotate_left
                · simp only [Act.put, List.setIfInBounds_toArray, List.set_cons_zero, List.set_cons_succ, i64_w, i32_w]
                  rfl
                refine pure_ (i := 13) (N := some 40) (v := ?_) (a' := ?_) #[true, true, true, true, true, false, false, true, true, true, true, true, false, true, false, false, false, false, false, false, false, false, false, false] rfl rfl (any_of HT_.out (by kernel_rfl)) (fun _ _ _ h => h) (Or.inl ⟨by rfl, ?_⟩) ?_ ?_
                rotate_left
                · intro w'
                  go_simp
                  with_reducible rfl
                rotate_left
                · simp only [Act.put, List.setIfInBounds_toArray, List.set_cons_zero, List.set_cons_succ, i64_w, i32_w]
                  rfl
                refine pure_ (i := 15) (N := some 42) (v := ?_) (a' := ?_) #[true, true, true, true, true, false, false, true, true, true, true, true, false, true, false, true, false, false, false, false, false, false, false, false] rfl rfl (any_of HT_.out (by kernel_rfl)) (fun _ _ _ h => h) (Or.inl ⟨by rfl, ?_⟩) ?_ ?_
                rotate_left
                · intro w'
                  go_simp
                  with_reducible rfl
                rotate_left
                · simp only [Act.put, List.setIfInBounds_toArray, List.set_cons_zero, List.set_cons_succ, i64_w, i32_w]
                  rfl
                refine pure_ (i := 16) (N := some 43) (v := ?_) (a' := ?_) #[true, true, true, true, true, false, false, true, true, true, true, true, false, true, false, true, true, false, false, false, false, false, false, false] rfl rfl (any_of HT_.out (by kernel_rfl)) (fun _ _ _ h => h) (Or.inl ⟨by rfl, ?_⟩) ?_ ?_
                rotate_left
                · intro w'
                  go_simp
                  with_reducible rfl
                rotate_left
                · simp only [Act.put, List.setIfInBounds_toArray, List.set_cons_zero, List.set_cons_succ, i64_w, i32_w]
                  rfl
                refine pure_ (i := 17) (N := some 44) (v := ?_) (a' := ?_) #[true, true, true, true, true, false, false, true, true, true, true, true, false, true, false, true, true, true, false, false, false, false, false, false] rfl rfl (any_of HT_.out (by kernel_rfl)) (fun _ _ _ h => h) (Or.inl ⟨by rfl, ?_⟩) ?_ ?_
                rotate_left
                · intro w'
                  go_simp
                  with_reducible rfl
                rotate_left
                · simp only [Act.put, List.setIfInBounds_toArray, List.set_cons_zero, List.set_cons_succ, i64_w, i32_w]
                  rfl
                refine pure_ (i := 18) (N := some 45) (v := ?_) (a' := ?_) #[true, true, true, true, true, false, false, true, true, true, true, true, false, true, false, true, true, true, true, false, false, false, false, false] rfl rfl (any_of HT_.out (by kernel_rfl)) (fun _ _ _ h => h) (Or.inl ⟨by rfl, ?_⟩) ?_ ?_
                rotate_left
                · intro w'
                  go_simp
                  with_reducible rfl
                rotate_left
                · simp only [Act.put, List.setIfInBounds_toArray, List.set_cons_zero, List.set_cons_succ, i64_w, i32_w]
                  rfl
                refine pure_ (i := 19) (N := some 46) (v := ?_) (a' := ?_) #[true, true, true, true, true, false, false, true, true, true, true, true, false, true, false, true, true, true, true, true, false, false, false, false] rfl rfl (any_of HT_.out (by kernel_rfl)) (fun _ _ _ h => h) (Or.inl ⟨by rfl, ?_⟩) ?_ ?_
                rotate_left
                · intro w'
                  go_simp
                  with_reducible rfl
                rotate_left
                · simp only [Act.put, List.setIfInBounds_toArray, List.set_cons_zero, List.set_cons_succ, i64_w, i32_w]
                  rfl
                refine take_ (i := 5) (N := some 32) (v := ?_) (a' := ?_) #[true, true, true, true, true, true, false, true, true, true, true, true, false, true, false, true, true, true, true, true, false, false, false, false] rfl rfl (take_ofW HT_.out HW_.out (by kernel_rfl)) (fun _ _ _ h => h) (Or.inl ⟨by rfl, ?_⟩) hHeld ?_ ?_
                rotate_left
                · rintro w' ⟨s0, s1, s2, s3, s4, s5, s6, s7, s8, s9, s10, s11⟩
                  go_simp
                  with_reducible rfl
                rotate_left
                · simp only [Act.put, List.setIfInBounds_toArray, List.set_cons_zero, List.set_cons_succ, i64_w, i32_w]
                  rfl
                refine take_ (i := 12) (N := some 39) (v := ?_) (a' := ?_) #[true, true, true, true, true, true, false, true, true, true, true, true, true, true, false, true, true, true, true, true, false, false, false, false] rfl rfl (take_ofW HT_.out HW_.out (by kernel_rfl)) (fun _ _ _ h => h) (Or.inl ⟨by rfl, ?_⟩) hHeld ?_ ?_
                rotate_left
                · rintro w' ⟨s0, s1, s2, s3, s4, s5, s6, s7, s8, s9, s10, s11⟩
                  go_simp
                  with_reducible rfl
                rotate_left
                · simp only [Act.put, List.setIfInBounds_toArray, List.set_cons_zero, List.set_cons_succ, i64_w, i32_w]
                  rfl
                refine take_ (i := 20) (N := some 47) (v := ?_) (a' := ?_) #[true, true, true, true, true, true, false, true, true, true, true, true, true, true, false, true, true, true, true, true, true, false, false, false] rfl rfl (take_ofW HT_.out HW_.out (by kernel_rfl)) (fun _ _ _ h => h) (Or.inl ⟨by rfl, ?_⟩) hHeld ?_ ?_
                rotate_left
                · rintro w' ⟨s0, s1, s2, s3, s4, s5, s6, s7, s8, s9, s10, s11⟩
                  go_simp
                  with_reducible rfl
                rotate_left
                · simp only [Act.put, List.setIfInBounds_toArray, List.set_cons_zero, List.set_cons_succ, i64_w, i32_w]
                  rfl
                refine one_ (i := 6) (N := some 33) #[true, true, true, true, true, true, true, true, true, true, true, true, true, true, false, true, true, true, true, true, true, false, false, false] rfl rfl (one_of HT_.out (by kernel_rfl)) (by decide) (fun K hK => ?_)
                refine goes_ Try.func32 (by kernel_rfl) rfl #[.int .u64 ((rd_T39 l0 x5_1).f0)] (by rfl) rfl rfl (by (try simp only [List.map_toArray, List.map_cons, List.map_nil]); first | done | rfl | (simp only [List.length_drop, List.length_take]; rfl)) ?_
                with_reducible refine (cellarerref02_Num.calls k1 ((rd_T39 l0 x5_1).f0) t135 _ A19.out).mono ?_
                rintro e w24 ⟨rfl, hb⟩
                refine ⟨_, rfl, ?_⟩
                have n0_ := Aside0.mk (Kd.R_below (by (with_reducible repeat (first | apply Kd.R_alloc | apply Kd.R_drewN | apply Kd.R_drew)); exact HO_4.out) hb)
                have n1_ := Aside0.mk (below_step (by repeat (first | (with_reducible first | exact HB.out | apply below_alloc | apply pw_below_drewN | apply below_drew1) | exact HB.out)) hb)
                clear HO_4
                clear HB
                have HO_4 := n0_
                have HB := n1_
                clear n0_ n1_
                (try clear hb)
                (try clear hb2)
                (try clear hk)
                (try clear hi)
                refine hK.out _ _ ⟨((HB.out.cell (World.block_lt_of_cell? w _ hw134_0)).trans hw134_0), ((HB.out.cell (World.block_lt_of_cell? w _ hw134_1)).trans hw134_1), ((HB.out.cell (World.block_lt_of_cell? w _ hw134_2)).trans hw134_2), ((HB.out.cell (World.block_lt_of_cell? w _ hw134_3)).trans hw134_3), ((HB.out.cell (World.block_lt_of_cell? w _ hw136_0)).trans hw136_0), ((HB.out.cell (World.block_lt_of_cell? w _ hw136_1)).trans hw136_1), ((HB.out.cell (World.block_lt_of_cell? w _ hw136_2)).trans hw136_2), ((HB.out.cell (World.block_lt_of_cell? w _ hw136_3)).trans hw136_3), ((HB.out.cell (World.block_lt_of_cell? w _ hw138_0)).trans hw138_0), ((HB.out.cell (World.block_lt_of_cell? w _ hw138_1)).trans hw138_1), ((HB.out.cell (World.block_lt_of_cell? w _ hw138_2)).trans hw138_2), ((HB.out.cell (World.block_lt_of_cell? w _ hw138_3)).trans hw138_3)⟩ (fun hHeld => ?_)
                clear hK K
                refine norm_ (a' := ?_) ?_ ?_
                rotate_left
                · show Act.put _ (some 33) _ = _
                  simp only [Act.put, List.setIfInBounds_toArray, List.set_cons_zero, List.set_cons_succ, i64_w, i32_w]
                  rfl
                refine one_ (i := 14) (N := some 41) #[true, true, true, true, true, true, true, true, true, true, true, true, true, true, true, true, true, true, true, true, true, false, false, false] rfl rfl (one_of HT_.out (by kernel_rfl)) (by decide) (fun K hK => ?_)
                refine goes_ Try.func32 (by kernel_rfl) rfl #[.int .u64 0] (by rfl) rfl rfl (by (try simp only [List.map_toArray, List.map_cons, List.map_nil]); first | done | rfl | (simp only [List.length_drop, List.length_take]; rfl)) ?_
                with_reducible refine (cellarerref02_Num.calls k1 0 t137 _ A20.out).mono ?_
                rintro e w25 ⟨rfl, hb⟩
                refine ⟨_, rfl, ?_⟩
                have n0_ := Aside0.mk (Kd.R_below (by (with_reducible repeat (first | apply Kd.R_alloc | apply Kd.R_drewN | apply Kd.R_drew)); exact HO_4.out) hb)
                have n1_ := Aside0.mk (below_step (by repeat (first | (with_reducible first | exact HB.out | apply below_alloc | apply pw_below_drewN | apply below_drew1) | exact HB.out)) hb)
                clear HO_4
                clear HB
                have HO_4 := n0_
                have HB := n1_
                clear n0_ n1_
                (try clear hb)
                (try clear hb2)
                (try clear hk)
                (try clear hi)
                refine hK.out _ _ ⟨((HB.out.cell (World.block_lt_of_cell? w _ hw134_0)).trans hw134_0), ((HB.out.cell (World.block_lt_of_cell? w _ hw134_1)).trans hw134_1), ((HB.out.cell (World.block_lt_of_cell? w _ hw134_2)).trans hw134_2), ((HB.out.cell (World.block_lt_of_cell? w _ hw134_3)).trans hw134_3), ((HB.out.cell (World.block_lt_of_cell? w _ hw136_0)).trans hw136_0), ((HB.out.cell (World.block_lt_of_cell? w _ hw136_1)).trans hw136_1), ((HB.out.cell (World.block_lt_of_cell? w _ hw136_2)).trans hw136_2), ((HB.out.cell (World.block_lt_of_cell? w _ hw136_3)).trans hw136_3), ((HB.out.cell (World.block_lt_of_cell? w _ hw138_0)).trans hw138_0), ((HB.out.cell (World.block_lt_of_cell? w _ hw138_1)).trans hw138_1), ((HB.out.cell (World.block_lt_of_cell? w _ hw138_2)).trans hw138_2), ((HB.out.cell (World.block_lt_of_cell? w _ hw138_3)).trans hw138_3)⟩ (fun hHeld => ?_)
                clear hK K
                refine norm_ (a' := ?_) ?_ ?_
                rotate_left
                · show Act.put _ (some 41) _ = _
                  simp only [Act.put, List.setIfInBounds_toArray, List.set_cons_zero, List.set_cons_succ, i64_w, i32_w]
                  rfl
                refine one_ (i := 21) (N := some 48) #[true, true, true, true, true, true, true, true, true, true, true, true, true, true, true, true, true, true, true, true, true, true, false, false] rfl rfl (one_of HT_.out (by kernel_rfl)) (by decide) (fun K hK => ?_)
                refine Kd.R_lit_step Kd.string _ 9 ?hg (N := 48) ?hd (xs := ([t135, (rd_T39 l0 x5_1).f1.f0, t137, (rd_T39 l0 x5_1).f1.f1] : List ByteArray)) (inner := [.string t135, .string ((rd_T39 l0 x5_1).f1.f0), .string t137, .string ((rd_T39 l0 x5_1).f1.f1)]) (ok := fun _ => True) (okp := fun _ => True) ?hr ?hp (fun _ hk => hk) trivial (Below.refl _ _) (Nat.le_refl _) (by simp) ?_; (case hd => rfl); (case hg => rfl); (case hr => first | (go_simp; done) | (go_simp; rfl)); (case hp => exact (Reps.one (show Kd.M Kd.string _ _ _ t135 [.string t135] from rfl) (Reps.one (show Kd.M Kd.string _ _ _ ((rd_T39 l0 x5_1).f1.f0) [.string ((rd_T39 l0 x5_1).f1.f0)] from rfl) (Reps.one (show Kd.M Kd.string _ _ _ t137 [.string t137] from rfl) (Reps.one (show Kd.M Kd.string _ _ _ ((rd_T39 l0 x5_1).f1.f1) [.string ((rd_T39 l0 x5_1).f1.f1)] from rfl) (Reps.none _ _))))))
                intro v140 w26 ho27 hb hg_ hnew_
                clear hg_ hnew_
                (first | rw [← Ny139.out] at ho27 | (simp only [Int.reduceToNat] at ho27; rw [← Ny139.out] at ho27))
                have n0_ := Aside0.mk (Kd.R_elder' (by (with_reducible repeat (first | apply Kd.R_alloc | apply Kd.R_drewN | apply Kd.R_drew)); exact HO_4.out) (Kd.R_base ho27) hb)
                have n1_ := Aside0.mk (Kd.R_lower (Kd.R_new' ho27 (Kd.R_lt (by (with_reducible repeat (first | apply Kd.R_alloc | apply Kd.R_drewN | apply Kd.R_drew)); exact HO_4.out))) (below_size (by repeat (first | (with_reducible first | exact HB.out | apply below_alloc | apply pw_below_drewN | apply below_drew1) | exact HB.out))))
                have n2_ := Aside0.mk (below_step (by repeat (first | (with_reducible first | exact HB.out | apply below_alloc | apply pw_below_drewN | apply below_drew1) | exact HB.out)) hb)
                clear HO_4
                clear HB
                have HO_4 := n0_
                have HO141 := n1_
                have HB := n2_
                clear n0_ n1_ n2_
                clear hb ho27
                obtain ⟨Ao29, co29, eo29⟩ := Kd.R_slice HO141.out
                (first | subst eo29 | (injection eo29 with f1_ f2_ f3_; have f4_ := f1_.symm; have f5_ := f3_.symm; clear f1_ f2_ f3_; subst f4_; subst f5_))
                refine hK.out _ _ ⟨((HB.out.cell (World.block_lt_of_cell? w _ hw134_0)).trans hw134_0), ((HB.out.cell (World.block_lt_of_cell? w _ hw134_1)).trans hw134_1), ((HB.out.cell (World.block_lt_of_cell? w _ hw134_2)).trans hw134_2), ((HB.out.cell (World.block_lt_of_cell? w _ hw134_3)).trans hw134_3), ((HB.out.cell (World.block_lt_of_cell? w _ hw136_0)).trans hw136_0), ((HB.out.cell (World.block_lt_of_cell? w _ hw136_1)).trans hw136_1), ((HB.out.cell (World.block_lt_of_cell? w _ hw136_2)).trans hw136_2), ((HB.out.cell (World.block_lt_of_cell? w _ hw136_3)).trans hw136_3), ((HB.out.cell (World.block_lt_of_cell? w _ hw138_0)).trans hw138_0), ((HB.out.cell (World.block_lt_of_cell? w _ hw138_1)).trans hw138_1), ((HB.out.cell (World.block_lt_of_cell? w _ hw138_2)).trans hw138_2), ((HB.out.cell (World.block_lt_of_cell? w _ hw138_3)).trans hw138_3)⟩ (fun hHeld => ?_)
                clear hK K
                refine norm_ (a' := ?_) ?_ ?_
                rotate_left
                · show Act.put _ (some 48) _ = _
                  simp only [Act.put, List.setIfInBounds_toArray, List.set_cons_zero, List.set_cons_succ, i64_w, i32_w]
                  rfl
                refine one_ (i := 22) (N := some 49) #[true, true, true, true, true, true, true, true, true, true, true, true, true, true, true, true, true, true, true, true, true, true, true, false] rfl rfl (one_of HT_.out (by kernel_rfl)) (by decide) (fun K hK => ?_)
                refine Kd.R_append_rows_step Kd.string (w0 := w) w.heap.size (by rfl) (.tmp 27) (.tmp 48) 59 9 (.string ⟨#[]⟩) 16 rfl Try.underlying59 info9 rfl (by decide) (by omega) u4 x4_1 y139 _ _ _ (fun k_ => some k_ ≠ (.slice Ao29 y139.length co29 : Value).ownBlock) (fun _ => False) rfl rfl ?aO ?aR (fun _ _ h => h) (fun _ h => h.elim) ?aF ?aB ?aS ?aL ?_
                (case aR => repeat (first | exact (Kd.R_reads' HO141.out).2.2 | (with_reducible refine Kd.C_alloc ?_ _) | (with_reducible refine Kd.C_drewN ?_ _) | (with_reducible refine Kd.C_drew ?_)))
                (case aB => exact (by repeat (first | (with_reducible first | exact HB.out | apply below_alloc | apply pw_below_drewN | apply below_drew1) | exact HB.out)))
                (case aF => exact (fun k_ hk => Kd.fresh' (Kd.R_lt (by (with_reducible repeat (first | apply Kd.R_alloc | apply Kd.R_drewN | apply Kd.R_drew)); exact HO141.out)) k_ hk))
                (case aO => exact (by (with_reducible repeat (first | apply Kd.R_alloc | apply Kd.R_drewN | apply Kd.R_drew)); exact Kd.R_mono HO_4.out (fun _ hk => hk.2)))
                (case aS => exact (below_size (by repeat (first | (with_reducible first | exact HB.out | apply below_alloc | apply pw_below_drewN | apply below_drew1) | exact HB.out))))
                (case aL => have := LMc21.out; omega)
                intro v143 w28 ho hb hg hat
                rw [← Ny142.out] at ho
                have n0_ := Aside0.mk (Kd.R_after (ok := (fun _ => True)) (by (with_reducible repeat (first | apply Kd.R_alloc | apply Kd.R_drewN | apply Kd.R_drew)); exact HO141.out) hg hat)
                have n1_ := Aside0.mk (hb)
                have n2_ := Aside0.mk (ho)
                clear HO141
                clear HB
                clear HO_4
                have HO141 := n0_
                have HB := n1_
                have HO144 := n2_
                clear n0_ n1_ n2_
                clear ho hb hg hat
                refine hK.out _ _ ⟨((HB.out.cell (World.block_lt_of_cell? w _ hw134_0)).trans hw134_0), ((HB.out.cell (World.block_lt_of_cell? w _ hw134_1)).trans hw134_1), ((HB.out.cell (World.block_lt_of_cell? w _ hw134_2)).trans hw134_2), ((HB.out.cell (World.block_lt_of_cell? w _ hw134_3)).trans hw134_3), ((HB.out.cell (World.block_lt_of_cell? w _ hw136_0)).trans hw136_0), ((HB.out.cell (World.block_lt_of_cell? w _ hw136_1)).trans hw136_1), ((HB.out.cell (World.block_lt_of_cell? w _ hw136_2)).trans hw136_2), ((HB.out.cell (World.block_lt_of_cell? w _ hw136_3)).trans hw136_3), ((HB.out.cell (World.block_lt_of_cell? w _ hw138_0)).trans hw138_0), ((HB.out.cell (World.block_lt_of_cell? w _ hw138_1)).trans hw138_1), ((HB.out.cell (World.block_lt_of_cell? w _ hw138_2)).trans hw138_2), ((HB.out.cell (World.block_lt_of_cell? w _ hw138_3)).trans hw138_3)⟩ (fun hHeld => ?_)
                clear hK K
                refine norm_ (a' := ?_) ?_ ?_
                rotate_left
                · show Act.put _ (some 49) _ = _
                  simp only [Act.put, List.setIfInBounds_toArray, List.set_cons_zero, List.set_cons_succ, i64_w, i32_w]
                  rfl
                refine pure_ (i := 23) (N := some 4) (v := ?_) (a' := ?_) #[true, true, true, true, true, true, true, true, true, true, true, true, true, true, true, true, true, true, true, true, true, true, true, true] rfl rfl (any_of HT_.out (by kernel_rfl)) (fun _ _ _ h => h) (Or.inl ⟨by rfl, ?_⟩) ?_ ?_
                rotate_left
                · intro w'
                  go_simp
                  with_reducible rfl
                rotate_left
                · simp only [Act.put, List.setIfInBounds_toArray, List.set_cons_zero, List.set_cons_succ, i64_w, i32_w]
                  rfl
                refine done_ (done_of HT_.out (by kernel_rfl)) ?_
                try go_wp2
                go_roundg k1
                case measure => have := HK1.out; omega
                case rel => exact ⟨(y142), (wrap64 (x5_1 + 1)), (by first | rfl | (simp; done) | (simp [*]; done)), H', ⟨by have := HK1.out; omega⟩, ⟨by (with_reducible repeat (first | apply Kd.R_alloc | apply Kd.R_drewN | apply Kd.R_drew)); exact Kd.R_mono HO144.out (fun _ hk => trivial)⟩, ⟨by repeat (first | (with_reducible first | exact HB.out | apply below_alloc | apply pw_below_drewN | apply below_drew1) | exact HB.out)⟩⟩
              · rw [if_neg c21] at H
                exact absurd H (by simp)
          · replace c5 := Bool.eq_false_iff.mpr c5
            subst c5
            have H1 : (some ((⟨#[]⟩ : ByteArray), 1)) = some (r1, r2) := by rw [if_neg (show ¬ (false = true) by decide)] at H; exact H
            clear H
            have H := H1
            clear H1
            simp only [Option.some.injEq, Prod.mk.injEq] at H
            obtain ⟨rfl, rfl⟩ := H
            have p120 : 0 ≤ (x5_1 : Int) := of_decide_eq_true (by first | (with_reducible assumption) | assumption)
            have q120 : x5_1 < (l0.length : Int) := of_decide_eq_true (by first | (with_reducible assumption) | assumption)
            obtain ⟨ad120, e120, hx120_0, hx120_1, hx120_2, hx120_3⟩ := at_T39 HR0.out x5_1 p120 q120
            cases e120
            replace hx120_0 := (HB.out.cell (World.block_lt_of_cell? w _ hx120_0)).trans hx120_0
            replace hx120_1 := (HB.out.cell (World.block_lt_of_cell? w _ hx120_1)).trans hx120_1
            replace hx120_2 := (HB.out.cell (World.block_lt_of_cell? w _ hx120_2)).trans hx120_2
            replace hx120_3 := (HB.out.cell (World.block_lt_of_cell? w _ hx120_3)).trans hx120_3
            replace p120 := eq_true p120
            replace q120 := eq_true q120
            go_wp2_with (first | ((with_reducible refine gate_callee (f := 17) rfl ?_); refine goesL_ (some 19) rfl rfl Try.func17 (by kernel_rfl) rfl #[.agg #[.int .u64 ((rd_T39 l0 x5_1).f0), .string ((rd_T39 l0 x5_1).f1.f0), .string ((rd_T39 l0 x5_1).f1.f1), .bool ((rd_T39 l0 x5_1).f1.f2)]] rfl (by (try simp only [List.map_toArray, List.map_cons, List.map_nil]); first | done | rfl | (simp only [List.length_drop, List.length_take]; rfl)) ?_; (with_reducible refine (cellarerref12_May.calls ((rd_T39 l0 x5_1).f0) ((rd_T39 l0 x5_1).f1.f0) ((rd_T39 l0 x5_1).f1.f1) ((rd_T39 l0 x5_1).f1.f2) false _ A4.out).mono ?_); rintro e w30 ⟨rfl, hb⟩; refine ⟨_, rfl, ?_⟩; have n0_ := Aside0.mk (Kd.R_below (by (with_reducible repeat (first | apply Kd.R_alloc | apply Kd.R_drewN | apply Kd.R_drew)); exact HO_4.out) hb); have n1_ := Aside0.mk (below_step (by repeat (first | (with_reducible first | exact HB.out | apply below_alloc | apply pw_below_drewN | apply below_drew1) | exact HB.out)) hb); clear HO_4; clear HB; have HO_4 := n0_; have HB := n1_; clear n0_ n1_; (try clear hb); (try clear hb2); (try clear hk); (try clear hi)))
            go_ret2
            exact ⟨by first | rfl | (simp [errW_none, errW_some] <;> rfl) | (simp [*, errW_none, errW_some] <;> rfl), by repeat (first | (with_reducible first | exact HB.out | apply below_alloc | apply pw_below_drewN | apply below_drew1) | exact HB.out)⟩
        · rw [if_neg c3] at H
          exact absurd H (by simp)
      · rw [if_neg c2] at H
        have c2b0 : decide (x5_1 < (l0.length : Int)) = false := decide_eq_false c2
        clear c2
        have HC31 := Aside0.mk H
        clear H
        go_upto_region 11 with (fail)
        go_cut [57] (fun v57 wc => ∃ (kq : Nat) (x57_30 : Bool), v57 = .bool x57_30 ∧ Aside0 (cellarerref12_Lay.j1 kq x4_1 x57_30 = some (r1, r2)) ∧ Aside0 (kq ≤ k1) ∧ Aside0 (Kd.R Kd.string 9 wc w.heap.size (fun _ => True) u4 x4_1) ∧ Aside0 (Below w.heap.size w wc))
        case first =>
          have H := HC31.out
          clear HC31
          by_cases c32 : (l0.length : Int) = 0
          · rw [if_pos c32] at H
            have c32b0 : ((l0.length : Int) == 0) = true := beq_iff_eq.mpr c32
            have c32b1 : ((l0.length : Int) != 0) = false := bne_eq_false_iff_eq.mpr c32
            clear c32
            (first | rw [c32b0] | (simp only [i64_w, i32_w]; rw [c32b0]) | skip)
            have H' := Aside0.mk H
            clear H
            go_wp2
            go_meet
            case rel => exact ⟨_, (true), (by first | rfl | (simp; done) | (simp [*]; done)), H', ⟨by have := HK1.out; first | omega | exact Nat.le_refl _⟩, ⟨by (with_reducible repeat (first | apply Kd.R_alloc | apply Kd.R_drewN | apply Kd.R_drew)); exact HO_4.out⟩, ⟨by repeat (first | (with_reducible first | exact HB.out | apply below_alloc | apply pw_below_drewN | apply below_drew1) | exact HB.out)⟩⟩
          · rw [if_neg c32] at H
            have c32b0 : ((l0.length : Int) == 0) = false := beq_eq_false_iff_ne.mpr c32
            have c32b1 : ((l0.length : Int) != 0) = true := bne_iff_ne.mpr c32
            have c32b2 : ¬ (l0 = []) := fun h_ => c32 (by rw [h_]; rfl)
            (first | rw [c32b0] | (simp only [i64_w, i32_w]; rw [c32b0]) | skip)
            have H' := Aside0.mk H
            clear H
            go_wp2
            go_meet
            case rel => exact ⟨_, (decide ((l0.length : Int) > 100)), (by first | rfl | (simp; done) | (simp [*]; done)), H', ⟨by have := HK1.out; first | omega | exact Nat.le_refl _⟩, ⟨by (with_reducible repeat (first | apply Kd.R_alloc | apply Kd.R_drewN | apply Kd.R_drew)); exact HO_4.out⟩, ⟨by repeat (first | (with_reducible first | exact HB.out | apply below_alloc | apply pw_below_drewN | apply below_drew1) | exact HB.out)⟩⟩
        case rest =>
          clear HC31
          try clear c1
          try clear p1
          try clear q1
          try clear hx1
          try clear c2
          try clear c2b0
          try clear p2
          try clear c3
          try clear c5
          try clear p6
          try clear q6
          try clear c7
          try clear c10
          try clear p12
          try clear q12
          try clear hx12
          try clear p13
          try clear q13
          try clear hx13
          try clear c17
          try clear c21
          try clear c32
          try clear c32b0
          try clear c32b1
          try clear c32b2
          try clear hx120_0
          try clear hx120_1
          try clear hx120_2
          try clear hx120_3
          try clear hx122_0
          try clear hx122_1
          try clear hx122_2
          try clear hx122_3
          try clear hx134_0
          try clear hx134_1
          try clear hx134_2
          try clear hx134_3
          try clear hx136_0
          try clear hx136_1
          try clear hx136_2
          try clear hx136_3
          try clear hx138_0
          try clear hx138_1
          try clear hx138_2
          try clear hx138_3
          try clear p120
          try clear p122
          try clear p134
          try clear p136
          try clear p138
          try clear q120
          try clear q122
          try clear q134
          try clear q136
          try clear q138
          obtain ⟨kq, x57_30, rfl, HA, HJ30, HO_4, HB⟩ := hcut
          cases kq with
          | zero => exact absurd HA.out (by simp [cellarerref12_Lay.j1])
          | succ kj30 =>
            have H := HA.out
            clear HA
            simp only [cellarerref12_Lay.j1] at H
            by_cases c33 : x57_30 = true
            · subst c33
              have H1 : (some ((⟨#[]⟩ : ByteArray), 1)) = some (r1, r2) := by rw [if_pos rfl] at H; exact H
              clear H
              have H := H1
              clear H1
              simp only [Option.some.injEq, Prod.mk.injEq] at H
              obtain ⟨rfl, rfl⟩ := H
              go_wp2
              go_ret2
              exact ⟨by first | rfl | (simp [errW_none, errW_some] <;> rfl) | (simp [*, errW_none, errW_some] <;> rfl), by repeat (first | (with_reducible first | exact HB.out | apply below_alloc | apply pw_below_drewN | apply below_drew1) | exact HB.out)⟩
            · replace c33 := Bool.eq_false_iff.mpr c33
              subst c33
              have H1 : ((cellarerref02_List.f kj30 x4_1).bind fun bt145 => (if (bt145.1.size : Int) > 12000 then (some ((⟨#[]⟩ : ByteArray), 6)) else (some (bt145.1, 0)))) = some (r1, r2) := by rw [if_neg (show ¬ (false = true) by decide)] at H; exact H
              clear H
              have H := H1
              clear H1
              replace H := Option.bind_eq_some_iff.mp H
              obtain ⟨⟨t145, t146⟩, A340, H⟩ := H
              replace H : (if (t145.size : Int) > 12000 then (some ((⟨#[]⟩ : ByteArray), 6)) else (some (t145, 0))) = some (r1, r2) := H
              have A34 := Aside0.mk A340
              clear A340
              by_cases c35 : (t145.size : Int) > 12000
              · rw [if_pos c35] at H
                have c35b0 : decide (12000 < (t145.size : Int)) = true := decide_eq_true c35
                have c35b1 : decide (12000 < t145.size) = true := decide_eq_true (by omega)
                clear c35
                simp only [Option.some.injEq, Prod.mk.injEq] at H
                obtain ⟨rfl, rfl⟩ := H
                obtain ⟨Ao36, co36, eo36⟩ := Kd.R_slice HO_4.out
                subst eo36
                go_wp2_with (first | ((with_reducible refine gate_callee (f := 33) rfl ?_); refine goesL_ (some 60) rfl rfl Try.func33 (by kernel_rfl) rfl #[.slice Ao36 x4_1.length co36] rfl (by (try simp only [List.map_toArray, List.map_cons, List.map_nil]); first | done | rfl | (simp only [List.length_drop, List.length_take]; rfl)) ?_; (with_reducible refine (cellarerref02_List.calls kj30 _ _ x4_1 t145 t146 _ ?side1 ?side2 A34.out).mono ?_); (case side1 => repeat (first | exact (Kd.R_reads' HO_4.out).2.2 | (with_reducible refine Kd.C_alloc ?_ _) | (with_reducible refine Kd.C_drewN ?_ _) | (with_reducible refine Kd.C_drew ?_))); (case side2 => exact (Kd.R_reads' HO_4.out).2.1); rintro e w37 ⟨rfl, hb⟩; refine ⟨_, rfl, ?_⟩; have n0_ := Aside0.mk (Kd.R_below (by (with_reducible repeat (first | apply Kd.R_alloc | apply Kd.R_drewN | apply Kd.R_drew)); exact HO_4.out) hb); have n1_ := Aside0.mk (below_step (by repeat (first | (with_reducible first | exact HB.out | apply below_alloc | apply pw_below_drewN | apply below_drew1) | exact HB.out)) hb); clear HO_4; clear HB; have HO_4 := n0_; have HB := n1_; clear n0_ n1_; (try clear hb); (try clear hb2); (try clear hk); (try clear hi)))
                go_ret2
                exact ⟨by first | rfl | (simp [errW_none, errW_some] <;> rfl) | (simp [*, errW_none, errW_some] <;> rfl), by repeat (first | (with_reducible first | exact HB.out | apply below_alloc | apply pw_below_drewN | apply below_drew1) | exact HB.out)⟩
              · rw [if_neg c35] at H
                have c35b0 : decide (12000 < (t145.size : Int)) = false := decide_eq_false c35
                have c35b1 : decide (12000 < t145.size) = false := decide_eq_false (by omega)
                clear c35
                simp only [Option.some.injEq, Prod.mk.injEq] at H
                obtain ⟨rfl, rfl⟩ := H
                obtain ⟨Ao38, co38, eo38⟩ := Kd.R_slice HO_4.out
                subst eo38
                go_wp2_with (first | ((with_reducible refine gate_callee (f := 33) rfl ?_); refine goesL_ (some 60) rfl rfl Try.func33 (by kernel_rfl) rfl #[.slice Ao38 x4_1.length co38] rfl (by (try simp only [List.map_toArray, List.map_cons, List.map_nil]); first | done | rfl | (simp only [List.length_drop, List.length_take]; rfl)) ?_; (with_reducible refine (cellarerref02_List.calls kj30 _ _ x4_1 t145 t146 _ ?side1 ?side2 A34.out).mono ?_); (case side1 => repeat (first | exact (Kd.R_reads' HO_4.out).2.2 | (with_reducible refine Kd.C_alloc ?_ _) | (with_reducible refine Kd.C_drewN ?_ _) | (with_reducible refine Kd.C_drew ?_))); (case side2 => exact (Kd.R_reads' HO_4.out).2.1); rintro e w39 ⟨rfl, hb⟩; refine ⟨_, rfl, ?_⟩; have n0_ := Aside0.mk (Kd.R_below (by (with_reducible repeat (first | apply Kd.R_alloc | apply Kd.R_drewN | apply Kd.R_drew)); exact HO_4.out) hb); have n1_ := Aside0.mk (below_step (by repeat (first | (with_reducible first | exact HB.out | apply below_alloc | apply pw_below_drewN | apply below_drew1) | exact HB.out)) hb); clear HO_4; clear HB; have HO_4 := n0_; have HB := n1_; clear n0_ n1_; (try clear hb); (try clear hb2); (try clear hk); (try clear hi)))
                go_ret2
                exact ⟨by first | rfl | (simp [errW_none, errW_some] <;> rfl) | (simp [*, errW_none, errW_some] <;> rfl), by repeat (first | (with_reducible first | exact HB.out | apply below_alloc | apply pw_below_drewN | apply below_drew1) | exact HB.out)⟩

end Go.Proofs.Ytipahpkdddijmaa.Q

-- L9
namespace Go.Proofs.Ytipahpkdddijmaa.Q
open Go.RowKit Go.Proofs.YtipahpkdddijmaaW.PrintWords Go.Proofs.YtipahpkdddijmaaW.PrintLast Go.Proofs.YtipahpkdddijmaaW.PrintMore
attribute [local go_sem] max2_int min2_int max_two min_two max_three min_three max_four min_four   -- for this text's walks alone
set_option linter.unusedVariables false
set_option linter.unusedSimpArgs false

/-! ### cellarerref12_Take: function 14 -/
mutual
def cellarerref12_Take.j0 : Nat → ByteArray → List ByteArray → Bool → Option ((List (S39)) × Bool)
  | 0, _, _, _ => none
  | k + 1, x0, x4, x32 => if x32 = true then (some (([] : List (S39)), false)) else (cellarerref12_Take.l0 k x0 x4 ([] : List (S39)) 0)
def cellarerref12_Take.l0 : Nat → ByteArray → List ByteArray → List (S39) → Int → Option ((List (S39)) × Bool)
  | 0, _, _, _, _ => none
  | k + 1, x0, x4, x7, x8 => if x8 < (x4.length : Int) then (if 0 ≤ x8 then ((cellarerref02_TakeNum.f k (rdOf ByteArray.empty x4 x8)).bind fun bt176 => (if bt176.2 = true then (if 0 ≤ (wrap64 (x8 + 1)) then (if (wrap64 (x8 + 1)) < (x4.length : Int) then (if 0 ≤ (wrap64 (x8 + 2)) then (if (wrap64 (x8 + 2)) < (x4.length : Int) then ((cellarerref02_Num.f k 1).bind fun t180 => (if 0 ≤ (wrap64 (x8 + 3)) then (if (wrap64 (x8 + 3)) < (x4.length : Int) then (if x7.length < 2932031007402 then (cellarerref12_Take.l0 k x0 x4 (x7 ++ [(⟨bt176.1, (⟨rdOf ByteArray.empty x4 (wrap64 (x8 + 1)), rdOf ByteArray.empty x4 (wrap64 (x8 + 3)), ((rdOf ByteArray.empty x4 (wrap64 (x8 + 2))).toList == t180.toList)⟩ : S37)⟩ : S39)]) (wrap64 (x8 + 4))) else (none)) else (none)) else (none))) else (none)) else (none)) else (none)) else (none)) else (some (([] : List (S39)), false)))) else (none)) else ((cellarerref12_Lay.f k x7).bind fun bt173 => (if bt173.2 = 0 then (if bt173.1.toList = x0.toList then (some (x7, true)) else (some (([] : List (S39)), false))) else (some (([] : List (S39)), false))))
end
def cellarerref12_Take.f (k : Nat) (a0 : ByteArray) : Option ((List (S39)) × Bool) := (cellarerref02_TakeList.f k a0).bind fun bt168 => (if bt168.2.2 = 0 then (if bt168.2.1 = (a0.size : Int) then (cellarerref12_Take.j0 k a0 bt168.1 (((bt168.1.length : Int) % 4) != 0)) else (cellarerref12_Take.j0 k a0 bt168.1 true)) else (cellarerref12_Take.j0 k a0 bt168.1 true))
theorem cellarerref12_Take.mono_l : ∀ k, (∀ y0 y1 y2, LeO (cellarerref12_Take.j0 k y0 y1 y2) (cellarerref12_Take.j0 (k + 1) y0 y1 y2)) ∧ (∀ y0 y1 y2 y3, LeO (cellarerref12_Take.l0 k y0 y1 y2 y3) (cellarerref12_Take.l0 (k + 1) y0 y1 y2 y3))
  | 0 => ⟨fun _ _ _ r h => by simp [cellarerref12_Take.j0] at h, fun _ _ _ _ r h => by simp [cellarerref12_Take.l0] at h⟩
  | k + 1 => by
    obtain ⟨ih0, ih1⟩ := cellarerref12_Take.mono_l k
    refine ⟨?_, ?_⟩
    · intro y0 y1 y2
      unfold cellarerref12_Take.j0
      repeat' first
      | (with_reducible exact ih0 _ _ _)
      | (with_reducible exact ih1 _ _ _ _)
      | (with_reducible exact cellarerref02_Num.mono _ _)
      | (with_reducible exact cellarerref02_TakeList.mono _ _)
      | (with_reducible exact cellarerref02_TakeNum.mono _ _)
      | (with_reducible exact cellarerref12_Lay.mono _ _)
      | (with_reducible exact LeO.refl _)
      | (with_reducible exact LeO.none _)
      | (with_reducible refine LeO.ite ?_ ?_)
      | (with_reducible refine LeO.bind ?_ (fun _ => ?_))
      | exact ih0 _ _ _
      | exact ih1 _ _ _ _
      | exact cellarerref02_Num.mono _ _
      | exact cellarerref02_TakeList.mono _ _
      | exact cellarerref02_TakeNum.mono _ _
      | exact cellarerref12_Lay.mono _ _
      | exact LeO.none _
      | refine LeO.ite ?_ ?_
      | refine LeO.bind ?_ (fun _ => ?_)
    · intro y0 y1 y2 y3
      unfold cellarerref12_Take.l0
      repeat' first
      | (with_reducible exact ih0 _ _ _)
      | (with_reducible exact ih1 _ _ _ _)
      | (with_reducible exact cellarerref02_Num.mono _ _)
      | (with_reducible exact cellarerref02_TakeList.mono _ _)
      | (with_reducible exact cellarerref02_TakeNum.mono _ _)
      | (with_reducible exact cellarerref12_Lay.mono _ _)
      | (with_reducible exact LeO.refl _)
      | (with_reducible exact LeO.none _)
      | (with_reducible refine LeO.ite ?_ ?_)
      | (with_reducible refine LeO.bind ?_ (fun _ => ?_))
      | exact ih0 _ _ _
      | exact ih1 _ _ _ _
      | exact cellarerref02_Num.mono _ _
      | exact cellarerref02_TakeList.mono _ _
      | exact cellarerref02_TakeNum.mono _ _
      | exact cellarerref12_Lay.mono _ _
      | exact LeO.none _
      | refine LeO.ite ?_ ?_
      | refine LeO.bind ?_ (fun _ => ?_)
theorem cellarerref12_Take.mono : ∀ a0 k, LeO (cellarerref12_Take.f k a0) (cellarerref12_Take.f (k + 1) a0) := by
  intro a0 k
  obtain ⟨ih0, ih1⟩ := cellarerref12_Take.mono_l k
  unfold cellarerref12_Take.f
  repeat' first
      | (with_reducible exact ih0 _ _ _)
      | (with_reducible exact ih1 _ _ _ _)
      | (with_reducible exact cellarerref02_Num.mono _ _)
      | (with_reducible exact cellarerref02_TakeList.mono _ _)
      | (with_reducible exact cellarerref02_TakeNum.mono _ _)
      | (with_reducible exact cellarerref12_Lay.mono _ _)
      | (with_reducible exact LeO.refl _)
      | (with_reducible exact LeO.none _)
      | (with_reducible refine LeO.ite ?_ ?_)
      | (with_reducible refine LeO.bind ?_ (fun _ => ?_))
      | exact ih0 _ _ _
      | exact ih1 _ _ _ _
      | exact cellarerref02_Num.mono _ _
      | exact cellarerref02_TakeList.mono _ _
      | exact cellarerref02_TakeNum.mono _ _
      | exact cellarerref12_Lay.mono _ _
      | exact LeO.none _
      | refine LeO.ite ?_ ?_
      | refine LeO.bind ?_ (fun _ => ?_)
def cellarerref12_Take.T11 : Bool × List (List Nat × List Nat) := (true, [([], []), ([], []), ([], []), ([], []), ([3], [3]), ([2, 4], [2, 4]), ([5], [5]), ([], []), ([], []), ([8], [8]), ([7, 9], [7, 9]), ([10], [10]), ([], []), ([11, 12], [11, 12]), ([], []), ([], []), ([15], [15]), ([14, 16], [14, 16]), ([17], [17]), ([6, 13, 18], [6, 13, 18]), ([1, 19], [1, 19]), ([20], [20]), ([0, 21, 12], [0, 21]), ([22, 22, 0, 1, 2, 3, 4, 5, 6, 7, 8, 9, 10, 11, 12, 13, 14, 15, 16, 17, 18, 19, 20, 21, 22], [0, 22])])
def cellarerref12_Take.B11 : List Nat := [0, 0, 0, 0, 8, 28, 60, 0, 0, 256, 896, 1920, 0, 8064, 0, 0, 32768, 114688, 245760, 524284, 1048574, 2097150, 4194303, 8388607]
theorem cellarerref12_Take.tab11 : rtab .any (opsOf Try.f14 11) = cellarerref12_Take.T11 := by kernel_rfl
theorem cellarerref12_Take.bits11 : waitsOk cellarerref12_Take.T11.2 cellarerref12_Take.B11 = true := by kernel_rfl
set_option maxHeartbeats 8000000 in
set_option maxRecDepth 100000 in
theorem cellarerref12_Take.calls (k : Nat) (a0 : ByteArray) (r1 : List (S39)) (r2 : Bool) (w : World) (h : cellarerref12_Take.f k a0 = some (r1, r2)) :
    Calls Try.prog 14 #[.string a0] w fun e w' => ∃ v0_ : Value, e = .returned (.tuple #[v0_, .bool r2]) ∧ Kd.R k39 39 w' w.heap.size (fun _ => True) v0_ r1 ∧ Below w.heap.size w w' := by
  have hu37 := Try.underlying37
  have hu39 := Try.underlying39
  have HB := Aside0.mk (Below.refl w.heap.size w)
  have H : ((cellarerref02_TakeList.f k a0).bind fun bt168 => (if bt168.2.2 = 0 then (if bt168.2.1 = (a0.size : Int) then (cellarerref12_Take.j0 k a0 bt168.1 (((bt168.1.length : Int) % 4) != 0)) else (cellarerref12_Take.j0 k a0 bt168.1 true)) else (cellarerref12_Take.j0 k a0 bt168.1 true))) = some (r1, r2) := h
  clear h
  replace H := Option.bind_eq_some_iff.mp H
  obtain ⟨⟨t168, t169, t170⟩, A20, H⟩ := H
  replace H : (if t170 = 0 then (if t169 = (a0.size : Int) then (cellarerref12_Take.j0 k a0 t168 (((t168.length : Int) % 4) != 0)) else (cellarerref12_Take.j0 k a0 t168 true)) else (cellarerref12_Take.j0 k a0 t168 true)) = some (r1, r2) := H
  have A2 := Aside0.mk A20
  clear A20
  have HC3 := Aside0.mk H
  clear H
  go_enter Try.func14, Try.ntmps14
  go_upto_region 2 with (first | ((with_reducible refine gate_callee (f := 37) rfl ?_); refine goesL_ (some 15) rfl rfl Try.func37 (by kernel_rfl) rfl #[.string a0] rfl (by (try simp only [List.map_toArray, List.map_cons, List.map_nil]); first | done | rfl | (simp only [List.length_drop, List.length_take]; rfl)) ?_; (with_reducible refine (cellarerref02_TakeList.calls k a0 t168 t169 t170 _ A2.out).mono ?_); rintro e w4 ⟨v171, rfl, ho0, hb⟩; refine ⟨_, rfl, ?_⟩; have n0_ := Aside0.mk (Kd.R_lower ho0 (below_size (by repeat (first | (with_reducible first | exact HB.out | apply below_alloc | apply pw_below_drewN | apply below_drew1) | exact HB.out)))); have n1_ := Aside0.mk (below_step (by repeat (first | (with_reducible first | exact HB.out | apply below_alloc | apply pw_below_drewN | apply below_drew1) | exact HB.out)) hb); clear HB; have HO172 := n0_; have HB := n1_; clear n0_ n1_; (try clear hb); (try clear hb2); (try clear hk); (try clear hi); (try clear ho0)))
  (try simp only [Act.put, List.setIfInBounds_toArray, List.set_cons_zero, List.set_cons_succ])
  go_cut [32] (fun v32 wc => ∃ (kq : Nat) (x32_2 : Bool), v32 = .bool x32_2 ∧ Aside0 (cellarerref12_Take.j0 kq a0 t168 x32_2 = some (r1, r2)) ∧ Aside0 (kq ≤ k) ∧ Aside0 (Kd.R Kd.string 9 wc w.heap.size (fun _ => True) v171 t168) ∧ Aside0 (Below w.heap.size w wc))
  case first =>
    have H := HC3.out
    clear HC3
    by_cases c5 : t170 = 0
    · rw [if_pos c5] at H
      have c5b0 : (t170 == 0) = true := beq_iff_eq.mpr c5
      have c5b1 : (t170 != 0) = false := bne_eq_false_iff_eq.mpr c5
      clear c5
      (first | rw [c5b0] | (simp only [i64_w, i32_w]; rw [c5b0]) | skip)
      by_cases c6 : t169 = (a0.size : Int)
      · rw [if_pos c6] at H
        have c6b0 : (t169 == (a0.size : Int)) = true := beq_iff_eq.mpr c6
        have c6b1 : (t169 != (a0.size : Int)) = false := bne_eq_false_iff_eq.mpr c6
        clear c6
        have H' := Aside0.mk H
        clear H
        obtain ⟨Ao7, co7, eo7⟩ := Kd.R_slice HO172.out
        subst eo7
        go_wp2
        go_meet
        case rel => exact ⟨_, ((((t168.length : Int) % 4) != 0)), (by first | rfl | (simp; done) | (simp [*]; done)), H', ⟨by first | omega | exact Nat.le_refl _⟩, ⟨by (with_reducible repeat (first | apply Kd.R_alloc | apply Kd.R_drewN | apply Kd.R_drew)); exact HO172.out⟩, ⟨by repeat (first | (with_reducible first | exact HB.out | apply below_alloc | apply pw_below_drewN | apply below_drew1) | exact HB.out)⟩⟩
      · rw [if_neg c6] at H
        have c6b0 : (t169 == (a0.size : Int)) = false := beq_eq_false_iff_ne.mpr c6
        have c6b1 : (t169 != (a0.size : Int)) = true := bne_iff_ne.mpr c6
        have H' := Aside0.mk H
        clear H
        go_wp2
        go_meet
        case rel => exact ⟨_, (true), (by first | rfl | (simp; done) | (simp [*]; done)), H', ⟨by first | omega | exact Nat.le_refl _⟩, ⟨by (with_reducible repeat (first | apply Kd.R_alloc | apply Kd.R_drewN | apply Kd.R_drew)); exact HO172.out⟩, ⟨by repeat (first | (with_reducible first | exact HB.out | apply below_alloc | apply pw_below_drewN | apply below_drew1) | exact HB.out)⟩⟩
    · rw [if_neg c5] at H
      have c5b0 : (t170 == 0) = false := beq_eq_false_iff_ne.mpr c5
      have c5b1 : (t170 != 0) = true := bne_iff_ne.mpr c5
      (first | rw [c5b0] | (simp only [i64_w, i32_w]; rw [c5b0]) | skip)
      have H' := Aside0.mk H
      clear H
      go_wp2
      go_meet
      case rel => exact ⟨_, (true), (by first | rfl | (simp; done) | (simp [*]; done)), H', ⟨by first | omega | exact Nat.le_refl _⟩, ⟨by (with_reducible repeat (first | apply Kd.R_alloc | apply Kd.R_drewN | apply Kd.R_drew)); exact HO172.out⟩, ⟨by repeat (first | (with_reducible first | exact HB.out | apply below_alloc | apply pw_below_drewN | apply below_drew1) | exact HB.out)⟩⟩
  case rest =>
    clear HC3
    try clear c1
    try clear p2
    try clear c3
    try clear c5
    try clear c5b0
    try clear c5b1
    try clear c6
    try clear c6b0
    try clear c6b1
    obtain ⟨kq, x32_2, rfl, HA, HJ2, HO_4, HB⟩ := hcut
    cases kq with
    | zero => exact absurd HA.out (by simp [cellarerref12_Take.j0])
    | succ kj2 =>
      have H := HA.out
      clear HA
      simp only [cellarerref12_Take.j0] at H
      by_cases c8 : x32_2 = true
      · subst c8
        have H1 : (some (([] : List (S39)), false)) = some (r1, r2) := by rw [if_pos rfl] at H; exact H
        clear H
        have H := H1
        clear H1
        simp only [Option.some.injEq, Prod.mk.injEq] at H
        obtain ⟨rfl, rfl⟩ := H
        go_wp2
        go_ret2
        exact ⟨_, by first | rfl | (simp [errW_none, errW_some] <;> rfl) | (simp [*, errW_none, errW_some] <;> rfl), by first | exact Kd.R_nil _ _ _ _ _ | exact Kd.N_nil _ _ _ _ _ | exact Kd.V_nil _ _ _ _ _ | exact Kd.Q_nil _ _ _ _ _ | exact Kd.S_nil _ _ _ _ _, by repeat (first | (with_reducible first | exact HB.out | apply below_alloc | apply pw_below_drewN | apply below_drew1) | exact HB.out)⟩
      · replace c8 := Bool.eq_false_iff.mpr c8
        subst c8
        have H1 : (cellarerref12_Take.l0 kj2 a0 t168 ([] : List (S39)) 0) = some (r1, r2) := by rw [if_neg (show ¬ (false = true) by decide)] at H; exact H
        clear H
        have H := H1
        clear H1
        have H' := Aside0.mk H
        clear H
        go_wp2
        go_loopg [7, 8] kj2 (fun kq v7 v8 w' => ∃ (x7_2 : List (S39)) (x8_2 : Int), v8 = .int .i64 x8_2 ∧ Aside0 (cellarerref12_Take.l0 kq a0 t168 x7_2 x8_2 = some (r1, r2)) ∧ Aside0 (kq ≤ kj2) ∧ Aside0 (Kd.R Kd.string 9 w' w.heap.size (fun _ => True) v171 t168) ∧ Aside0 (Kd.R k39 39 w' w.heap.size (fun _ => True) v7 x7_2) ∧ Aside0 (Below w.heap.size w w'))
        case atStart => exact ⟨(([] : List (S39))), (0), (by first | rfl | (simp; done) | (simp [*]; done)), H', ⟨Nat.le_refl _⟩, ⟨by (with_reducible repeat (first | apply Kd.R_alloc | apply Kd.R_drewN | apply Kd.R_drew)); exact HO_4.out⟩, ⟨by first | exact Kd.R_nil _ _ _ _ _ | exact Kd.N_nil _ _ _ _ _ | exact Kd.V_nil _ _ _ _ _ | exact Kd.Q_nil _ _ _ _ _ | exact Kd.S_nil _ _ _ _ _⟩, ⟨by repeat (first | (with_reducible first | exact HB.out | apply below_alloc | apply pw_below_drewN | apply below_drew1) | exact HB.out)⟩⟩
        case round =>
          clear H'
          try clear c1
          try clear p2
          try clear c3
          try clear c5
          try clear c5b0
          try clear c5b1
          try clear c6
          try clear c6b0
          try clear c6b1
          try clear c8
          try clear p2
          obtain ⟨x7_2, x8_2, rfl, HA, HK2, HO_4, HO_7, HB⟩ := hrel
          cases gk with
          | zero => exact absurd HA.out (by simp [cellarerref12_Take.l0])
          | succ k2 =>
            have H := HA.out
            clear HA
            simp only [cellarerref12_Take.l0] at H
            by_cases c9 : x8_2 < (t168.length : Int)
            · rw [if_pos c9] at H
              have c9b0 : decide (x8_2 < (t168.length : Int)) = true := decide_eq_true c9
              clear c9
              by_cases c10 : 0 ≤ x8_2
              · rw [if_pos c10] at H
                have c10b0 : decide (0 ≤ x8_2) = true := decide_eq_true c10
                clear c10
                replace H := Option.bind_eq_some_iff.mp H
                obtain ⟨⟨t176, t177⟩, A110, H⟩ := H
                replace H : (if t177 = true then (if 0 ≤ (wrap64 (x8_2 + 1)) then (if (wrap64 (x8_2 + 1)) < (t168.length : Int) then (if 0 ≤ (wrap64 (x8_2 + 2)) then (if (wrap64 (x8_2 + 2)) < (t168.length : Int) then ((cellarerref02_Num.f k2 1).bind fun t180 => (if 0 ≤ (wrap64 (x8_2 + 3)) then (if (wrap64 (x8_2 + 3)) < (t168.length : Int) then (if x7_2.length < 2932031007402 then (cellarerref12_Take.l0 k2 a0 t168 (x7_2 ++ [(⟨t176, (⟨rdOf ByteArray.empty t168 (wrap64 (x8_2 + 1)), rdOf ByteArray.empty t168 (wrap64 (x8_2 + 3)), ((rdOf ByteArray.empty t168 (wrap64 (x8_2 + 2))).toList == t180.toList)⟩ : S37)⟩ : S39)]) (wrap64 (x8_2 + 4))) else (none)) else (none)) else (none))) else (none)) else (none)) else (none)) else (none)) else (some (([] : List (S39)), false))) = some (r1, r2) := H
                have A11 := Aside0.mk A110
                clear A110
                by_cases c12 : t177 = true
                · subst c12
                  have H1 : (if 0 ≤ (wrap64 (x8_2 + 1)) then (if (wrap64 (x8_2 + 1)) < (t168.length : Int) then (if 0 ≤ (wrap64 (x8_2 + 2)) then (if (wrap64 (x8_2 + 2)) < (t168.length : Int) then ((cellarerref02_Num.f k2 1).bind fun t180 => (if 0 ≤ (wrap64 (x8_2 + 3)) then (if (wrap64 (x8_2 + 3)) < (t168.length : Int) then (if x7_2.length < 2932031007402 then (cellarerref12_Take.l0 k2 a0 t168 (x7_2 ++ [(⟨t176, (⟨rdOf ByteArray.empty t168 (wrap64 (x8_2 + 1)), rdOf ByteArray.empty t168 (wrap64 (x8_2 + 3)), ((rdOf ByteArray.empty t168 (wrap64 (x8_2 + 2))).toList == t180.toList)⟩ : S37)⟩ : S39)]) (wrap64 (x8_2 + 4))) else (none)) else (none)) else (none))) else (none)) else (none)) else (none)) else (none)) = some (r1, r2) := by rw [if_pos rfl] at H; exact H
                  clear H
                  have H := H1
                  clear H1
                  obtain ⟨ji13, hji13⟩ : ∃ j_ : Int, (wrap64 (x8_2 + 1)) = j_ := ⟨_, rfl⟩
                  replace H : (if 0 ≤ (ji13) then (if (ji13) < (t168.length : Int) then (if 0 ≤ (wrap64 (x8_2 + 2)) then (if (wrap64 (x8_2 + 2)) < (t168.length : Int) then ((cellarerref02_Num.f k2 1).bind fun t180 => (if 0 ≤ (wrap64 (x8_2 + 3)) then (if (wrap64 (x8_2 + 3)) < (t168.length : Int) then (if x7_2.length < 2932031007402 then (cellarerref12_Take.l0 k2 a0 t168 (x7_2 ++ [(⟨t176, (⟨rdOf ByteArray.empty t168 (ji13), rdOf ByteArray.empty t168 (wrap64 (x8_2 + 3)), ((rdOf ByteArray.empty t168 (wrap64 (x8_2 + 2))).toList == t180.toList)⟩ : S37)⟩ : S39)]) (wrap64 (x8_2 + 4))) else (none)) else (none)) else (none))) else (none)) else (none)) else (none)) else (none)) = some (r1, r2) := by first | (rw [hji13] at H; exact H) | (simp only [hji13] at H ⊢; exact H)
                  (try rw [hji13] at A11)
                  have hji13w : (IntKind.i64.wrap (x8_2 + 1)) = ji13 := (i64_w _).trans hji13
                  by_cases c14 : 0 ≤ (ji13)
                  · rw [if_pos c14] at H
                    have c14b0 : decide (0 ≤ (ji13)) = true := decide_eq_true c14
                    clear c14
                    by_cases c15 : (ji13) < (t168.length : Int)
                    · rw [if_pos c15] at H
                      have c15b0 : decide ((ji13) < (t168.length : Int)) = true := decide_eq_true c15
                      clear c15
                      obtain ⟨ji16, hji16⟩ : ∃ j_ : Int, (wrap64 (x8_2 + 2)) = j_ := ⟨_, rfl⟩
                      replace H : (if 0 ≤ (ji16) then (if (ji16) < (t168.length : Int) then ((cellarerref02_Num.f k2 1).bind fun t180 => (if 0 ≤ (wrap64 (x8_2 + 3)) then (if (wrap64 (x8_2 + 3)) < (t168.length : Int) then (if x7_2.length < 2932031007402 then (cellarerref12_Take.l0 k2 a0 t168 (x7_2 ++ [(⟨t176, (⟨rdOf ByteArray.empty t168 (ji13), rdOf ByteArray.empty t168 (wrap64 (x8_2 + 3)), ((rdOf ByteArray.empty t168 (ji16)).toList == t180.toList)⟩ : S37)⟩ : S39)]) (wrap64 (x8_2 + 4))) else (none)) else (none)) else (none))) else (none)) else (none)) = some (r1, r2) := by first | (rw [hji16] at H; exact H) | (simp only [hji16] at H ⊢; exact H)
                      (try rw [hji16] at A11)
                      have hji16w : (IntKind.i64.wrap (x8_2 + 2)) = ji16 := (i64_w _).trans hji16
                      by_cases c17 : 0 ≤ (ji16)
                      · rw [if_pos c17] at H
                        have c17b0 : decide (0 ≤ (ji16)) = true := decide_eq_true c17
                        clear c17
                        by_cases c18 : (ji16) < (t168.length : Int)
                        · rw [if_pos c18] at H
                          have c18b0 : decide ((ji16) < (t168.length : Int)) = true := decide_eq_true c18
                          clear c18
                          replace H := Option.bind_eq_some_iff.mp H
                          obtain ⟨t180, A190, H⟩ := H
                          replace H : (if 0 ≤ (wrap64 (x8_2 + 3)) then (if (wrap64 (x8_2 + 3)) < (t168.length : Int) then (if x7_2.length < 2932031007402 then (cellarerref12_Take.l0 k2 a0 t168 (x7_2 ++ [(⟨t176, (⟨rdOf ByteArray.empty t168 (ji13), rdOf ByteArray.empty t168 (wrap64 (x8_2 + 3)), ((rdOf ByteArray.empty t168 (ji16)).toList == t180.toList)⟩ : S37)⟩ : S39)]) (wrap64 (x8_2 + 4))) else (none)) else (none)) else (none)) = some (r1, r2) := H
                          have A19 := Aside0.mk A190
                          clear A190
                          obtain ⟨ji20, hji20⟩ : ∃ j_ : Int, (wrap64 (x8_2 + 3)) = j_ := ⟨_, rfl⟩
                          replace H : (if 0 ≤ (ji20) then (if (ji20) < (t168.length : Int) then (if x7_2.length < 2932031007402 then (cellarerref12_Take.l0 k2 a0 t168 (x7_2 ++ [(⟨t176, (⟨rdOf ByteArray.empty t168 (ji13), rdOf ByteArray.empty t168 (ji20), ((rdOf ByteArray.empty t168 (ji16)).toList == t180.toList)⟩ : S37)⟩ : S39)]) (wrap64 (x8_2 + 4))) else (none)) else (none)) else (none)) = some (r1, r2) := by first | (rw [hji20] at H; exact H) | (simp only [hji20] at H ⊢; exact H)
                          (try rw [hji20] at A11)
                          (try rw [hji20] at A19)
                          have hji20w : (IntKind.i64.wrap (x8_2 + 3)) = ji20 := (i64_w _).trans hji20
                          by_cases c21 : 0 ≤ (ji20)
                          · rw [if_pos c21] at H
                            have c21b0 : decide (0 ≤ (ji20)) = true := decide_eq_true c21
                            clear c21
                            by_cases c22 : (ji20) < (t168.length : Int)
                            · rw [if_pos c22] at H
                              have c22b0 : decide ((ji20) < (t168.length : Int)) = true := decide_eq_true c22
                              clear c22
                              by_cases c23 : x7_2.length < 2932031007402
                              · rw [if_pos c23] at H
                                have LMc23 := Aside0.mk c23
                                clear c23
                                obtain ⟨y182, hy182⟩ : ∃ y_ : List (S39), y_ = (x7_2 ++ [(⟨t176, (⟨rdOf ByteArray.empty t168 (ji13), rdOf ByteArray.empty t168 (ji20), ((rdOf ByteArray.empty t168 (ji16)).toList == t180.toList)⟩ : S37)⟩ : S39)]) := ⟨_, rfl⟩
                                replace H : (cellarerref12_Take.l0 k2 a0 t168 y182 (wrap64 (x8_2 + 4))) = some (r1, r2) := by first | (rw [hy182]; with_reducible exact H) | (have H2_ := (Option.bind_some _ _).symm.trans H; rw [hy182]; with_reducible exact H2_) | (have H2_ := (Option.bind_some _ _).symm.trans H; with_reducible exact H2_) | with_reducible exact H | (rw [hy182]; exact H) | exact H
                                have Ny182 := Aside0.mk hy182
                                clear hy182
                                have H' := Aside0.mk H
                                clear H
                                obtain ⟨Ao24, co24, eo24⟩ := Kd.R_slice HO_4.out
                                subst eo24
                                have p175 : 0 ≤ (x8_2 : Int) := of_decide_eq_true (by first | (with_reducible assumption) | assumption)
                                have q175 : x8_2 < (t168.length : Int) := of_decide_eq_true (by first | (with_reducible assumption) | assumption)
                                obtain ⟨ad175, e175, hx175_0⟩ := Kd.at_string (Kd.R_reads' HO_4.out).2.2 x8_2 p175 q175
                                cases e175
                                replace p175 := eq_true p175
                                replace q175 := eq_true q175
                                try go_wp2_with (first | ((with_reducible refine gate_callee (f := 38) rfl ?_); refine goesL_ (some 44) rfl rfl Try.func38 (by kernel_rfl) rfl #[.string (rdOf ByteArray.empty t168 x8_2)] rfl (by (try simp only [List.map_toArray, List.map_cons, List.map_nil]); first | done | rfl | (simp only [List.length_drop, List.length_take]; rfl)) ?_; (with_reducible refine (cellarerref02_TakeNum.calls k2 (rdOf ByteArray.empty t168 x8_2) t176 true _ A11.out).mono ?_); rintro e w' ⟨rfl, ⟨nd, rfl⟩⟩; refine ⟨_, rfl, ?_⟩))
                                (try (rw [drewN_self wr]; generalize hq_ : World.drewN wr _ = wr; have n0_ : Aside0 (Kd.R Kd.string 9 wr w.heap.size (fun _ => True) (.slice (some ad175) t168.length co24) t168) := ⟨by rw [← hq_]; exact (by (with_reducible repeat (first | apply Kd.R_alloc | apply Kd.R_drewN | apply Kd.R_drew)); exact HO_4.out)⟩; have n1_ : Aside0 (Kd.R k39 39 wr w.heap.size (fun _ => True) u7 x7_2) := ⟨by rw [← hq_]; exact (by (with_reducible repeat (first | apply Kd.R_alloc | apply Kd.R_drewN | apply Kd.R_drew)); exact HO_7.out)⟩; have n2_ : Aside0 (Below w.heap.size w wr) := ⟨by rw [← hq_]; exact (by repeat (first | (with_reducible first | exact HB.out | apply below_alloc | apply pw_below_drewN | apply below_drew1) | exact HB.out))⟩; clear HO_4 HO_7 HB hq_; have HO_4 := n0_; have HO_7 := n1_; have HB := n2_; clear n0_ n1_ n2_))
                                have n0_ := Aside0.mk (Kd.R_drew HO_4.out)
                                have n1_ := Aside0.mk (Kd.R_drew HO_7.out)
                                have n2_ := Aside0.mk (below_drew1 HB.out)
                                clear HO_4
                                clear HO_7
                                clear HB
                                have HO_4 := n0_
                                have HO_7 := n1_
                                have HB := n2_
                                clear n0_ n1_ n2_
                                have p178 : 0 ≤ ((ji13) : Int) := of_decide_eq_true (by first | (with_reducible assumption) | assumption)
                                have q178 : (ji13) < (t168.length : Int) := of_decide_eq_true (by first | (with_reducible assumption) | assumption)
                                obtain ⟨ad178, e178, hx178_0⟩ := Kd.at_string (Kd.R_reads' HO_4.out).2.2 (ji13) p178 q178
                                obtain rfl : ad175 = ad178 := (by injection e178)
                                replace p178 := eq_true p178
                                replace q178 := eq_true q178
                                have p179 : 0 ≤ ((ji16) : Int) := of_decide_eq_true (by first | (with_reducible assumption) | assumption)
                                have q179 : (ji16) < (t168.length : Int) := of_decide_eq_true (by first | (with_reducible assumption) | assumption)
                                obtain ⟨ad179, e179, hx179_0⟩ := Kd.at_string (Kd.R_reads' HO_4.out).2.2 (ji16) p179 q179
                                obtain rfl : ad175 = ad179 := (by injection e179)
                                replace p179 := eq_true p179
                                replace q179 := eq_true q179
                                have p181 : 0 ≤ ((ji20) : Int) := of_decide_eq_true (by first | (with_reducible assumption) | assumption)
                                have q181 : (ji20) < (t168.length : Int) := of_decide_eq_true (by first | (with_reducible assumption) | assumption)
                                obtain ⟨ad181, e181, hx181_0⟩ := Kd.at_string (Kd.R_reads' HO_4.out).2.2 (ji20) p181 q181
                                obtain rfl : ad175 = ad181 := (by injection e181)
                                replace p181 := eq_true p181
                                replace q181 := eq_true q181
                                refine start_ (n := 24) (S := fun w' => w'.cell? (ad175.add ((ji13)).toNat) = some (.string (rdOf ByteArray.empty t168 (ji13))) ∧ w'.cell? (ad175.add ((ji16)).toNat) = some (.string (rdOf ByteArray.empty t168 (ji16))) ∧ w'.cell? (ad175.add ((ji20)).toNat) = some (.string (rdOf ByteArray.empty t168 (ji20)))) (ds := [21, 22]) #[false, false, false, false, false, false, false, false, false, false, false, false, false, false, false, false, false, false, false, false, false, false, false, false] (by kernel_rfl) rfl rfl ⟨hx178_0, hx179_0, hx181_0⟩ (fun hHeld => ?_); refine with_tabW cellarerref12_Take.tab11 cellarerref12_Take.bits11 (fun HT_ HW_ => ?_)
                                generalize wr.drew = w25 at HO_4 HO_7 HB hx178_0 hx179_0 hx181_0 hHeld ⊢
                                refine pure_ (i := 0) (N := some 49) (v := ?_) (a' := ?_) #[true, false, false, false, false, false, false, false, false, false, false, false, false, false, false, false, false, false, false, false, false, false, false, false] rfl rfl (any_of HT_.out (by kernel_rfl)) (fun _ _ _ h => h) (Or.inl ⟨by rfl, ?_⟩) ?_ ?_
                                rotate_left
                                · intro w'
                                  go_simp
                                  with_reducible rfl
                                rotate_left
                                · simp only [Act.put, List.setIfInBounds_toArray, List.set_cons_zero, List.set_cons_succ, i64_w, i32_w]
                                  rfl
                                refine pure_ (i := 1) (N := some 50) (v := ?_) (a' := ?_) #[true, true, false, false, false, false, false, false, false, false, false, false, false, false, false, false, false, false, false, false, false, false, false, false] rfl rfl (any_of HT_.out (by kernel_rfl)) (fun _ _ _ h => h) (Or.inl ⟨by rfl, ?_⟩) ?_ ?_
                                rotate_left
                                · intro w'
                                  go_simp
                                  with_reducible rfl
                                rotate_left
                                · simp only [Act.put, List.setIfInBounds_toArray, List.set_cons_zero, List.set_cons_succ, i64_w, i32_w]
                                  rfl
                                refine pure_ (i := 2) (N := some 51) (v := ?_) (a' := ?_) #[true, true, true, false, false, false, false, false, false, false, false, false, false, false, false, false, false, false, false, false, false, false, false, false] rfl rfl (any_of HT_.out (by kernel_rfl)) (fun _ _ _ h => h) (Or.inl ⟨by rfl, ?_⟩) ?_ ?_
                                rotate_left
                                · intro w'
                                  go_simp
                                  with_reducible rfl
                                rotate_left
                                · simp only [Act.put, List.setIfInBounds_toArray, List.set_cons_zero, List.set_cons_succ, i64_w, i32_w]
                                  rfl
                                refine pure_ (i := 3) (N := some 52) (v := ?_) (a' := ?_) #[true, true, true, true, false, false, false, false, false, false, false, false, false, false, false, false, false, false, false, false, false, false, false, false] rfl rfl (any_of HT_.out (by kernel_rfl)) (fun _ _ _ h => h) (Or.inl ⟨by rfl, ?_⟩) ?_ ?_
                                rotate_left
                                · intro w'
                                  go_simp
                                  with_reducible rfl
                                rotate_left
                                · simp only [Act.put, List.setIfInBounds_toArray, List.set_cons_zero, List.set_cons_succ, i64_w, i32_w]
                                  rfl
                                refine pure_ (i := 4) (N := some 53) (v := ?_) (a' := ?_) #[true, true, true, true, true, false, false, false, false, false, false, false, false, false, false, false, false, false, false, false, false, false, false, false] rfl rfl (any_of HT_.out (by kernel_rfl)) (fun _ _ _ h => h) (Or.inl ⟨by rfl, ?_⟩) ?_ ?_
                                rotate_left
                                · intro w'
                                  go_simp
                                  with_reducible rfl
                                rotate_left
                                · simp only [Act.put, List.setIfInBounds_toArray, List.set_cons_zero, List.set_cons_succ, i64_w, i32_w]
                                  rfl
                                refine pure_ (i := 5) (N := some 54) (v := ?_) (a' := ?_) #[true, true, true, true, true, true, false, false, false, false, false, false, false, false, false, false, false, false, false, false, false, false, false, false] rfl rfl (any_of HT_.out (by kernel_rfl)) (fun _ _ _ h => h) (Or.inl ⟨by rfl, ?_⟩) ?_ ?_
                                rotate_left
                                · intro w'
                                  go_simp
                                  with_reducible rfl
                                rotate_left
                                · simp only [Act.put, List.setIfInBounds_toArray, List.set_cons_zero, List.set_cons_succ, i64_w, i32_w]
                                  rfl
                                refine pure_ (i := 7) (N := some 56) (v := ?_) (a' := ?_) #[true, true, true, true, true, true, false, true, false, false, false, false, false, false, false, false, false, false, false, false, false, false, false, false] rfl rfl (any_of HT_.out (by kernel_rfl)) (fun _ _ _ h => h) (Or.inl ⟨by rfl, ?_⟩) ?_ ?_
                                rotate_left
                                · intro w'
                                  go_simp
                                  with_reducible rfl
                                rotate_left
                                · simp only [Act.put, List.setIfInBounds_toArray, List.set_cons_zero, List.set_cons_succ, i64_w, i32_w]
                                  rfl
                                refine pure_ (i := 8) (N := some 57) (v := ?_) (a' := ?_) #[true, true, true, true, true, true, false, true, true, false, false, false, false, false, false, false, false, false, false, false, false, false, false, false] rfl rfl (any_of HT_.out (by kernel_rfl)) (fun _ _ _ h => h) (Or.inl ⟨by rfl, ?_⟩) ?_ ?_
                                rotate_left
                                · intro w'
                                  go_simp
                                  with_reducible rfl
                                rotate_left
                                · simp only [Act.put, List.setIfInBounds_toArray, List.set_cons_zero, List.set_cons_succ, i64_w, i32_w]
                                  rfl
                                refine pure_ (i := 9) (N := some 58) (v := ?_) (a' := ?_) #[true, true, true, true, true, true, false, true, true, true, false, false, false, false, false, false, false, false, false, false, false, false, false, false] rfl rfl (any_of HT_.out (by kernel_rfl)) (fun _ _ _ h => h) (Or.inl ⟨by rfl, ?_⟩) ?_ ?_
                                rotate_left
                                · intro w'
                                  go_simp
                                  with_reducible rfl
                                rotate_left
                                · simp only [Act.put, List.setIfInBounds_toArray, List.set_cons_zero, List.set_cons_succ, i64_w, i32_w]
                                  rfl
                                refine pure_ (i := 10) (N := some 59) (v := ?_) (a' := ?_) #[true, true, true, true, true, true, false, true, true, true, true, false, false, false, false, false, false, false, false, false, false, false, false, false] rfl rfl (any_of HT_.out (by kernel_rfl)) (fun _ _ _ h => h) (Or.inl ⟨by rfl, ?_⟩) ?_ ?_
                                rotate_left
                                · intro w'
                                  go_simp
                                  with_reducible rfl
                                rotate_left
                                · simp only [Act.put, List.setIfInBounds_toArray, List.set_cons_zero, List.set_cons_succ, i64_w, i32_w]
                                  rfl
                                refine pure_ (i := 14) (N := some 63) (v := ?_) (a' := ?_) #[true, true, true, true, true, true, false, true, true, true, true, false, false, false, true, false, false, false, false, false, false, false, false, false] rfl rfl (any_of HT_.out (by kernel_rfl)) (fun _ _ _ h => h) (Or.inl ⟨by rfl, ?_⟩) ?_ ?_
                                rotate_left
                                · intro w'
                                  go_simp
                                  with_reducible rfl
                                rotate_left
                                · simp only [Act.put, List.setIfInBounds_toArray, List.set_cons_zero, List.set_cons_succ, i64_w, i32_w]
                                  rfl
                                refine pure_ (i := 15) (N := some 64) (v := ?_) (a' := ?_) #[true, true, true, true, true, true, false, true, true, true, true, false, false, false, true, true, false, false, false, false, false, false, false, false] rfl rfl (any_of HT_.out (by kernel_rfl)) (fun _ _ _ h => h) (Or.inl ⟨by rfl, ?_⟩) ?_ ?_
                                rotate_left
                                · intro w'
                                  go_simp
                                  with_reducible rfl
                                rotate_left
                                · simp only [Act.put, List.setIfInBounds_toArray, List.set_cons_zero, List.set_cons_succ, i64_w, i32_w]
                                  rfl
                                refine pure_ (i := 16) (N := some 65) (v := ?_) (a' := ?_) #[true, true, true, true, true, true, false, true, true, true, true, false, false, false, true, true, true, false, false, false, false, false, false, false] rfl rfl (any_of HT_.out (by kernel_rfl)) (fun _ _ _ h => h) (Or.inl ⟨by rfl, ?_⟩) ?_ ?_
                                rotate_left
                                · intro w'
                                  go_simp
                                  with_reducible rfl
                                rotate_left
                                · simp only [Act.put, List.setIfInBounds_toArray, List.set_cons_zero, List.set_cons_succ, i64_w, i32_w]
                                  rfl
                                refine pure_ (i := 17) (N := some 66) (v := ?_) (a' := ?_) #[true, true, true, true, true, true, false, true, true, true, true, false, false, false, true, true, true, true, false, false, false, false, false, false] rfl rfl (any_of HT_.out (by kernel_rfl)) (fun _ _ _ h => h) (Or.inl ⟨by rfl, ?_⟩) ?_ ?_
                                rotate_left
                                · intro w'
                                  go_simp
                                  with_reducible rfl
                                rotate_left
                                · simp only [Act.put, List.setIfInBounds_toArray, List.set_cons_zero, List.set_cons_succ, i64_w, i32_w]
                                  rfl
                                refine take_ (i := 6) (N := some 55) (v := ?_) (a' := ?_) #[true, true, true, true, true, true, true, true, true, true, true, false, false, false, true, true, true, true, false, false, false, false, false, false] rfl rfl (take_ofW HT_.out HW_.out (by kernel_rfl)) (fun _ _ _ h => h) (Or.inl ⟨by rfl, ?_⟩) hHeld ?_ ?_
                                rotate_left
                                · rintro w' ⟨s0, s1, s2⟩
                                  go_simp
                                  with_reducible rfl
                                rotate_left
                                · simp only [Act.put, List.setIfInBounds_toArray, List.set_cons_zero, List.set_cons_succ, i64_w, i32_w]
                                  rfl
                                refine take_ (i := 11) (N := some 60) (v := ?_) (a' := ?_) #[true, true, true, true, true, true, true, true, true, true, true, true, false, false, true, true, true, true, false, false, false, false, false, false] rfl rfl (take_ofW HT_.out HW_.out (by kernel_rfl)) (fun _ _ _ h => h) (Or.inl ⟨by rfl, ?_⟩) hHeld ?_ ?_
                                rotate_left
                                · rintro w' ⟨s0, s1, s2⟩
                                  go_simp
                                  with_reducible rfl
                                rotate_left
                                · simp only [Act.put, List.setIfInBounds_toArray, List.set_cons_zero, List.set_cons_succ, i64_w, i32_w]
                                  rfl
                                refine take_ (i := 18) (N := some 67) (v := ?_) (a' := ?_) #[true, true, true, true, true, true, true, true, true, true, true, true, false, false, true, true, true, true, true, false, false, false, false, false] rfl rfl (take_ofW HT_.out HW_.out (by kernel_rfl)) (fun _ _ _ h => h) (Or.inl ⟨by rfl, ?_⟩) hHeld ?_ ?_
                                rotate_left
                                · rintro w' ⟨s0, s1, s2⟩
                                  go_simp
                                  with_reducible rfl
                                rotate_left
                                · simp only [Act.put, List.setIfInBounds_toArray, List.set_cons_zero, List.set_cons_succ, i64_w, i32_w]
                                  rfl
                                refine one_ (i := 12) (N := some 61) #[true, true, true, true, true, true, true, true, true, true, true, true, true, false, true, true, true, true, true, false, false, false, false, false] rfl rfl (one_of HT_.out (by kernel_rfl)) (by decide) (fun K hK => ?_)
                                refine goes_ Try.func32 (by kernel_rfl) rfl #[.int .u64 1] (by rfl) rfl rfl (by (try simp only [List.map_toArray, List.map_cons, List.map_nil]); first | done | rfl | (simp only [List.length_drop, List.length_take]; rfl)) ?_
                                with_reducible refine (cellarerref02_Num.calls k2 1 t180 _ A19.out).mono ?_
                                rintro e w26 ⟨rfl, hb⟩
                                have HS0_ := (hb.cell (World.block_lt_of_cell? _ _ (hHeld.1))).trans (hHeld.1)
                                have HS1_ := (hb.cell (World.block_lt_of_cell? _ _ (hHeld.2.1))).trans (hHeld.2.1)
                                have HS2_ := (hb.cell (World.block_lt_of_cell? _ _ (hHeld.2.2))).trans (hHeld.2.2)
                                refine ⟨_, rfl, ?_⟩
                                have n0_ := Aside0.mk (Kd.R_below (by (with_reducible repeat (first | apply Kd.R_alloc | apply Kd.R_drewN | apply Kd.R_drew)); exact HO_4.out) hb)
                                have n1_ := Aside0.mk (Kd.R_below (by (with_reducible repeat (first | apply Kd.R_alloc | apply Kd.R_drewN | apply Kd.R_drew)); exact HO_7.out) hb)
                                have n2_ := Aside0.mk (below_step (by repeat (first | (with_reducible first | exact HB.out | apply below_alloc | apply pw_below_drewN | apply below_drew1) | exact HB.out)) hb)
                                clear HO_4
                                clear HO_7
                                clear HB
                                have HO_4 := n0_
                                have HO_7 := n1_
                                have HB := n2_
                                clear n0_ n1_ n2_
                                (try clear hb)
                                (try clear hb2)
                                (try clear hk)
                                (try clear hi)
                                refine hK.out _ _ ⟨HS0_, HS1_, HS2_⟩ (fun hHeld => ?_)
                                clear hK K
                                refine norm_ (a' := ?_) ?_ ?_
                                rotate_left
                                · show Act.put _ (some 61) _ = _
                                  simp only [Act.put, List.setIfInBounds_toArray, List.set_cons_zero, List.set_cons_succ, i64_w, i32_w]
                                  rfl
                                refine pure_ (i := 13) (N := some 62) (v := ?_) (a' := ?_) #[true, true, true, true, true, true, true, true, true, true, true, true, true, true, true, true, true, true, true, false, false, false, false, false] rfl rfl (any_of HT_.out (by kernel_rfl)) (fun _ _ _ h => h) (Or.inl ⟨by rfl, ?_⟩) ?_ ?_
                                rotate_left
                                · intro w'
                                  go_simp
                                  with_reducible rfl
                                rotate_left
                                · simp only [Act.put, List.setIfInBounds_toArray, List.set_cons_zero, List.set_cons_succ, i64_w, i32_w]
                                  rfl
                                refine pure_ (i := 19) (N := some 68) (v := ?_) (a' := ?_) #[true, true, true, true, true, true, true, true, true, true, true, true, true, true, true, true, true, true, true, true, false, false, false, false] rfl rfl (any_of HT_.out (by kernel_rfl)) (fun _ _ _ h => h) (Or.inl ⟨by rfl, ?_⟩) ?_ ?_
                                rotate_left
                                · intro w'
                                  go_simp
                                  with_reducible rfl
                                rotate_left
                                · simp only [Act.put, List.setIfInBounds_toArray, List.set_cons_zero, List.set_cons_succ, i64_w, i32_w]
                                  rfl
                                refine pure_ (i := 20) (N := some 69) (v := ?_) (a' := ?_) #[true, true, true, true, true, true, true, true, true, true, true, true, true, true, true, true, true, true, true, true, true, false, false, false] rfl rfl (any_of HT_.out (by kernel_rfl)) (fun _ _ _ h => h) (Or.inl ⟨by rfl, ?_⟩) ?_ ?_
                                rotate_left
                                · intro w'
                                  go_simp
                                  with_reducible rfl
                                rotate_left
                                · simp only [Act.put, List.setIfInBounds_toArray, List.set_cons_zero, List.set_cons_succ, i64_w, i32_w]
                                  rfl
                                refine last_ (i := 21) (N := some 70) #[true, true, true, true, true, true, true, true, true, true, true, true, true, true, true, true, true, true, true, true, true, true, false, false] rfl rfl (one_of HT_.out (by kernel_rfl)) (by decide) (fun K hK => ?_)
                                refine value_ (w1 := ?_) (v := ?_) (by rfl) rfl ?_ ?_
                                rotate_left 2
                                · go_simp
                                  constructor
                                  · rfl
                                  · rfl
                                refine hK.out _ _ ?_
                                clear hK K
                                refine norm_ (a' := ?_) ?_ ?_
                                rotate_left
                                · show Act.put _ (some 70) _ = _
                                  simp only [Act.put, List.setIfInBounds_toArray, List.set_cons_zero, List.set_cons_succ, i64_w, i32_w]
                                  rfl
                                refine last_ (i := 22) (N := some 71) #[true, true, true, true, true, true, true, true, true, true, true, true, true, true, true, true, true, true, true, true, true, true, true, false] rfl rfl (one_of HT_.out (by kernel_rfl)) (by decide) (fun K hK => ?_)
                                refine Kd.R_append_step k39 (w0 := w) w.heap.size (by rfl) (.tmp 49) (.tmp 70) 22 39 (.agg #[(.int .u64 0), (.string ⟨#[]⟩), (.string ⟨#[]⟩), (.bool false)]) 48 rfl Try.underlying22 info39 rfl (by decide) (by omega) u7 x7_2 (⟨t176, (⟨rdOf ByteArray.empty t168 (ji13), rdOf ByteArray.empty t168 (ji20), ((rdOf ByteArray.empty t168 (ji16)).toList == t180.toList)⟩ : S37)⟩ : S39) [.int .u64 t176, .string (rdOf ByteArray.empty t168 (ji13)), .string (rdOf ByteArray.empty t168 (ji20)), .bool ((rdOf ByteArray.empty t168 (ji16)).toList == t180.toList)] (fun _ => True) (fun _ => False) rfl rfl ?aP (fun _ hk => hk.elim) ?aF ?aO ?aB ?aS ?aL ?_
                                (case aP => exact k39_mkM _ _ _ (⟨t176, (⟨rdOf ByteArray.empty t168 (ji13), rdOf ByteArray.empty t168 (ji20), ((rdOf ByteArray.empty t168 (ji16)).toList == t180.toList)⟩ : S37)⟩ : S39))
                                (case aB => exact (by repeat (first | (with_reducible first | exact HB.out | apply below_alloc | apply pw_below_drewN | apply below_drew1) | exact HB.out)))
                                (case aF => exact (fun _ _ => trivial))
                                (case aO => exact (by (with_reducible repeat (first | apply Kd.R_alloc | apply Kd.R_drewN | apply Kd.R_drew)); exact HO_7.out))
                                (case aS => exact (below_size (by repeat (first | (with_reducible first | exact HB.out | apply below_alloc | apply pw_below_drewN | apply below_drew1) | exact HB.out))))
                                (case aL => have := LMc23.out; omega)
                                intro v183 w27 ho hb hg hat
                                rw [← Ny182.out] at ho
                                have n0_ := Aside0.mk (Kd.R_over' (by (with_reducible repeat (first | apply Kd.R_alloc | apply Kd.R_drewN | apply Kd.R_drew)); exact HO_4.out) (Kd.R_typed (by (with_reducible repeat (first | apply Kd.R_alloc | apply Kd.R_drewN | apply Kd.R_drew)); exact HO_7.out)) (by decide) hg)
                                have n1_ := Aside0.mk (hb)
                                have n2_ := Aside0.mk (ho)
                                clear HO_4
                                clear HB
                                clear HO_7
                                have HO_4 := n0_
                                have HB := n1_
                                have HO184 := n2_
                                clear n0_ n1_ n2_
                                clear ho hb hg hat
                                refine hK.out _ _ ?_
                                clear hK K
                                refine norm_ (a' := ?_) ?_ ?_
                                rotate_left
                                · show Act.put _ (some 71) _ = _
                                  simp only [Act.put, List.setIfInBounds_toArray, List.set_cons_zero, List.set_cons_succ, i64_w, i32_w]
                                  rfl
                                refine pure_ (i := 23) (N := some 7) (v := ?_) (a' := ?_) #[true, true, true, true, true, true, true, true, true, true, true, true, true, true, true, true, true, true, true, true, true, true, true, true] rfl rfl (any_of HT_.out (by kernel_rfl)) (fun _ _ _ h => h) (Or.inl ⟨by rfl, ?_⟩) ?_ ?_
                                rotate_left
                                · intro w'
                                  go_simp
                                  with_reducible rfl
                                rotate_left
                                · simp only [Act.put, List.setIfInBounds_toArray, List.set_cons_zero, List.set_cons_succ, i64_w, i32_w]
                                  rfl
                                refine done_ (done_of HT_.out (by kernel_rfl)) ?_
                                try go_wp2
                                go_roundg k2
                                case measure => have := HJ2.out; have := HK2.out; omega
                                case rel => exact ⟨(y182), (wrap64 (x8_2 + 4)), (by first | rfl | (simp; done) | (simp [*]; done)), H', ⟨by have := HJ2.out; have := HK2.out; omega⟩, ⟨by (with_reducible repeat (first | apply Kd.R_alloc | apply Kd.R_drewN | apply Kd.R_drew)); exact HO_4.out⟩, ⟨by (with_reducible repeat (first | apply Kd.R_alloc | apply Kd.R_drewN | apply Kd.R_drew)); exact HO184.out⟩, ⟨by repeat (first | (with_reducible first | exact HB.out | apply below_alloc | apply pw_below_drewN | apply below_drew1) | exact HB.out)⟩⟩
                              · rw [if_neg c23] at H
                                exact absurd H (by simp)
                            · rw [if_neg c22] at H
                              exact absurd H (by simp)
                          · rw [if_neg c21] at H
                            exact absurd H (by simp)
                        · rw [if_neg c18] at H
                          exact absurd H (by simp)
                      · rw [if_neg c17] at H
                        exact absurd H (by simp)
                    · rw [if_neg c15] at H
                      exact absurd H (by simp)
                  · rw [if_neg c14] at H
                    exact absurd H (by simp)
                · replace c12 := Bool.eq_false_iff.mpr c12
                  subst c12
                  have H1 : (some (([] : List (S39)), false)) = some (r1, r2) := by rw [if_neg (show ¬ (false = true) by decide)] at H; exact H
                  clear H
                  have H := H1
                  clear H1
                  simp only [Option.some.injEq, Prod.mk.injEq] at H
                  obtain ⟨rfl, rfl⟩ := H
                  obtain ⟨Ao28, co28, eo28⟩ := Kd.R_slice HO_4.out
                  subst eo28
                  have p175 : 0 ≤ (x8_2 : Int) := of_decide_eq_true (by first | (with_reducible assumption) | assumption)
                  have q175 : x8_2 < (t168.length : Int) := of_decide_eq_true (by first | (with_reducible assumption) | assumption)
                  obtain ⟨ad175, e175, hx175_0⟩ := Kd.at_string (Kd.R_reads' HO_4.out).2.2 x8_2 p175 q175
                  cases e175
                  replace p175 := eq_true p175
                  replace q175 := eq_true q175
                  go_wp2_with (first | ((with_reducible refine gate_callee (f := 38) rfl ?_); refine goesL_ (some 44) rfl rfl Try.func38 (by kernel_rfl) rfl #[.string (rdOf ByteArray.empty t168 x8_2)] rfl (by (try simp only [List.map_toArray, List.map_cons, List.map_nil]); first | done | rfl | (simp only [List.length_drop, List.length_take]; rfl)) ?_; (with_reducible refine (cellarerref02_TakeNum.calls k2 (rdOf ByteArray.empty t168 x8_2) t176 false _ A11.out).mono ?_); rintro e w' ⟨rfl, ⟨nd, rfl⟩⟩; refine ⟨_, rfl, ?_⟩))
                  go_ret2
                  exact ⟨_, by first | rfl | (simp [errW_none, errW_some] <;> rfl) | (simp [*, errW_none, errW_some] <;> rfl), by first | exact Kd.R_nil _ _ _ _ _ | exact Kd.N_nil _ _ _ _ _ | exact Kd.V_nil _ _ _ _ _ | exact Kd.Q_nil _ _ _ _ _ | exact Kd.S_nil _ _ _ _ _, by repeat (first | (with_reducible first | exact HB.out | apply below_alloc | apply pw_below_drewN | apply below_drew1) | exact HB.out)⟩
              · rw [if_neg c10] at H
                exact absurd H (by simp)
            · rw [if_neg c9] at H
              have c9b0 : decide (x8_2 < (t168.length : Int)) = false := decide_eq_false c9
              clear c9
              replace H := Option.bind_eq_some_iff.mp H
              obtain ⟨⟨t173, t174⟩, A290, H⟩ := H
              replace H : (if t174 = 0 then (if t173.toList = a0.toList then (some (x7_2, true)) else (some (([] : List (S39)), false))) else (some (([] : List (S39)), false))) = some (r1, r2) := H
              have A29 := Aside0.mk A290
              clear A290
              by_cases c30 : t174 = 0
              · rw [if_pos c30] at H
                have c30b0 : (t174 == 0) = true := beq_iff_eq.mpr c30
                have c30b1 : (t174 != 0) = false := bne_eq_false_iff_eq.mpr c30
                clear c30
                by_cases c31 : t173.toList = a0.toList
                · rw [if_pos c31] at H
                  have c31b0 : (t173.toList == a0.toList) = true := beq_iff_eq.mpr c31
                  have c31b1 : (t173.toList != a0.toList) = false := bne_eq_false_iff_eq.mpr c31
                  clear c31
                  simp only [Option.some.injEq, Prod.mk.injEq] at H
                  obtain ⟨rfl, rfl⟩ := H
                  obtain ⟨Ao32, co32, eo32⟩ := Kd.R_slice HO_4.out
                  subst eo32
                  obtain ⟨Ao33, co33, eo33⟩ := Kd.R_slice HO_7.out
                  subst eo33
                  go_wp2_with (first | ((with_reducible refine gate_callee (f := 12) rfl ?_); refine goesL_ (some 74) rfl rfl Try.func12 (by kernel_rfl) rfl #[.slice Ao33 x7_2.length co33] rfl (by (try simp only [List.map_toArray, List.map_cons, List.map_nil]); first | done | rfl | (simp only [List.length_drop, List.length_take]; rfl)) ?_; (with_reducible refine (cellarerref12_Lay.calls k2 _ _ x7_2 t173 t174 _ ?side1 ?side2 A29.out).mono ?_); (case side1 => repeat (first | exact (Kd.R_reads' HO_7.out).2.2 | (with_reducible refine Kd.C_alloc ?_ _) | (with_reducible refine Kd.C_drewN ?_ _) | (with_reducible refine Kd.C_drew ?_))); (case side2 => exact (Kd.R_reads' HO_7.out).2.1); rintro e w34 ⟨rfl, hb⟩; refine ⟨_, rfl, ?_⟩; have n0_ := Aside0.mk (Kd.R_below (by (with_reducible repeat (first | apply Kd.R_alloc | apply Kd.R_drewN | apply Kd.R_drew)); exact HO_4.out) hb); have n1_ := Aside0.mk (Kd.R_below (by (with_reducible repeat (first | apply Kd.R_alloc | apply Kd.R_drewN | apply Kd.R_drew)); exact HO_7.out) hb); have n2_ := Aside0.mk (below_step (by repeat (first | (with_reducible first | exact HB.out | apply below_alloc | apply pw_below_drewN | apply below_drew1) | exact HB.out)) hb); clear HO_4; clear HO_7; clear HB; have HO_4 := n0_; have HO_7 := n1_; have HB := n2_; clear n0_ n1_ n2_; (try clear hb); (try clear hb2); (try clear hk); (try clear hi)))
                  go_ret2
                  exact ⟨_, by first | rfl | (simp [errW_none, errW_some] <;> rfl) | (simp [*, errW_none, errW_some] <;> rfl), by (with_reducible repeat (first | apply Kd.R_alloc | apply Kd.R_drewN | apply Kd.R_drew)); exact HO_7.out, by repeat (first | (with_reducible first | exact HB.out | apply below_alloc | apply pw_below_drewN | apply below_drew1) | exact HB.out)⟩
                · rw [if_neg c31] at H
                  have c31b0 : (t173.toList == a0.toList) = false := beq_eq_false_iff_ne.mpr c31
                  have c31b1 : (t173.toList != a0.toList) = true := bne_iff_ne.mpr c31
                  simp only [Option.some.injEq, Prod.mk.injEq] at H
                  obtain ⟨rfl, rfl⟩ := H
                  obtain ⟨Ao35, co35, eo35⟩ := Kd.R_slice HO_4.out
                  subst eo35
                  obtain ⟨Ao36, co36, eo36⟩ := Kd.R_slice HO_7.out
                  subst eo36
                  go_wp2_with (first | ((with_reducible refine gate_callee (f := 12) rfl ?_); refine goesL_ (some 74) rfl rfl Try.func12 (by kernel_rfl) rfl #[.slice Ao36 x7_2.length co36] rfl (by (try simp only [List.map_toArray, List.map_cons, List.map_nil]); first | done | rfl | (simp only [List.length_drop, List.length_take]; rfl)) ?_; (with_reducible refine (cellarerref12_Lay.calls k2 _ _ x7_2 t173 t174 _ ?side1 ?side2 A29.out).mono ?_); (case side1 => repeat (first | exact (Kd.R_reads' HO_7.out).2.2 | (with_reducible refine Kd.C_alloc ?_ _) | (with_reducible refine Kd.C_drewN ?_ _) | (with_reducible refine Kd.C_drew ?_))); (case side2 => exact (Kd.R_reads' HO_7.out).2.1); rintro e w37 ⟨rfl, hb⟩; refine ⟨_, rfl, ?_⟩; have n0_ := Aside0.mk (Kd.R_below (by (with_reducible repeat (first | apply Kd.R_alloc | apply Kd.R_drewN | apply Kd.R_drew)); exact HO_4.out) hb); have n1_ := Aside0.mk (Kd.R_below (by (with_reducible repeat (first | apply Kd.R_alloc | apply Kd.R_drewN | apply Kd.R_drew)); exact HO_7.out) hb); have n2_ := Aside0.mk (below_step (by repeat (first | (with_reducible first | exact HB.out | apply below_alloc | apply pw_below_drewN | apply below_drew1) | exact HB.out)) hb); clear HO_4; clear HO_7; clear HB; have HO_4 := n0_; have HO_7 := n1_; have HB := n2_; clear n0_ n1_ n2_; (try clear hb); (try clear hb2); (try clear hk); (try clear hi)))
                  go_ret2
                  exact ⟨_, by first | rfl | (simp [errW_none, errW_some] <;> rfl) | (simp [*, errW_none, errW_some] <;> rfl), by first | exact Kd.R_nil _ _ _ _ _ | exact Kd.N_nil _ _ _ _ _ | exact Kd.V_nil _ _ _ _ _ | exact Kd.Q_nil _ _ _ _ _ | exact Kd.S_nil _ _ _ _ _, by repeat (first | (with_reducible first | exact HB.out | apply below_alloc | apply pw_below_drewN | apply below_drew1) | exact HB.out)⟩
              · rw [if_neg c30] at H
                have c30b0 : (t174 == 0) = false := beq_eq_false_iff_ne.mpr c30
                have c30b1 : (t174 != 0) = true := bne_iff_ne.mpr c30
                simp only [Option.some.injEq, Prod.mk.injEq] at H
                obtain ⟨rfl, rfl⟩ := H
                obtain ⟨Ao38, co38, eo38⟩ := Kd.R_slice HO_4.out
                subst eo38
                obtain ⟨Ao39, co39, eo39⟩ := Kd.R_slice HO_7.out
                subst eo39
                go_wp2_with (first | ((with_reducible refine gate_callee (f := 12) rfl ?_); refine goesL_ (some 74) rfl rfl Try.func12 (by kernel_rfl) rfl #[.slice Ao39 x7_2.length co39] rfl (by (try simp only [List.map_toArray, List.map_cons, List.map_nil]); first | done | rfl | (simp only [List.length_drop, List.length_take]; rfl)) ?_; (with_reducible refine (cellarerref12_Lay.calls k2 _ _ x7_2 t173 t174 _ ?side1 ?side2 A29.out).mono ?_); (case side1 => repeat (first | exact (Kd.R_reads' HO_7.out).2.2 | (with_reducible refine Kd.C_alloc ?_ _) | (with_reducible refine Kd.C_drewN ?_ _) | (with_reducible refine Kd.C_drew ?_))); (case side2 => exact (Kd.R_reads' HO_7.out).2.1); rintro e w40 ⟨rfl, hb⟩; refine ⟨_, rfl, ?_⟩; have n0_ := Aside0.mk (Kd.R_below (by (with_reducible repeat (first | apply Kd.R_alloc | apply Kd.R_drewN | apply Kd.R_drew)); exact HO_4.out) hb); have n1_ := Aside0.mk (Kd.R_below (by (with_reducible repeat (first | apply Kd.R_alloc | apply Kd.R_drewN | apply Kd.R_drew)); exact HO_7.out) hb); have n2_ := Aside0.mk (below_step (by repeat (first | (with_reducible first | exact HB.out | apply below_alloc | apply pw_below_drewN | apply below_drew1) | exact HB.out)) hb); clear HO_4; clear HO_7; clear HB; have HO_4 := n0_; have HO_7 := n1_; have HB := n2_; clear n0_ n1_ n2_; (try clear hb); (try clear hb2); (try clear hk); (try clear hi)))
                go_ret2
                exact ⟨_, by first | rfl | (simp [errW_none, errW_some] <;> rfl) | (simp [*, errW_none, errW_some] <;> rfl), by first | exact Kd.R_nil _ _ _ _ _ | exact Kd.N_nil _ _ _ _ _ | exact Kd.V_nil _ _ _ _ _ | exact Kd.Q_nil _ _ _ _ _ | exact Kd.S_nil _ _ _ _ _, by repeat (first | (with_reducible first | exact HB.out | apply below_alloc | apply pw_below_drewN | apply below_drew1) | exact HB.out)⟩

end Go.Proofs.Ytipahpkdddijmaa.Q
