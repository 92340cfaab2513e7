/- The law ChangeGoes returns true for every input that its row lets in, under the row's own conditions and no others. Part 1 of 1. -/
import Derived.Test.YtipahpkdddijmaaCd2
import Derived.Test.YtipahpkdddijmaaCs0
import Derived.Test.YtipahpkdddijmaaProg
import Derived.Below
import Derived.Deep.Draws
import Derived.Deep.AppendLies
import Derived.Maps.AppendAt
import Derived.OwnWalk
import Derived.Laws.BytesArg
import Derived.Laws.MakeOwn
import Derived.Laws.OwnMore
import Derived.Deep.OwnRows
import Derived.Tactics
import Derived.Lib.ConvBytes
import Derived.Laws.Slices
import Derived.WalkKit
import Derived.KernelRfl
import Derived.RowKit3
import Derived.Deep.LoopGhost
import Derived.Deep.QuietTactic
import Derived.BigQuiet
import Derived.WideLaws
import Derived.Deep.DeepCutAuto
import Derived.Deep.CutBlock
import Derived.Deep.RegionHeld3
import Derived.Laws.Rows
import Derived.Lib.AppendStr
import Derived.ArgAppend
import Derived.Laws.IdiomCopy
import Derived.OrdersHeld
import Derived.Laws.BitsLemmas
import Derived.RowKit
import Derived.Laws.StructEq
import Derived.Maps.OwnSet
import Derived.Maps.RangeWalk
import Derived.Lib.BufferMore
import Derived.Lib.Bytealg
import Derived.Shelf.SlSortCmp.WholeK
import Derived.Shelf.Strings.Builder1
import Derived.Shelf.Small.Bits
import Derived.Shelf.Small.Strs
import Derived.Shelf.Strings.BuilderF
import Derived.Shelf.Strconv.Itoa0
import Derived.Shelf.SlSortCmp.QuietGrown
import Derived.Laws.CopyOwn
import Derived.Lib.Overlaps
import Derived.Deep.RegionLaw
import Derived.Lib.Builder
import Derived.Deep.DeepMust
import Derived.ProofKit
import Derived.Deep.Strs
import Derived.Test.YtipahpkdddijmaaRows
import Derived.OpenShut
import Derived.ShutString
import Derived.ChangeOld
import Derived.SizedLaws
-- E5
namespace Go.Proofs.Ytipahpkdddijmaa.Q
open Go.WideMaps Go.RowKit Go.Proofs.YtipahpkdddijmaaW.PrintWords Go.Proofs.YtipahpkdddijmaaW.PrintLast Go.Proofs.YtipahpkdddijmaaW.PrintMore Go.Maps
set_option linter.unusedVariables false
set_option linter.unusedSimpArgs false

/-! ### law11.Changes -/
theorem info37 : (Try.prog.info? 37).map (fun i => (i.zero, i.size, i.bytes)) = some (some (.agg #[(.string ⟨#[]⟩), (.string ⟨#[]⟩), (.bool false)]), 3, 40) := by kernel_rfl
theorem info_size37 : (Try.prog.info? 37).map (·.size) = some 3 := by kernel_rfl
theorem below_set3 {w w1 : World} {B g : Nat} (h : Below B w w1) (hg : B ≤ g) (v0 v1 v2 : Value) : Below B w (((w1.setCell ⟨g, 0, none⟩ v0).setCell ⟨g, 1, none⟩ v1).setCell ⟨g, 2, none⟩ v2) := ((h.setCell (p := ⟨g, 0, none⟩) hg _).setCell (p := ⟨g, 1, none⟩) hg _).setCell (p := ⟨g, 2, none⟩) hg _
theorem store37_law {ops : Array Oper} {rest : List Oper} {o : Oper} {a : Act} {Q : Exit → Act → World → Prop} {W : World} (hN : o.dst = none) (hgd : o.guard = none) (p x : Operand) (ho : o.op = .store 37 p x) (g : Nat) (c0 c1 c2 : Value) (n : S37)
    (haddr : a.eval p = .pointer (some ⟨g, 0, none⟩)) (hx : a.eval x = .agg #[.string n.f0, .string n.f1, .bool n.f2]) (hb : W.heap[g]? = some (.cells #[c0, c1, c2] 37 (0, 0)))
    (h : ∀ w1, w1.heap[g]? = some (.cells #[.string n.f0, .string n.f1, .bool n.f2] 37 (0, 0)) → (∀ B, B ≤ g → Below B W w1) → wpList Try.prog ops Q rest a w1) : wpList Try.prog ops Q (o :: rest) a W := by
  refine wpList_plain hgd fun K hK => ?_
  have hrun := run_store_run (P := Try.prog) (w := W) (g := g) (o := 0) (e := 37) (cur := #[c0, c1, c2]) 37 (.agg #[.string n.f0, .string n.f1, .bool n.f2]) [.string n.f0, .string n.f1, .bool n.f2] hb rfl info_size37 (by show 0 + 3 ≤ 3; decide) (by
    intro v hv
    simp at hv
    rcases hv with rfl | rfl | rfl <;> rfl)
  unfold Oper.wp execOp
  simp only [ho, haddr, hx, Sem.run_bind, Sem.run_pure, Result.andThen_ok, hrun]
  show K (a.put o.dst undef) _
  rw [hN]
  exact hK _ _ (h _ (blk_put (cs := #[.string n.f0, .string n.f1, c2]) (blk_put (cs := #[.string n.f0, c1, c2]) (blk_put (cs := #[c0, c1, c2]) hb 0 _ rfl) 1 _ rfl) 2 _ rfl) (fun B hB => below_set3 (Below.refl B W) hB _ _ _))
theorem store9_37 {ops : Array Oper} {rest : List Oper} {o : Oper} {a : Act} {Q : Exit → Act → World → Prop} {W : World} (hN : o.dst = none) (hgd : o.guard = none) (p x : Operand) (ho : o.op = .store 9 p x) (g j : Nat) (cs : Array Value) (s : ByteArray)
    (haddr : a.eval p = .pointer (some ⟨g, j, none⟩)) (hx : a.eval x = .string s) (hb : W.heap[g]? = some (.cells cs 37 (0, 0))) (hj : j + 1 ≤ cs.size)
    (h : ∀ w1, w1.heap[g]? = some (.cells (cs.setIfInBounds j (.string s)) 37 (0, 0)) → (∀ B, B ≤ g → Below B W w1) → wpList Try.prog ops Q rest a w1) : wpList Try.prog ops Q (o :: rest) a W := by
  refine wpList_plain hgd fun K hK => ?_
  have hrun := run_store_run (P := Try.prog) (w := W) (g := g) (o := j) (e := 37) (cur := cs) 9 (.string s) [.string s] hb rfl info_size9 hj (by intro v hv; simp at hv; subst hv; rfl)
  unfold Oper.wp execOp
  simp only [ho, haddr, hx, Sem.run_bind, Sem.run_pure, Result.andThen_ok, hrun]
  show K (a.put o.dst undef) _
  rw [hN]
  exact hK _ _ (h _ (blk_set hb j _) (fun B hB => (Below.refl B W).setCell (p := ⟨g, j, none⟩) hB _))

/-! ### the law's own Few -/
def chgC (n : S37) : S37 := ⟨if 120 < n.f0.size then n.f0.extract 0 120 else n.f0, if 2100 < n.f1.size then n.f1.extract 0 2100 else n.f1, n.f2⟩
def chgN (l : List S37) : List S37 := (l.take 60).map chgC
theorem take_snoc37 (l : List S37) (k : Nat) (h : k < l.length) : l.take (k + 1) = l.take k ++ [l[k]] := by rw [List.take_succ_eq_append_getElem h]
theorem chgT_snoc (l : List S37) (k : Nat) (h : k < l.length) : (l.take (k + 1)).map chgC = (l.take k).map chgC ++ [chgC l[k]] := by rw [take_snoc37 l k h, List.map_append]; rfl
instance : Inhabited S37 := ⟨z37⟩
theorem at37 {w wr : World} {A : Option Addr} {l : List S37} (h : Kd.C k37 w A l.length l) (hb : Below w.heap.size w wr) (k : Nat) (hk : k < l.length) : ∃ ad, A = some ad ∧ wr.cell? (ad.add (k * 3)) = some (.string l[k].f0) ∧ wr.cell? ⟨(ad.add (k * 3)).block, (ad.add (k * 3)).off + 1, none⟩ = some (.string l[k].f1) ∧ wr.cell? ⟨(ad.add (k * 3)).block, (ad.add (k * 3)).off + 2, none⟩ = some (.bool l[k].f2) := by
  obtain ⟨ad, e, c0, c1, c2⟩ := at_T37 (Kd.C_below h hb) (k : Int) (by omega) (by omega)
  have er : rd_T37 l (k : Int) = l[k] := by unfold rd_T37; simp [hk]
  rw [er] at c0 c1 c2
  exact ⟨ad, e, c0, c1, c2⟩
set_option maxHeartbeats 2000000 in
set_option maxRecDepth 100000 in
theorem changes.walk (A : Option Addr) (c : Nat) (l : List S37) (w : World) (hr : Kd.C k37 w A l.length l) (hc : l.length ≤ c) :
    Calls Try.prog 24 #[.slice A l.length c] w fun e w' => ∃ v, e = .returned v ∧ Kd.R k37 37 w' w.heap.size (fun _ => True) v (chgN l) ∧ Below w.heap.size w w' := by
  have HR := Lib.hid hr
  have hbig : (l.length : Int) ≤ 9223372036854775807 := by have := hr.2.1; omega
  have HB0 : Hid (Below w.heap.size w w) := Below.refl _ _
  clear hr
  go_enter Try.func24, Try.ntmps24
  go_wp2
  go_loopw [3, 4] (fun v i wr => ∃ (k : Nat), i = .int .i64 k ∧ k ≤ l.length ∧ k ≤ 60 ∧ Hid (Kd.R k37 37 wr w.heap.size (fun _ => True) v ((l.take k).map chgC)) ∧ Hid (Below w.heap.size w wr)) (fun _ i _ => 61 - (intOf i).toNat)
  case atStart => exact ⟨0, rfl, Nat.zero_le _, Nat.zero_le _, Kd.R_nil _ _ _ _ _, HB0⟩
  case round =>
    obtain ⟨k, rfl, hk, hk2, HN, HB⟩ := hrel
    by_cases hlt : k < l.length
    · by_cases hlt2 : k < 60
      · obtain ⟨ad, e', c0, c1, c2⟩ := at37 HR.out HB.out k hlt
        subst e'
        have p0 : (0 : Int) ≤ (k : Int) := by omega
        have p1 : (k : Int) < (l.length : Int) := by omega
        have p2 : (k : Int) < 60 := by omega
        have HT := Lib.hid (chgT_snoc l k hlt)
        have hlen : ((l.take k).map chgC).length = k := by rw [List.length_map, List.length_take]; omega
        generalize l[k] = n at *
        generalize hys : (l.take k).map chgC = ys at *
        clear hys
        have HLEN := Lib.hid hlen
        clear hlen
        by_cases h1 : 120 < n.f0.size
        · by_cases h2 : 2100 < n.f1.size
          · have HF : Hid (chgC n = ⟨n.f0.extract 0 120, n.f1.extract 0 2100, n.f2⟩) := by unfold Hid chgC; rw [if_pos h1, if_pos h2]
            have h3 : (120 : Int) < n.f0.size := by omega
            have h4 : (2100 : Int) < n.f1.size := by omega
            clear h1 h2
            go_wp2_with (first | ((with_reducible refine gate_dst (N := 5) rfl ?_); refine box_event ?hg (N := 5) ?hd (cs := #[.string (⟨#[]⟩ : ByteArray), .string (⟨#[]⟩ : ByteArray), .bool false]) (t := 37) ?hr ?_; (case hd => rfl); (case hg => rfl); (case hr => first | (go_simp; done) | (go_simp; rfl)); intro g5 hg5 w5 hb5 hbel5; have HB5 := Lib.hid hbel5; have G5 := Lib.hid (Nat.le_of_eq hg5.symm : wr.heap.size ≤ g5); have K5 := Lib.hid hb5; clear hg5 hb5 hbel5) | ((with_reducible refine gate_ (.store 37 (.tmp 5) (.tmp 19)) rfl ?_); go_must (refine store37_law rfl rfl (.tmp 5) (.tmp 19) rfl g5 _ _ _ n rfl rfl K5.out ?_; intro w6 hk6 hb6; have K6 := Lib.hid hk6; have HB6 := Lib.hid (HB5.out.trans (hb6 wr.heap.size G5.out)); have d0 := (blk_cell K6.out 0).trans (rfl : _ = some (Value.string (n.f0))); have d1 := (blk_cell K6.out 1).trans (rfl : _ = some (Value.string (n.f1))); have d2 := (blk_cell K6.out 2).trans (rfl : _ = some (Value.bool n.f2)); have z0 := blk_frozen K6.out 0; have z1 := blk_frozen K6.out 1; have z2 := blk_frozen K6.out 2; clear hk6 hb6)) | ((with_reducible refine gate_ (.store 9 (.tmp 27) (.tmp 26)) rfl ?_); go_must (refine store9_37 rfl rfl (.tmp 27) (.tmp 26) rfl g5 0 _ (n.f0.extract 0 120) rfl rfl K6.out (by show _ ≤ 3; decide) ?_; intro w7 hk hb; have K7 : Hid (w7.heap[g5]? = some (.cells #[.string (n.f0.extract 0 120), .string (n.f1), .bool n.f2] 37 (0, 0))) := hk; have HB7 := Lib.hid (HB6.out.trans (hb wr.heap.size G5.out)); have d7_0 := (blk_cell K7.out 0).trans (rfl : _ = some (Value.string (n.f0.extract 0 120))); have d7_1 := (blk_cell K7.out 1).trans (rfl : _ = some (Value.string (n.f1))); have d7_2 := (blk_cell K7.out 2).trans (rfl : _ = some (Value.bool n.f2)); have z7_0 := blk_frozen K7.out 0; have z7_1 := blk_frozen K7.out 1; have z7_2 := blk_frozen K7.out 2; clear hk hb)) | ((with_reducible refine gate_ (.store 9 (.tmp 35) (.tmp 34)) rfl ?_); go_must (refine store9_37 rfl rfl (.tmp 35) (.tmp 34) rfl g5 1 _ (n.f1.extract 0 2100) rfl rfl K7.out (by show _ ≤ 3; decide) ?_; intro w8 hk hb; have K8 : Hid (w8.heap[g5]? = some (.cells #[.string (n.f0.extract 0 120), .string (n.f1.extract 0 2100), .bool n.f2] 37 (0, 0))) := hk; have HB8 := Lib.hid (HB7.out.trans (hb wr.heap.size G5.out)); have d8_0 := (blk_cell K8.out 0).trans (rfl : _ = some (Value.string (n.f0.extract 0 120))); have d8_1 := (blk_cell K8.out 1).trans (rfl : _ = some (Value.string (n.f1.extract 0 2100))); have d8_2 := (blk_cell K8.out 2).trans (rfl : _ = some (Value.bool n.f2)); have z8_0 := blk_frozen K8.out 0; have z8_1 := blk_frozen K8.out 1; have z8_2 := blk_frozen K8.out 2; clear hk hb)) | ((with_reducible refine gate_builtin (b := .append) (xs := #[.tmp 36, .tmp 38]) rfl ?_); at_builtin; go_must (refine Kd.R_append k37 (w0 := w) w.heap.size rfl (.tmp 36) (.tmp 38) 53 37 (.agg #[(.string ⟨#[]⟩), (.string ⟨#[]⟩), (.bool false)]) 40 rfl Try.underlying53 info37 rfl (by decide) (by omega) u3 ys (⟨n.f0.extract 0 120, n.f1.extract 0 2100, n.f2⟩ : S37) [.string (n.f0.extract 0 120), .string (n.f1.extract 0 2100), .bool n.f2] (fun _ => True) (fun _ => False) rfl (by first | (go_simp; done) | (go_simp; rfl)) (k37_mkM _ _ _ (⟨n.f0.extract 0 120, n.f1.extract 0 2100, n.f2⟩ : S37)) (fun _ hk => hk.elim) (fun _ _ => trivial) ?aO ?aB ?aS ?aL ?_; (case aB => exact (HB.out.trans (HB8.out.mono HB.out.size))); (case aO => exact Kd.R_below HN.out HB8.out); (case aS => exact (HB.out.trans (HB8.out.mono HB.out.size)).size); (case aL => have := HLEN.out; omega); intro v9 w9 ho hb hg hat; have HNZ := Lib.hid ho; have HBZ := Lib.hid hb; clear ho hb hg hat)))
            go_roundw
            case rel => exact ⟨k + 1, by go_num, hlt, by omega, by unfold Hid; rw [HT.out, HF.out]; exact HNZ.out, HBZ⟩
            case measure => simp [intOf]; omega

          · have HF : Hid (chgC n = ⟨n.f0.extract 0 120, n.f1, n.f2⟩) := by unfold Hid chgC; rw [if_pos h1, if_neg h2]
            have h3 : (120 : Int) < n.f0.size := by omega
            have h4 : ¬ ((2100 : Int) < n.f1.size) := by omega
            clear h1 h2
            go_wp2_with (first | ((with_reducible refine gate_dst (N := 5) rfl ?_); refine box_event ?hg (N := 5) ?hd (cs := #[.string (⟨#[]⟩ : ByteArray), .string (⟨#[]⟩ : ByteArray), .bool false]) (t := 37) ?hr ?_; (case hd => rfl); (case hg => rfl); (case hr => first | (go_simp; done) | (go_simp; rfl)); intro g5 hg5 w5 hb5 hbel5; have HB5 := Lib.hid hbel5; have G5 := Lib.hid (Nat.le_of_eq hg5.symm : wr.heap.size ≤ g5); have K5 := Lib.hid hb5; clear hg5 hb5 hbel5) | ((with_reducible refine gate_ (.store 37 (.tmp 5) (.tmp 19)) rfl ?_); go_must (refine store37_law rfl rfl (.tmp 5) (.tmp 19) rfl g5 _ _ _ n rfl rfl K5.out ?_; intro w6 hk6 hb6; have K6 := Lib.hid hk6; have HB6 := Lib.hid (HB5.out.trans (hb6 wr.heap.size G5.out)); have d0 := (blk_cell K6.out 0).trans (rfl : _ = some (Value.string (n.f0))); have d1 := (blk_cell K6.out 1).trans (rfl : _ = some (Value.string (n.f1))); have d2 := (blk_cell K6.out 2).trans (rfl : _ = some (Value.bool n.f2)); have z0 := blk_frozen K6.out 0; have z1 := blk_frozen K6.out 1; have z2 := blk_frozen K6.out 2; clear hk6 hb6)) | ((with_reducible refine gate_ (.store 9 (.tmp 27) (.tmp 26)) rfl ?_); go_must (refine store9_37 rfl rfl (.tmp 27) (.tmp 26) rfl g5 0 _ (n.f0.extract 0 120) rfl rfl K6.out (by show _ ≤ 3; decide) ?_; intro w7 hk hb; have K7 : Hid (w7.heap[g5]? = some (.cells #[.string (n.f0.extract 0 120), .string (n.f1), .bool n.f2] 37 (0, 0))) := hk; have HB7 := Lib.hid (HB6.out.trans (hb wr.heap.size G5.out)); have d7_0 := (blk_cell K7.out 0).trans (rfl : _ = some (Value.string (n.f0.extract 0 120))); have d7_1 := (blk_cell K7.out 1).trans (rfl : _ = some (Value.string (n.f1))); have d7_2 := (blk_cell K7.out 2).trans (rfl : _ = some (Value.bool n.f2)); have z7_0 := blk_frozen K7.out 0; have z7_1 := blk_frozen K7.out 1; have z7_2 := blk_frozen K7.out 2; clear hk hb)) | ((with_reducible refine gate_builtin (b := .append) (xs := #[.tmp 36, .tmp 38]) rfl ?_); at_builtin; go_must (refine Kd.R_append k37 (w0 := w) w.heap.size rfl (.tmp 36) (.tmp 38) 53 37 (.agg #[(.string ⟨#[]⟩), (.string ⟨#[]⟩), (.bool false)]) 40 rfl Try.underlying53 info37 rfl (by decide) (by omega) u3 ys (⟨n.f0.extract 0 120, n.f1, n.f2⟩ : S37) [.string (n.f0.extract 0 120), .string (n.f1), .bool n.f2] (fun _ => True) (fun _ => False) rfl (by first | (go_simp; done) | (go_simp; rfl)) (k37_mkM _ _ _ (⟨n.f0.extract 0 120, n.f1, n.f2⟩ : S37)) (fun _ hk => hk.elim) (fun _ _ => trivial) ?aO ?aB ?aS ?aL ?_; (case aB => exact (HB.out.trans (HB7.out.mono HB.out.size))); (case aO => exact Kd.R_below HN.out HB7.out); (case aS => exact (HB.out.trans (HB7.out.mono HB.out.size)).size); (case aL => have := HLEN.out; omega); intro v9 w9 ho hb hg hat; have HNZ := Lib.hid ho; have HBZ := Lib.hid hb; clear ho hb hg hat)))
            go_roundw
            case rel => exact ⟨k + 1, by go_num, hlt, by omega, by unfold Hid; rw [HT.out, HF.out]; exact HNZ.out, HBZ⟩
            case measure => simp [intOf]; omega

        · by_cases h2 : 2100 < n.f1.size
          · have HF : Hid (chgC n = ⟨n.f0, n.f1.extract 0 2100, n.f2⟩) := by unfold Hid chgC; rw [if_neg h1, if_pos h2]
            have h3 : ¬ ((120 : Int) < n.f0.size) := by omega
            have h4 : (2100 : Int) < n.f1.size := by omega
            clear h1 h2
            go_wp2_with (first | ((with_reducible refine gate_dst (N := 5) rfl ?_); refine box_event ?hg (N := 5) ?hd (cs := #[.string (⟨#[]⟩ : ByteArray), .string (⟨#[]⟩ : ByteArray), .bool false]) (t := 37) ?hr ?_; (case hd => rfl); (case hg => rfl); (case hr => first | (go_simp; done) | (go_simp; rfl)); intro g5 hg5 w5 hb5 hbel5; have HB5 := Lib.hid hbel5; have G5 := Lib.hid (Nat.le_of_eq hg5.symm : wr.heap.size ≤ g5); have K5 := Lib.hid hb5; clear hg5 hb5 hbel5) | ((with_reducible refine gate_ (.store 37 (.tmp 5) (.tmp 19)) rfl ?_); go_must (refine store37_law rfl rfl (.tmp 5) (.tmp 19) rfl g5 _ _ _ n rfl rfl K5.out ?_; intro w6 hk6 hb6; have K6 := Lib.hid hk6; have HB6 := Lib.hid (HB5.out.trans (hb6 wr.heap.size G5.out)); have d0 := (blk_cell K6.out 0).trans (rfl : _ = some (Value.string (n.f0))); have d1 := (blk_cell K6.out 1).trans (rfl : _ = some (Value.string (n.f1))); have d2 := (blk_cell K6.out 2).trans (rfl : _ = some (Value.bool n.f2)); have z0 := blk_frozen K6.out 0; have z1 := blk_frozen K6.out 1; have z2 := blk_frozen K6.out 2; clear hk6 hb6)) | ((with_reducible refine gate_ (.store 9 (.tmp 35) (.tmp 34)) rfl ?_); go_must (refine store9_37 rfl rfl (.tmp 35) (.tmp 34) rfl g5 1 _ (n.f1.extract 0 2100) rfl rfl K6.out (by show _ ≤ 3; decide) ?_; intro w8 hk hb; have K8 : Hid (w8.heap[g5]? = some (.cells #[.string (n.f0), .string (n.f1.extract 0 2100), .bool n.f2] 37 (0, 0))) := hk; have HB8 := Lib.hid (HB6.out.trans (hb wr.heap.size G5.out)); have d8_0 := (blk_cell K8.out 0).trans (rfl : _ = some (Value.string (n.f0))); have d8_1 := (blk_cell K8.out 1).trans (rfl : _ = some (Value.string (n.f1.extract 0 2100))); have d8_2 := (blk_cell K8.out 2).trans (rfl : _ = some (Value.bool n.f2)); have z8_0 := blk_frozen K8.out 0; have z8_1 := blk_frozen K8.out 1; have z8_2 := blk_frozen K8.out 2; clear hk hb)) | ((with_reducible refine gate_builtin (b := .append) (xs := #[.tmp 36, .tmp 38]) rfl ?_); at_builtin; go_must (refine Kd.R_append k37 (w0 := w) w.heap.size rfl (.tmp 36) (.tmp 38) 53 37 (.agg #[(.string ⟨#[]⟩), (.string ⟨#[]⟩), (.bool false)]) 40 rfl Try.underlying53 info37 rfl (by decide) (by omega) u3 ys (⟨n.f0, n.f1.extract 0 2100, n.f2⟩ : S37) [.string (n.f0), .string (n.f1.extract 0 2100), .bool n.f2] (fun _ => True) (fun _ => False) rfl (by first | (go_simp; done) | (go_simp; rfl)) (k37_mkM _ _ _ (⟨n.f0, n.f1.extract 0 2100, n.f2⟩ : S37)) (fun _ hk => hk.elim) (fun _ _ => trivial) ?aO ?aB ?aS ?aL ?_; (case aB => exact (HB.out.trans (HB8.out.mono HB.out.size))); (case aO => exact Kd.R_below HN.out HB8.out); (case aS => exact (HB.out.trans (HB8.out.mono HB.out.size)).size); (case aL => have := HLEN.out; omega); intro v9 w9 ho hb hg hat; have HNZ := Lib.hid ho; have HBZ := Lib.hid hb; clear ho hb hg hat)))
            go_roundw
            case rel => exact ⟨k + 1, by go_num, hlt, by omega, by unfold Hid; rw [HT.out, HF.out]; exact HNZ.out, HBZ⟩
            case measure => simp [intOf]; omega

          · have HF : Hid (chgC n = ⟨n.f0, n.f1, n.f2⟩) := by unfold Hid chgC; rw [if_neg h1, if_neg h2]
            have h3 : ¬ ((120 : Int) < n.f0.size) := by omega
            have h4 : ¬ ((2100 : Int) < n.f1.size) := by omega
            clear h1 h2
            go_wp2_with (first | ((with_reducible refine gate_dst (N := 5) rfl ?_); refine box_event ?hg (N := 5) ?hd (cs := #[.string (⟨#[]⟩ : ByteArray), .string (⟨#[]⟩ : ByteArray), .bool false]) (t := 37) ?hr ?_; (case hd => rfl); (case hg => rfl); (case hr => first | (go_simp; done) | (go_simp; rfl)); intro g5 hg5 w5 hb5 hbel5; have HB5 := Lib.hid hbel5; have G5 := Lib.hid (Nat.le_of_eq hg5.symm : wr.heap.size ≤ g5); have K5 := Lib.hid hb5; clear hg5 hb5 hbel5) | ((with_reducible refine gate_ (.store 37 (.tmp 5) (.tmp 19)) rfl ?_); go_must (refine store37_law rfl rfl (.tmp 5) (.tmp 19) rfl g5 _ _ _ n rfl rfl K5.out ?_; intro w6 hk6 hb6; have K6 := Lib.hid hk6; have HB6 := Lib.hid (HB5.out.trans (hb6 wr.heap.size G5.out)); have d0 := (blk_cell K6.out 0).trans (rfl : _ = some (Value.string (n.f0))); have d1 := (blk_cell K6.out 1).trans (rfl : _ = some (Value.string (n.f1))); have d2 := (blk_cell K6.out 2).trans (rfl : _ = some (Value.bool n.f2)); have z0 := blk_frozen K6.out 0; have z1 := blk_frozen K6.out 1; have z2 := blk_frozen K6.out 2; clear hk6 hb6)) | ((with_reducible refine gate_builtin (b := .append) (xs := #[.tmp 36, .tmp 38]) rfl ?_); at_builtin; go_must (refine Kd.R_append k37 (w0 := w) w.heap.size rfl (.tmp 36) (.tmp 38) 53 37 (.agg #[(.string ⟨#[]⟩), (.string ⟨#[]⟩), (.bool false)]) 40 rfl Try.underlying53 info37 rfl (by decide) (by omega) u3 ys (⟨n.f0, n.f1, n.f2⟩ : S37) [.string (n.f0), .string (n.f1), .bool n.f2] (fun _ => True) (fun _ => False) rfl (by first | (go_simp; done) | (go_simp; rfl)) (k37_mkM _ _ _ (⟨n.f0, n.f1, n.f2⟩ : S37)) (fun _ hk => hk.elim) (fun _ _ => trivial) ?aO ?aB ?aS ?aL ?_; (case aB => exact (HB.out.trans (HB6.out.mono HB.out.size))); (case aO => exact Kd.R_below HN.out HB6.out); (case aS => exact (HB.out.trans (HB6.out.mono HB.out.size)).size); (case aL => have := HLEN.out; omega); intro v9 w9 ho hb hg hat; have HNZ := Lib.hid ho; have HBZ := Lib.hid hb; clear ho hb hg hat)))
            go_roundw
            case rel => exact ⟨k + 1, by go_num, hlt, by omega, by unfold Hid; rw [HT.out, HF.out]; exact HNZ.out, HBZ⟩
            case measure => simp [intOf]; omega

      · obtain rfl : k = 60 := by omega
        have p1 : (60 : Int) < (l.length : Int) := by omega
        go_wp2
        go_ret
        exact ⟨_, rfl, HN.out, HB.out⟩
    · obtain rfl : k = l.length := by omega
      have hE : Hid (chgN l = (l.take l.length).map chgC) := by unfold Hid chgN; rw [List.take_length, List.take_of_length_le (by omega)]
      go_wp2
      go_ret
      exact ⟨_, rfl, by rw [hE.out]; exact HN.out, HB.out⟩
def cellarerlaw11_Changes.f (l0 : List S37) : Option (List S37) := some (chgN l0)
theorem cellarerlaw11_Changes.calls (A0 : Option Addr) (c0 : Nat) (l0 : List S37) (r : List S37) (w : World) (hr0 : Kd.C k37 w A0 l0.length l0) (hc0 : l0.length ≤ c0) (h : cellarerlaw11_Changes.f l0 = some r) :
    Calls Try.prog 24 #[.slice A0 l0.length c0] w fun e w' => ∃ v0_ : Value, e = .returned (v0_) ∧ Kd.R k37 37 w' w.heap.size (fun _ => True) v0_ r ∧ Below w.heap.size w w' := by
  injection h with h
  subst h
  exact changes.walk A0 c0 l0 w hr0 hc0
end Go.Proofs.Ytipahpkdddijmaa.Q

-- L5
namespace Go.Proofs.Ytipahpkdddijmaa.Q
open Go.RowKit Go.Proofs.YtipahpkdddijmaaW.PrintWords Go.Proofs.YtipahpkdddijmaaW.PrintLast Go.Proofs.YtipahpkdddijmaaW.PrintMore
attribute [local go_sem] max2_int min2_int max_two min_two max_three min_three max_four min_four   -- for this text's walks alone
set_option linter.unusedVariables false
set_option linter.unusedSimpArgs false

/-! ### the order of strings, turned -/
theorem bl_flip : ∀ x y : List UInt8, (!(Op.bytesLess x y || x == y)) = Op.bytesLess y x
  | [], [] => rfl
  | [], b :: y => rfl
  | a :: x, [] => rfl
  | a :: x, b :: y => by
    have ih := bl_flip x y
    unfold Op.bytesLess
    rcases Nat.lt_trichotomy a.toNat b.toNat with h | h | h
    · have h1 : a < b := h
      have h2 : ¬ b < a := fun h' => Nat.lt_asymm h h'
      have h3 : b ≠ a := fun e => by subst e; exact Nat.lt_irrefl _ h
      simp [h1, h2, h3]
    · obtain rfl : a = b := UInt8.toNat_inj.1 h
      have h2 : ¬ a < a := Nat.lt_irrefl _
      simp only [h2, decide_false, Bool.false_or, beq_self_eq_true, Bool.true_and, List.cons_beq_cons]
      exact ih
    · have h1 : b < a := h
      have h2 : ¬ a < b := fun h' => Nat.lt_asymm h h'
      have h3 : a ≠ b := fun e => by subst e; exact Nat.lt_irrefl _ h
      simp [h1, h2, h3]
theorem binOp_string_gtr2 (t : TypeId) (a b : ByteArray) : binOp .gtr t (.string a) (.string b) = pure (.bool (Op.bytesLess b.toList a.toList)) := by
  rw [← bl_flip]
  simp [binOp, Op.stringOp]
attribute [local go_sem] binOp_string_gtr2
/-! ### cellarerref11_in: function 49 -/
mutual
def cellarerref11_in.l0 : Nat → List (S52) → List (S52) → Int → ByteArray → ByteArray → Option ((List (S52)))
  | 0, _, _, _, _, _ => none
  | k + 1, x0, x5, x6, x295000, x295001 => if x6 < (x0.length : Int) then (if 0 ≤ x6 then (if (Op.bytesLess (((rd_T52 x0 x6).f0).toList) x295000.toList) = true then (if x5.length < 4398046511104 then (cellarerref11_in.l0 k x0 (x5 ++ [(⟨(rd_T52 x0 x6).f0, (rd_T52 x0 x6).f1⟩ : S52)]) (wrap64 (x6 + 1)) x295000 x295001) else (none)) else (cellarerref11_in.l0 k x0 x5 (wrap64 (x6 + 1)) x295000 x295001)) else (none)) else (if x5.length < 4398046511104 then (cellarerref11_in.l1 k x0 (x5 ++ [(⟨x295000, x295001⟩ : S52)]) 0 x295000 x295001) else (none))
def cellarerref11_in.l1 : Nat → List (S52) → List (S52) → Int → ByteArray → ByteArray → Option ((List (S52)))
  | 0, _, _, _, _, _ => none
  | k + 1, x0, x5, x7, x295000, x295001 => if x7 < (x0.length : Int) then (if 0 ≤ x7 then (if (Op.bytesLess x295000.toList (((rd_T52 x0 x7).f0).toList)) = true then (if x5.length < 4398046511104 then (cellarerref11_in.l1 k x0 (x5 ++ [(⟨(rd_T52 x0 x7).f0, (rd_T52 x0 x7).f1⟩ : S52)]) (wrap64 (x7 + 1)) x295000 x295001) else (none)) else (cellarerref11_in.l1 k x0 x5 (wrap64 (x7 + 1)) x295000 x295001)) else (none)) else (some x5)
end
def cellarerref11_in.f (k : Nat) (l0 : List (S52)) (a1_0 : ByteArray) (a1_1 : ByteArray) : Option ((List (S52))) := cellarerref11_in.l0 k l0 ([] : List (S52)) 0 a1_0 a1_1
theorem cellarerref11_in.mono_l : ∀ k, (∀ y0 y1 y2 y3 y4, LeO (cellarerref11_in.l0 k y0 y1 y2 y3 y4) (cellarerref11_in.l0 (k + 1) y0 y1 y2 y3 y4)) ∧ (∀ y0 y1 y2 y3 y4, LeO (cellarerref11_in.l1 k y0 y1 y2 y3 y4) (cellarerref11_in.l1 (k + 1) y0 y1 y2 y3 y4))
  | 0 => ⟨fun _ _ _ _ _ r h => by simp [cellarerref11_in.l0] at h, fun _ _ _ _ _ r h => by simp [cellarerref11_in.l1] at h⟩
  | k + 1 => by
    obtain ⟨ih0, ih1⟩ := cellarerref11_in.mono_l k
    refine ⟨?_, ?_⟩
    · intro y0 y1 y2 y3 y4
      unfold cellarerref11_in.l0
      repeat' first
      | (with_reducible exact ih0 _ _ _ _ _)
      | (with_reducible exact ih1 _ _ _ _ _)
      | (with_reducible exact LeO.refl _)
      | (with_reducible exact LeO.none _)
      | (with_reducible refine LeO.ite ?_ ?_)
      | (with_reducible refine LeO.bind ?_ (fun _ => ?_))
      | exact ih0 _ _ _ _ _
      | exact ih1 _ _ _ _ _
      | exact LeO.none _
      | refine LeO.ite ?_ ?_
      | refine LeO.bind ?_ (fun _ => ?_)
    · intro y0 y1 y2 y3 y4
      unfold cellarerref11_in.l1
      repeat' first
      | (with_reducible exact ih0 _ _ _ _ _)
      | (with_reducible exact ih1 _ _ _ _ _)
      | (with_reducible exact LeO.refl _)
      | (with_reducible exact LeO.none _)
      | (with_reducible refine LeO.ite ?_ ?_)
      | (with_reducible refine LeO.bind ?_ (fun _ => ?_))
      | exact ih0 _ _ _ _ _
      | exact ih1 _ _ _ _ _
      | exact LeO.none _
      | refine LeO.ite ?_ ?_
      | refine LeO.bind ?_ (fun _ => ?_)
theorem cellarerref11_in.mono : ∀ a0 a1 a2 k, LeO (cellarerref11_in.f k a0 a1 a2) (cellarerref11_in.f (k + 1) a0 a1 a2) := by
  intro a0 a1 a2 k
  obtain ⟨ih0, ih1⟩ := cellarerref11_in.mono_l k
  unfold cellarerref11_in.f
  repeat' first
      | (with_reducible exact ih0 _ _ _ _ _)
      | (with_reducible exact ih1 _ _ _ _ _)
      | (with_reducible exact LeO.refl _)
      | (with_reducible exact LeO.none _)
      | (with_reducible refine LeO.ite ?_ ?_)
      | (with_reducible refine LeO.bind ?_ (fun _ => ?_))
      | exact ih0 _ _ _ _ _
      | exact ih1 _ _ _ _ _
      | exact LeO.none _
      | refine LeO.ite ?_ ?_
      | refine LeO.bind ?_ (fun _ => ?_)
set_option maxHeartbeats 8000000 in
set_option maxRecDepth 100000 in
theorem cellarerref11_in.calls (k : Nat) (A0 : Option Addr) (c0 : Nat) (l0 : List (S52)) (a1_0 : ByteArray) (a1_1 : ByteArray) (r : List (S52)) (w : World) (hr0 : Kd.C k52 w A0 l0.length l0) (hc0 : l0.length ≤ c0) (h : cellarerref11_in.f k l0 a1_0 a1_1 = some r) :
    Calls Try.prog 49 #[.slice A0 l0.length c0, .agg #[.string a1_0, .string a1_1]] w fun e w' => ∃ v0_ : Value, e = .returned (v0_) ∧ Kd.R k52 52 w' w.heap.size (fun _ => True) v0_ r ∧ Below w.heap.size w w' := by
  have hu52 := Try.underlying52
  have HR0 := Aside0.mk hr0
  have HC0 := Aside0.mk hc0
  clear hr0 hc0
  have HB := Aside0.mk (Below.refl w.heap.size w)
  have H : (cellarerref11_in.l0 k l0 ([] : List (S52)) 0 a1_0 a1_1) = some r := h
  clear h
  have H' := Aside0.mk H
  clear H
  go_enter Try.func49, Try.ntmps49
  go_wp2_with (first | ((with_reducible refine gate_dst (N := 3) rfl ?_); refine box_event ?hg (N := 3) ?hd (cs := #[.string a1_0, .string a1_1]) (t := 52) ?hr ?_; (case hd => rfl); (case hg => rfl); (case hr => first | (go_simp; done) | (go_simp; rfl)); intro gb294 hg w3 hbox hb; have n0_ := Aside0.mk (below_step (by repeat (first | (with_reducible first | exact HB.out | apply below_alloc | apply pw_below_drewN | apply below_drew1) | exact HB.out)) hb); have n1_ := Aside0.mk (hbox); have n2_ := Aside0.mk ((by rw [hg]; exact (below_size (by repeat (first | (with_reducible first | exact HB.out | apply below_alloc | apply pw_below_drewN | apply below_drew1) | exact HB.out))) : w.heap.size ≤ gb294)); have n3_ := Aside0.mk ((by rw [hg]; exact (below_size (by repeat (first | (with_reducible first | exact HB.out | apply below_alloc | apply pw_below_drewN | apply below_drew1) | exact HB.out))) : w.heap.size ≤ gb294)); clear HB; have HB := n0_; have BK294 := n1_; have GW294 := n2_; have GE294 := n3_; clear n0_ n1_ n2_ n3_; clear hb hbox hg))
  repeat (go_quiet (first | ((with_reducible refine gate_dst (N := 3) rfl ?_); refine box_event ?hg (N := 3) ?hd (cs := #[.string a1_0, .string a1_1]) (t := 52) ?hr ?_; (case hd => rfl); (case hg => rfl); (case hr => first | (go_simp; done) | (go_simp; rfl)); intro gb294 hg w3 hbox hb; have n0_ := Aside0.mk (below_step (by repeat (first | (with_reducible first | exact HB.out | apply below_alloc | apply pw_below_drewN | apply below_drew1) | exact HB.out)) hb); have n1_ := Aside0.mk (hbox); have n2_ := Aside0.mk ((by rw [hg]; exact (below_size (by repeat (first | (with_reducible first | exact HB.out | apply below_alloc | apply pw_below_drewN | apply below_drew1) | exact HB.out))) : w.heap.size ≤ gb294)); have n3_ := Aside0.mk ((by rw [hg]; exact (below_size (by repeat (first | (with_reducible first | exact HB.out | apply below_alloc | apply pw_below_drewN | apply below_drew1) | exact HB.out))) : w.heap.size ≤ gb294)); clear HB; have HB := n0_; have BK294 := n1_; have GW294 := n2_; have GE294 := n3_; clear n0_ n1_ n2_ n3_; clear hb hbox hg)); try go_wp2_with (first | ((with_reducible refine gate_dst (N := 3) rfl ?_); refine box_event ?hg (N := 3) ?hd (cs := #[.string a1_0, .string a1_1]) (t := 52) ?hr ?_; (case hd => rfl); (case hg => rfl); (case hr => first | (go_simp; done) | (go_simp; rfl)); intro gb294 hg w3 hbox hb; have n0_ := Aside0.mk (below_step (by repeat (first | (with_reducible first | exact HB.out | apply below_alloc | apply pw_below_drewN | apply below_drew1) | exact HB.out)) hb); have n1_ := Aside0.mk (hbox); have n2_ := Aside0.mk ((by rw [hg]; exact (below_size (by repeat (first | (with_reducible first | exact HB.out | apply below_alloc | apply pw_below_drewN | apply below_drew1) | exact HB.out))) : w.heap.size ≤ gb294)); have n3_ := Aside0.mk ((by rw [hg]; exact (below_size (by repeat (first | (with_reducible first | exact HB.out | apply below_alloc | apply pw_below_drewN | apply below_drew1) | exact HB.out))) : w.heap.size ≤ gb294)); clear HB; have HB := n0_; have BK294 := n1_; have GW294 := n2_; have GE294 := n3_; clear n0_ n1_ n2_ n3_; clear hb hbox hg)))
  go_loopg [5, 6] k (fun kq v5 v6 w' => ∃ (x5_1 : List (S52)) (x6_1 : Int), v6 = .int .i64 x6_1 ∧ Aside0 (cellarerref11_in.l0 kq l0 x5_1 x6_1 a1_0 a1_1 = some r) ∧ Aside0 (kq ≤ k) ∧ Aside0 (Kd.R k52 52 w' w.heap.size (fun k_ => k_ ≠ gb294) v5 x5_1) ∧ Aside0 (w'.heap[gb294]? = some (.cells #[.string a1_0, .string a1_1] 52 (0, 0))) ∧ Aside0 (Below w.heap.size w w'))
  case atStart => exact ⟨(([] : List (S52))), (0), (by first | rfl | (simp; done) | (simp [*]; done)), H', ⟨Nat.le_refl _⟩, ⟨by first | exact Kd.R_nil _ _ _ _ _ | exact Kd.N_nil _ _ _ _ _ | exact Kd.V_nil _ _ _ _ _ | exact Kd.Q_nil _ _ _ _ _ | exact Kd.S_nil _ _ _ _ _⟩, ⟨by (with_reducible repeat (first | refine blk_drewN ?_ _ | refine blk_drew ?_ | refine blk_alloc ?_ _)); exact BK294.out⟩, ⟨by repeat (first | (with_reducible first | exact HB.out | apply below_alloc | apply pw_below_drewN | apply below_drew1 | refine below_set ?_ GE294.out) | exact HB.out)⟩⟩
  case round =>
    clear H'
    try clear p2
    obtain ⟨x5_1, x6_1, rfl, HA, HK1, HO_5, BK294, HB⟩ := hrel
    cases gk with
    | zero => exact absurd HA.out (by simp [cellarerref11_in.l0])
    | succ k1 =>
      have H := HA.out
      clear HA
      simp only [cellarerref11_in.l0] at H
      by_cases c4 : x6_1 < (l0.length : Int)
      · rw [if_pos c4] at H
        have c4b0 : decide (x6_1 < (l0.length : Int)) = true := decide_eq_true c4
        clear c4
        by_cases c5 : 0 ≤ x6_1
        · rw [if_pos c5] at H
          have c5b0 : decide (0 ≤ x6_1) = true := decide_eq_true c5
          clear c5
          by_cases c6 : (Op.bytesLess (((rd_T52 l0 x6_1).f0).toList) a1_0.toList) = true
          · rw [if_pos c6] at H
            have c6b0 : (Op.bytesLess (((rd_T52 l0 x6_1).f0).toList) a1_0.toList) = true := c6
            clear c6
            by_cases c7 : x5_1.length < 4398046511104
            · rw [if_pos c7] at H
              have LMc7 := Aside0.mk c7
              clear c7
              obtain ⟨y297, hy297⟩ : ∃ y_ : List (S52), y_ = (x5_1 ++ [(⟨(rd_T52 l0 x6_1).f0, (rd_T52 l0 x6_1).f1⟩ : S52)]) := ⟨_, rfl⟩
              replace H : (cellarerref11_in.l0 k1 l0 y297 (wrap64 (x6_1 + 1)) a1_0 a1_1) = some r := by first | (rw [hy297]; with_reducible exact H) | (have H2_ := (Option.bind_some _ _).symm.trans H; rw [hy297]; with_reducible exact H2_) | (have H2_ := (Option.bind_some _ _).symm.trans H; with_reducible exact H2_) | with_reducible exact H | (rw [hy297]; exact H) | exact H
              have Ny297 := Aside0.mk hy297
              clear hy297
              have H' := Aside0.mk H
              clear H
              have p295 : 0 ≤ (x6_1 : Int) := of_decide_eq_true (by first | (with_reducible assumption) | assumption)
              have q295 : x6_1 < (l0.length : Int) := of_decide_eq_true (by first | (with_reducible assumption) | assumption)
              obtain ⟨ad295, e295, hx295_0, hx295_1⟩ := at_T52 HR0.out x6_1 p295 q295
              cases e295
              replace hx295_0 := (HB.out.cell (World.block_lt_of_cell? w _ hx295_0)).trans hx295_0
              replace hx295_1 := (HB.out.cell (World.block_lt_of_cell? w _ hx295_1)).trans hx295_1
              replace p295 := eq_true p295
              replace q295 := eq_true q295
              have hcz8_0 : wr.cell? ⟨gb294, 0, none⟩ = some (.string a1_0) := (blk_cell BK294.out 0).trans rfl
              have hcz8_1 : wr.cell? ⟨gb294, 1, none⟩ = some (.string a1_1) := (blk_cell BK294.out 1).trans rfl
              have hfz8_0 := blk_frozen BK294.out 0
              have hfz8_1 := blk_frozen BK294.out 1
              have p296 : 0 ≤ (x6_1 : Int) := of_decide_eq_true (by first | (with_reducible assumption) | assumption)
              have q296 : x6_1 < (l0.length : Int) := of_decide_eq_true (by first | (with_reducible assumption) | assumption)
              obtain ⟨ad296, e296, hx296_0, hx296_1⟩ := at_T52 HR0.out x6_1 p296 q296
              obtain rfl : ad295 = ad296 := (by injection e296)
              replace hx296_0 := (HB.out.cell (World.block_lt_of_cell? w _ hx296_0)).trans hx296_0
              replace hx296_1 := (HB.out.cell (World.block_lt_of_cell? w _ hx296_1)).trans hx296_1
              replace p296 := eq_true p296
              replace q296 := eq_true q296
              go_wp2_with (first | ((with_reducible refine gate_builtin (b := .append) (xs := #[.tmp 22, .tmp 27]) rfl ?_); at_builtin; refine Kd.R_append k52 (w0 := w) w.heap.size rfl (.tmp 22) (.tmp 27) 45 52 (.agg #[(.string ⟨#[]⟩), (.string ⟨#[]⟩)]) 32 rfl Try.underlying45 info52 rfl (by decide) (by omega) u5 x5_1 (⟨(rd_T52 l0 x6_1).f0, (rd_T52 l0 x6_1).f1⟩ : S52) [.string ((rd_T52 l0 x6_1).f0), .string ((rd_T52 l0 x6_1).f1)] (fun k_ => k_ ≠ gb294) (fun _ => False) rfl rfl ?aP (fun _ hk => hk.elim) ?aF ?aO ?aB ?aS ?aL ?_; (case aP => exact k52_mkM _ _ _ (⟨(rd_T52 l0 x6_1).f0, (rd_T52 l0 x6_1).f1⟩ : S52)); (case aB => exact (by repeat (first | (with_reducible first | exact HB.out | apply below_alloc | apply pw_below_drewN | apply below_drew1 | refine below_set ?_ GE294.out) | exact HB.out))); (case aF => exact (fun k_ hk => Kd.freshB (g := gb294) (o := .cells #[.string a1_0, .string a1_1] 52 (0, 0)) (by (with_reducible repeat (first | refine blk_drewN ?_ _ | refine blk_drew ?_ | refine blk_alloc ?_ _)); exact BK294.out) k_ hk)); (case aO => exact (by (with_reducible repeat (first | apply Kd.R_alloc | apply Kd.R_drewN | apply Kd.R_drew)); exact HO_5.out)); (case aS => exact (below_size (by repeat (first | (with_reducible first | exact HB.out | apply below_alloc | apply pw_below_drewN | apply below_drew1 | refine below_set ?_ GE294.out) | exact HB.out)))); (case aL => have := LMc7.out; omega); intro v298 w9 ho hb hg hat; rw [← Ny297.out] at ho; have n0_ := Aside0.mk (blk_grown (g := gb294) (o := .cells #[.string a1_0, .string a1_1] 52 (0, 0)) (by (with_reducible repeat (first | refine blk_drewN ?_ _ | refine blk_drew ?_ | refine blk_alloc ?_ _)); exact BK294.out) hg (Kd.R_away HO_5.out (fun _ hk => hk))); have n1_ := Aside0.mk (hb); have n2_ := Aside0.mk (ho); clear BK294; clear HB; clear HO_5; have BK294 := n0_; have HB := n1_; have HO299 := n2_; clear n0_ n1_ n2_; clear ho hb hg hat))
              repeat (go_quiet (first | ((with_reducible refine gate_builtin (b := .append) (xs := #[.tmp 22, .tmp 27]) rfl ?_); at_builtin; refine Kd.R_append k52 (w0 := w) w.heap.size rfl (.tmp 22) (.tmp 27) 45 52 (.agg #[(.string ⟨#[]⟩), (.string ⟨#[]⟩)]) 32 rfl Try.underlying45 info52 rfl (by decide) (by omega) u5 x5_1 (⟨(rd_T52 l0 x6_1).f0, (rd_T52 l0 x6_1).f1⟩ : S52) [.string ((rd_T52 l0 x6_1).f0), .string ((rd_T52 l0 x6_1).f1)] (fun k_ => k_ ≠ gb294) (fun _ => False) rfl rfl ?aP (fun _ hk => hk.elim) ?aF ?aO ?aB ?aS ?aL ?_; (case aP => exact k52_mkM _ _ _ (⟨(rd_T52 l0 x6_1).f0, (rd_T52 l0 x6_1).f1⟩ : S52)); (case aB => exact (by repeat (first | (with_reducible first | exact HB.out | apply below_alloc | apply pw_below_drewN | apply below_drew1 | refine below_set ?_ GE294.out) | exact HB.out))); (case aF => exact (fun k_ hk => Kd.freshB (g := gb294) (o := .cells #[.string a1_0, .string a1_1] 52 (0, 0)) (by (with_reducible repeat (first | refine blk_drewN ?_ _ | refine blk_drew ?_ | refine blk_alloc ?_ _)); exact BK294.out) k_ hk)); (case aO => exact (by (with_reducible repeat (first | apply Kd.R_alloc | apply Kd.R_drewN | apply Kd.R_drew)); exact HO_5.out)); (case aS => exact (below_size (by repeat (first | (with_reducible first | exact HB.out | apply below_alloc | apply pw_below_drewN | apply below_drew1 | refine below_set ?_ GE294.out) | exact HB.out)))); (case aL => have := LMc7.out; omega); intro v298 w9 ho hb hg hat; rw [← Ny297.out] at ho; have n0_ := Aside0.mk (blk_grown (g := gb294) (o := .cells #[.string a1_0, .string a1_1] 52 (0, 0)) (by (with_reducible repeat (first | refine blk_drewN ?_ _ | refine blk_drew ?_ | refine blk_alloc ?_ _)); exact BK294.out) hg (Kd.R_away HO_5.out (fun _ hk => hk))); have n1_ := Aside0.mk (hb); have n2_ := Aside0.mk (ho); clear BK294; clear HB; clear HO_5; have BK294 := n0_; have HB := n1_; have HO299 := n2_; clear n0_ n1_ n2_; clear ho hb hg hat)); try go_wp2_with (first | ((with_reducible refine gate_builtin (b := .append) (xs := #[.tmp 22, .tmp 27]) rfl ?_); at_builtin; refine Kd.R_append k52 (w0 := w) w.heap.size rfl (.tmp 22) (.tmp 27) 45 52 (.agg #[(.string ⟨#[]⟩), (.string ⟨#[]⟩)]) 32 rfl Try.underlying45 info52 rfl (by decide) (by omega) u5 x5_1 (⟨(rd_T52 l0 x6_1).f0, (rd_T52 l0 x6_1).f1⟩ : S52) [.string ((rd_T52 l0 x6_1).f0), .string ((rd_T52 l0 x6_1).f1)] (fun k_ => k_ ≠ gb294) (fun _ => False) rfl rfl ?aP (fun _ hk => hk.elim) ?aF ?aO ?aB ?aS ?aL ?_; (case aP => exact k52_mkM _ _ _ (⟨(rd_T52 l0 x6_1).f0, (rd_T52 l0 x6_1).f1⟩ : S52)); (case aB => exact (by repeat (first | (with_reducible first | exact HB.out | apply below_alloc | apply pw_below_drewN | apply below_drew1 | refine below_set ?_ GE294.out) | exact HB.out))); (case aF => exact (fun k_ hk => Kd.freshB (g := gb294) (o := .cells #[.string a1_0, .string a1_1] 52 (0, 0)) (by (with_reducible repeat (first | refine blk_drewN ?_ _ | refine blk_drew ?_ | refine blk_alloc ?_ _)); exact BK294.out) k_ hk)); (case aO => exact (by (with_reducible repeat (first | apply Kd.R_alloc | apply Kd.R_drewN | apply Kd.R_drew)); exact HO_5.out)); (case aS => exact (below_size (by repeat (first | (with_reducible first | exact HB.out | apply below_alloc | apply pw_below_drewN | apply below_drew1 | refine below_set ?_ GE294.out) | exact HB.out)))); (case aL => have := LMc7.out; omega); intro v298 w9 ho hb hg hat; rw [← Ny297.out] at ho; have n0_ := Aside0.mk (blk_grown (g := gb294) (o := .cells #[.string a1_0, .string a1_1] 52 (0, 0)) (by (with_reducible repeat (first | refine blk_drewN ?_ _ | refine blk_drew ?_ | refine blk_alloc ?_ _)); exact BK294.out) hg (Kd.R_away HO_5.out (fun _ hk => hk))); have n1_ := Aside0.mk (hb); have n2_ := Aside0.mk (ho); clear BK294; clear HB; clear HO_5; have BK294 := n0_; have HB := n1_; have HO299 := n2_; clear n0_ n1_ n2_; clear ho hb hg hat)))
              go_roundg k1
              case measure => have := HK1.out; omega
              case rel => exact ⟨(y297), (wrap64 (x6_1 + 1)), (by first | rfl | (simp; done) | (simp [*]; done)), H', ⟨by have := HK1.out; omega⟩, ⟨by (with_reducible repeat (first | apply Kd.R_alloc | apply Kd.R_drewN | apply Kd.R_drew)); exact HO299.out⟩, ⟨by (with_reducible repeat (first | refine blk_drewN ?_ _ | refine blk_drew ?_ | refine blk_alloc ?_ _)); exact BK294.out⟩, ⟨by repeat (first | (with_reducible first | exact HB.out | apply below_alloc | apply pw_below_drewN | apply below_drew1 | refine below_set ?_ GE294.out) | exact HB.out)⟩⟩
            · rw [if_neg c7] at H
              exact absurd H (by simp)
          · rw [if_neg c6] at H
            have c6b0 : (Op.bytesLess (((rd_T52 l0 x6_1).f0).toList) a1_0.toList) = false := by simpa using c6
            clear c6
            have H' := Aside0.mk H
            clear H
            have p295 : 0 ≤ (x6_1 : Int) := of_decide_eq_true (by first | (with_reducible assumption) | assumption)
            have q295 : x6_1 < (l0.length : Int) := of_decide_eq_true (by first | (with_reducible assumption) | assumption)
            obtain ⟨ad295, e295, hx295_0, hx295_1⟩ := at_T52 HR0.out x6_1 p295 q295
            cases e295
            replace hx295_0 := (HB.out.cell (World.block_lt_of_cell? w _ hx295_0)).trans hx295_0
            replace hx295_1 := (HB.out.cell (World.block_lt_of_cell? w _ hx295_1)).trans hx295_1
            replace p295 := eq_true p295
            replace q295 := eq_true q295
            have hcz10_0 : wr.cell? ⟨gb294, 0, none⟩ = some (.string a1_0) := (blk_cell BK294.out 0).trans rfl
            have hcz10_1 : wr.cell? ⟨gb294, 1, none⟩ = some (.string a1_1) := (blk_cell BK294.out 1).trans rfl
            have hfz10_0 := blk_frozen BK294.out 0
            have hfz10_1 := blk_frozen BK294.out 1
            go_wp2
            repeat (go_quiet (fail); try go_wp2)
            go_roundg k1
            case measure => have := HK1.out; omega
            case rel => exact ⟨(x5_1), (wrap64 (x6_1 + 1)), (by first | rfl | (simp; done) | (simp [*]; done)), H', ⟨by have := HK1.out; omega⟩, ⟨by (with_reducible repeat (first | apply Kd.R_alloc | apply Kd.R_drewN | apply Kd.R_drew)); exact HO_5.out⟩, ⟨by (with_reducible repeat (first | refine blk_drewN ?_ _ | refine blk_drew ?_ | refine blk_alloc ?_ _)); exact BK294.out⟩, ⟨by repeat (first | (with_reducible first | exact HB.out | apply below_alloc | apply pw_below_drewN | apply below_drew1 | refine below_set ?_ GE294.out) | exact HB.out)⟩⟩
        · rw [if_neg c5] at H
          exact absurd H (by simp)
      · rw [if_neg c4] at H
        have c4b0 : decide (x6_1 < (l0.length : Int)) = false := decide_eq_false c4
        clear c4
        by_cases c11 : x5_1.length < 4398046511104
        · rw [if_pos c11] at H
          have LMc11 := Aside0.mk c11
          clear c11
          obtain ⟨y300, hy300⟩ : ∃ y_ : List (S52), y_ = (x5_1 ++ [(⟨a1_0, a1_1⟩ : S52)]) := ⟨_, rfl⟩
          replace H : (cellarerref11_in.l1 k1 l0 y300 0 a1_0 a1_1) = some r := by first | (rw [hy300]; with_reducible exact H) | (have H2_ := (Option.bind_some _ _).symm.trans H; rw [hy300]; with_reducible exact H2_) | (have H2_ := (Option.bind_some _ _).symm.trans H; with_reducible exact H2_) | with_reducible exact H | (rw [hy300]; exact H) | exact H
          have Ny300 := Aside0.mk hy300
          clear hy300
          have H' := Aside0.mk H
          clear H
          have hcz12_0 : wr.cell? ⟨gb294, 0, none⟩ = some (.string a1_0) := (blk_cell BK294.out 0).trans rfl
          have hcz12_1 : wr.cell? ⟨gb294, 1, none⟩ = some (.string a1_1) := (blk_cell BK294.out 1).trans rfl
          have hfz12_0 := blk_frozen BK294.out 0
          have hfz12_1 := blk_frozen BK294.out 1
          go_wp2_with (first | ((with_reducible refine gate_builtin (b := .append) (xs := #[.tmp 29, .tmp 31]) rfl ?_); at_builtin; refine Kd.R_append k52 (w0 := w) w.heap.size rfl (.tmp 29) (.tmp 31) 45 52 (.agg #[(.string ⟨#[]⟩), (.string ⟨#[]⟩)]) 32 rfl Try.underlying45 info52 rfl (by decide) (by omega) u5 x5_1 (⟨a1_0, a1_1⟩ : S52) [.string a1_0, .string a1_1] (fun k_ => k_ ≠ gb294) (fun _ => False) rfl rfl ?aP (fun _ hk => hk.elim) ?aF ?aO ?aB ?aS ?aL ?_; (case aP => exact k52_mkM _ _ _ (⟨a1_0, a1_1⟩ : S52)); (case aB => exact (by repeat (first | (with_reducible first | exact HB.out | apply below_alloc | apply pw_below_drewN | apply below_drew1 | refine below_set ?_ GE294.out) | exact HB.out))); (case aF => exact (fun k_ hk => Kd.freshB (g := gb294) (o := .cells #[.string a1_0, .string a1_1] 52 (0, 0)) (by (with_reducible repeat (first | refine blk_drewN ?_ _ | refine blk_drew ?_ | refine blk_alloc ?_ _)); exact BK294.out) k_ hk)); (case aO => exact (by (with_reducible repeat (first | apply Kd.R_alloc | apply Kd.R_drewN | apply Kd.R_drew)); exact HO_5.out)); (case aS => exact (below_size (by repeat (first | (with_reducible first | exact HB.out | apply below_alloc | apply pw_below_drewN | apply below_drew1 | refine below_set ?_ GE294.out) | exact HB.out)))); (case aL => have := LMc11.out; omega); intro v301 w13 ho hb hg hat; rw [← Ny300.out] at ho; have n0_ := Aside0.mk (blk_grown (g := gb294) (o := .cells #[.string a1_0, .string a1_1] 52 (0, 0)) (by (with_reducible repeat (first | refine blk_drewN ?_ _ | refine blk_drew ?_ | refine blk_alloc ?_ _)); exact BK294.out) hg (Kd.R_away HO_5.out (fun _ hk => hk))); have n1_ := Aside0.mk (hb); have n2_ := Aside0.mk (ho); clear BK294; clear HB; clear HO_5; have BK294 := n0_; have HB := n1_; have HO302 := n2_; clear n0_ n1_ n2_; clear ho hb hg hat))
          repeat (go_quiet (first | ((with_reducible refine gate_builtin (b := .append) (xs := #[.tmp 29, .tmp 31]) rfl ?_); at_builtin; refine Kd.R_append k52 (w0 := w) w.heap.size rfl (.tmp 29) (.tmp 31) 45 52 (.agg #[(.string ⟨#[]⟩), (.string ⟨#[]⟩)]) 32 rfl Try.underlying45 info52 rfl (by decide) (by omega) u5 x5_1 (⟨a1_0, a1_1⟩ : S52) [.string a1_0, .string a1_1] (fun k_ => k_ ≠ gb294) (fun _ => False) rfl rfl ?aP (fun _ hk => hk.elim) ?aF ?aO ?aB ?aS ?aL ?_; (case aP => exact k52_mkM _ _ _ (⟨a1_0, a1_1⟩ : S52)); (case aB => exact (by repeat (first | (with_reducible first | exact HB.out | apply below_alloc | apply pw_below_drewN | apply below_drew1 | refine below_set ?_ GE294.out) | exact HB.out))); (case aF => exact (fun k_ hk => Kd.freshB (g := gb294) (o := .cells #[.string a1_0, .string a1_1] 52 (0, 0)) (by (with_reducible repeat (first | refine blk_drewN ?_ _ | refine blk_drew ?_ | refine blk_alloc ?_ _)); exact BK294.out) k_ hk)); (case aO => exact (by (with_reducible repeat (first | apply Kd.R_alloc | apply Kd.R_drewN | apply Kd.R_drew)); exact HO_5.out)); (case aS => exact (below_size (by repeat (first | (with_reducible first | exact HB.out | apply below_alloc | apply pw_below_drewN | apply below_drew1 | refine below_set ?_ GE294.out) | exact HB.out)))); (case aL => have := LMc11.out; omega); intro v301 w13 ho hb hg hat; rw [← Ny300.out] at ho; have n0_ := Aside0.mk (blk_grown (g := gb294) (o := .cells #[.string a1_0, .string a1_1] 52 (0, 0)) (by (with_reducible repeat (first | refine blk_drewN ?_ _ | refine blk_drew ?_ | refine blk_alloc ?_ _)); exact BK294.out) hg (Kd.R_away HO_5.out (fun _ hk => hk))); have n1_ := Aside0.mk (hb); have n2_ := Aside0.mk (ho); clear BK294; clear HB; clear HO_5; have BK294 := n0_; have HB := n1_; have HO302 := n2_; clear n0_ n1_ n2_; clear ho hb hg hat)); try go_wp2_with (first | ((with_reducible refine gate_builtin (b := .append) (xs := #[.tmp 29, .tmp 31]) rfl ?_); at_builtin; refine Kd.R_append k52 (w0 := w) w.heap.size rfl (.tmp 29) (.tmp 31) 45 52 (.agg #[(.string ⟨#[]⟩), (.string ⟨#[]⟩)]) 32 rfl Try.underlying45 info52 rfl (by decide) (by omega) u5 x5_1 (⟨a1_0, a1_1⟩ : S52) [.string a1_0, .string a1_1] (fun k_ => k_ ≠ gb294) (fun _ => False) rfl rfl ?aP (fun _ hk => hk.elim) ?aF ?aO ?aB ?aS ?aL ?_; (case aP => exact k52_mkM _ _ _ (⟨a1_0, a1_1⟩ : S52)); (case aB => exact (by repeat (first | (with_reducible first | exact HB.out | apply below_alloc | apply pw_below_drewN | apply below_drew1 | refine below_set ?_ GE294.out) | exact HB.out))); (case aF => exact (fun k_ hk => Kd.freshB (g := gb294) (o := .cells #[.string a1_0, .string a1_1] 52 (0, 0)) (by (with_reducible repeat (first | refine blk_drewN ?_ _ | refine blk_drew ?_ | refine blk_alloc ?_ _)); exact BK294.out) k_ hk)); (case aO => exact (by (with_reducible repeat (first | apply Kd.R_alloc | apply Kd.R_drewN | apply Kd.R_drew)); exact HO_5.out)); (case aS => exact (below_size (by repeat (first | (with_reducible first | exact HB.out | apply below_alloc | apply pw_below_drewN | apply below_drew1 | refine below_set ?_ GE294.out) | exact HB.out)))); (case aL => have := LMc11.out; omega); intro v301 w13 ho hb hg hat; rw [← Ny300.out] at ho; have n0_ := Aside0.mk (blk_grown (g := gb294) (o := .cells #[.string a1_0, .string a1_1] 52 (0, 0)) (by (with_reducible repeat (first | refine blk_drewN ?_ _ | refine blk_drew ?_ | refine blk_alloc ?_ _)); exact BK294.out) hg (Kd.R_away HO_5.out (fun _ hk => hk))); have n1_ := Aside0.mk (hb); have n2_ := Aside0.mk (ho); clear BK294; clear HB; clear HO_5; have BK294 := n0_; have HB := n1_; have HO302 := n2_; clear n0_ n1_ n2_; clear ho hb hg hat)))
          go_loopg [5, 7] k1 (fun kq v5 v7 w' => ∃ (x5_2 : List (S52)) (x7_2 : Int), v7 = .int .i64 x7_2 ∧ Aside0 (cellarerref11_in.l1 kq l0 x5_2 x7_2 a1_0 a1_1 = some r) ∧ Aside0 (kq ≤ k1) ∧ Aside0 (Kd.R k52 52 w' w.heap.size (fun k_ => k_ ≠ gb294) v5 x5_2) ∧ Aside0 (w'.heap[gb294]? = some (.cells #[.string a1_0, .string a1_1] 52 (0, 0))) ∧ Aside0 (Below w.heap.size w w'))
          case atStart => exact ⟨(y300), (0), (by first | rfl | (simp; done) | (simp [*]; done)), H', ⟨Nat.le_refl _⟩, ⟨by (with_reducible repeat (first | apply Kd.R_alloc | apply Kd.R_drewN | apply Kd.R_drew)); exact HO302.out⟩, ⟨by (with_reducible repeat (first | refine blk_drewN ?_ _ | refine blk_drew ?_ | refine blk_alloc ?_ _)); exact BK294.out⟩, ⟨by repeat (first | (with_reducible first | exact HB.out | apply below_alloc | apply pw_below_drewN | apply below_drew1 | refine below_set ?_ GE294.out) | exact HB.out)⟩⟩
          case round =>
            clear H'
            try clear c1
            try clear p2
            try clear q2
            try clear hx2
            try clear c4
            try clear c4b0
            try clear c5
            try clear c5b0
            try clear c6
            try clear c6b0
            try clear p6
            try clear c7
            try clear c11
            try clear hcz10_0
            try clear hcz10_1
            try clear hcz12_0
            try clear hcz12_1
            try clear hcz8_0
            try clear hcz8_1
            try clear hfz10_0
            try clear hfz10_1
            try clear hfz12_0
            try clear hfz12_1
            try clear hfz8_0
            try clear hfz8_1
            try clear hx295_0
            try clear hx295_1
            try clear hx296_0
            try clear hx296_1
            try clear p2
            try clear p295
            try clear p296
            try clear q295
            try clear q296
            obtain ⟨x5_2, x7_2, rfl, HA, HK2, HO_5, BK294, HB⟩ := hrel
            cases gk with
            | zero => exact absurd HA.out (by simp [cellarerref11_in.l1])
            | succ k2 =>
              have H := HA.out
              clear HA
              simp only [cellarerref11_in.l1] at H
              by_cases c14 : x7_2 < (l0.length : Int)
              · rw [if_pos c14] at H
                have c14b0 : decide (x7_2 < (l0.length : Int)) = true := decide_eq_true c14
                clear c14
                by_cases c15 : 0 ≤ x7_2
                · rw [if_pos c15] at H
                  have c15b0 : decide (0 ≤ x7_2) = true := decide_eq_true c15
                  clear c15
                  by_cases c16 : (Op.bytesLess a1_0.toList (((rd_T52 l0 x7_2).f0).toList)) = true
                  · rw [if_pos c16] at H
                    have c16b0 : (Op.bytesLess a1_0.toList (((rd_T52 l0 x7_2).f0).toList)) = true := c16
                    clear c16
                    by_cases c17 : x5_2.length < 4398046511104
                    · rw [if_pos c17] at H
                      have LMc17 := Aside0.mk c17
                      clear c17
                      obtain ⟨y305, hy305⟩ : ∃ y_ : List (S52), y_ = (x5_2 ++ [(⟨(rd_T52 l0 x7_2).f0, (rd_T52 l0 x7_2).f1⟩ : S52)]) := ⟨_, rfl⟩
                      replace H : (cellarerref11_in.l1 k2 l0 y305 (wrap64 (x7_2 + 1)) a1_0 a1_1) = some r := by first | (rw [hy305]; with_reducible exact H) | (have H2_ := (Option.bind_some _ _).symm.trans H; rw [hy305]; with_reducible exact H2_) | (have H2_ := (Option.bind_some _ _).symm.trans H; with_reducible exact H2_) | with_reducible exact H | (rw [hy305]; exact H) | exact H
                      have Ny305 := Aside0.mk hy305
                      clear hy305
                      have H' := Aside0.mk H
                      clear H
                      have p303 : 0 ≤ (x7_2 : Int) := of_decide_eq_true (by first | (with_reducible assumption) | assumption)
                      have q303 : x7_2 < (l0.length : Int) := of_decide_eq_true (by first | (with_reducible assumption) | assumption)
                      obtain ⟨ad303, e303, hx303_0, hx303_1⟩ := at_T52 HR0.out x7_2 p303 q303
                      cases e303
                      replace hx303_0 := (HB.out.cell (World.block_lt_of_cell? w _ hx303_0)).trans hx303_0
                      replace hx303_1 := (HB.out.cell (World.block_lt_of_cell? w _ hx303_1)).trans hx303_1
                      replace p303 := eq_true p303
                      replace q303 := eq_true q303
                      have hcz18_0 : wr.cell? ⟨gb294, 0, none⟩ = some (.string a1_0) := (blk_cell BK294.out 0).trans rfl
                      have hcz18_1 : wr.cell? ⟨gb294, 1, none⟩ = some (.string a1_1) := (blk_cell BK294.out 1).trans rfl
                      have hfz18_0 := blk_frozen BK294.out 0
                      have hfz18_1 := blk_frozen BK294.out 1
                      have p304 : 0 ≤ (x7_2 : Int) := of_decide_eq_true (by first | (with_reducible assumption) | assumption)
                      have q304 : x7_2 < (l0.length : Int) := of_decide_eq_true (by first | (with_reducible assumption) | assumption)
                      obtain ⟨ad304, e304, hx304_0, hx304_1⟩ := at_T52 HR0.out x7_2 p304 q304
                      obtain rfl : ad303 = ad304 := (by injection e304)
                      replace hx304_0 := (HB.out.cell (World.block_lt_of_cell? w _ hx304_0)).trans hx304_0
                      replace hx304_1 := (HB.out.cell (World.block_lt_of_cell? w _ hx304_1)).trans hx304_1
                      replace p304 := eq_true p304
                      replace q304 := eq_true q304
                      go_wp2_with (first | ((with_reducible refine gate_builtin (b := .append) (xs := #[.tmp 47, .tmp 52]) rfl ?_); at_builtin; refine Kd.R_append k52 (w0 := w) w.heap.size rfl (.tmp 47) (.tmp 52) 45 52 (.agg #[(.string ⟨#[]⟩), (.string ⟨#[]⟩)]) 32 rfl Try.underlying45 info52 rfl (by decide) (by omega) u5 x5_2 (⟨(rd_T52 l0 x7_2).f0, (rd_T52 l0 x7_2).f1⟩ : S52) [.string ((rd_T52 l0 x7_2).f0), .string ((rd_T52 l0 x7_2).f1)] (fun k_ => k_ ≠ gb294) (fun _ => False) rfl rfl ?aP (fun _ hk => hk.elim) ?aF ?aO ?aB ?aS ?aL ?_; (case aP => exact k52_mkM _ _ _ (⟨(rd_T52 l0 x7_2).f0, (rd_T52 l0 x7_2).f1⟩ : S52)); (case aB => exact (by repeat (first | (with_reducible first | exact HB.out | apply below_alloc | apply pw_below_drewN | apply below_drew1 | refine below_set ?_ GE294.out) | exact HB.out))); (case aF => exact (fun k_ hk => Kd.freshB (g := gb294) (o := .cells #[.string a1_0, .string a1_1] 52 (0, 0)) (by (with_reducible repeat (first | refine blk_drewN ?_ _ | refine blk_drew ?_ | refine blk_alloc ?_ _)); exact BK294.out) k_ hk)); (case aO => exact (by (with_reducible repeat (first | apply Kd.R_alloc | apply Kd.R_drewN | apply Kd.R_drew)); exact HO_5.out)); (case aS => exact (below_size (by repeat (first | (with_reducible first | exact HB.out | apply below_alloc | apply pw_below_drewN | apply below_drew1 | refine below_set ?_ GE294.out) | exact HB.out)))); (case aL => have := LMc17.out; omega); intro v306 w19 ho hb hg hat; rw [← Ny305.out] at ho; have n0_ := Aside0.mk (blk_grown (g := gb294) (o := .cells #[.string a1_0, .string a1_1] 52 (0, 0)) (by (with_reducible repeat (first | refine blk_drewN ?_ _ | refine blk_drew ?_ | refine blk_alloc ?_ _)); exact BK294.out) hg (Kd.R_away HO_5.out (fun _ hk => hk))); have n1_ := Aside0.mk (hb); have n2_ := Aside0.mk (ho); clear BK294; clear HB; clear HO_5; have BK294 := n0_; have HB := n1_; have HO307 := n2_; clear n0_ n1_ n2_; clear ho hb hg hat))
                      repeat (go_quiet (first | ((with_reducible refine gate_builtin (b := .append) (xs := #[.tmp 47, .tmp 52]) rfl ?_); at_builtin; refine Kd.R_append k52 (w0 := w) w.heap.size rfl (.tmp 47) (.tmp 52) 45 52 (.agg #[(.string ⟨#[]⟩), (.string ⟨#[]⟩)]) 32 rfl Try.underlying45 info52 rfl (by decide) (by omega) u5 x5_2 (⟨(rd_T52 l0 x7_2).f0, (rd_T52 l0 x7_2).f1⟩ : S52) [.string ((rd_T52 l0 x7_2).f0), .string ((rd_T52 l0 x7_2).f1)] (fun k_ => k_ ≠ gb294) (fun _ => False) rfl rfl ?aP (fun _ hk => hk.elim) ?aF ?aO ?aB ?aS ?aL ?_; (case aP => exact k52_mkM _ _ _ (⟨(rd_T52 l0 x7_2).f0, (rd_T52 l0 x7_2).f1⟩ : S52)); (case aB => exact (by repeat (first | (with_reducible first | exact HB.out | apply below_alloc | apply pw_below_drewN | apply below_drew1 | refine below_set ?_ GE294.out) | exact HB.out))); (case aF => exact (fun k_ hk => Kd.freshB (g := gb294) (o := .cells #[.string a1_0, .string a1_1] 52 (0, 0)) (by (with_reducible repeat (first | refine blk_drewN ?_ _ | refine blk_drew ?_ | refine blk_alloc ?_ _)); exact BK294.out) k_ hk)); (case aO => exact (by (with_reducible repeat (first | apply Kd.R_alloc | apply Kd.R_drewN | apply Kd.R_drew)); exact HO_5.out)); (case aS => exact (below_size (by repeat (first | (with_reducible first | exact HB.out | apply below_alloc | apply pw_below_drewN | apply below_drew1 | refine below_set ?_ GE294.out) | exact HB.out)))); (case aL => have := LMc17.out; omega); intro v306 w19 ho hb hg hat; rw [← Ny305.out] at ho; have n0_ := Aside0.mk (blk_grown (g := gb294) (o := .cells #[.string a1_0, .string a1_1] 52 (0, 0)) (by (with_reducible repeat (first | refine blk_drewN ?_ _ | refine blk_drew ?_ | refine blk_alloc ?_ _)); exact BK294.out) hg (Kd.R_away HO_5.out (fun _ hk => hk))); have n1_ := Aside0.mk (hb); have n2_ := Aside0.mk (ho); clear BK294; clear HB; clear HO_5; have BK294 := n0_; have HB := n1_; have HO307 := n2_; clear n0_ n1_ n2_; clear ho hb hg hat)); try go_wp2_with (first | ((with_reducible refine gate_builtin (b := .append) (xs := #[.tmp 47, .tmp 52]) rfl ?_); at_builtin; refine Kd.R_append k52 (w0 := w) w.heap.size rfl (.tmp 47) (.tmp 52) 45 52 (.agg #[(.string ⟨#[]⟩), (.string ⟨#[]⟩)]) 32 rfl Try.underlying45 info52 rfl (by decide) (by omega) u5 x5_2 (⟨(rd_T52 l0 x7_2).f0, (rd_T52 l0 x7_2).f1⟩ : S52) [.string ((rd_T52 l0 x7_2).f0), .string ((rd_T52 l0 x7_2).f1)] (fun k_ => k_ ≠ gb294) (fun _ => False) rfl rfl ?aP (fun _ hk => hk.elim) ?aF ?aO ?aB ?aS ?aL ?_; (case aP => exact k52_mkM _ _ _ (⟨(rd_T52 l0 x7_2).f0, (rd_T52 l0 x7_2).f1⟩ : S52)); (case aB => exact (by repeat (first | (with_reducible first | exact HB.out | apply below_alloc | apply pw_below_drewN | apply below_drew1 | refine below_set ?_ GE294.out) | exact HB.out))); (case aF => exact (fun k_ hk => Kd.freshB (g := gb294) (o := .cells #[.string a1_0, .string a1_1] 52 (0, 0)) (by (with_reducible repeat (first | refine blk_drewN ?_ _ | refine blk_drew ?_ | refine blk_alloc ?_ _)); exact BK294.out) k_ hk)); (case aO => exact (by (with_reducible repeat (first | apply Kd.R_alloc | apply Kd.R_drewN | apply Kd.R_drew)); exact HO_5.out)); (case aS => exact (below_size (by repeat (first | (with_reducible first | exact HB.out | apply below_alloc | apply pw_below_drewN | apply below_drew1 | refine below_set ?_ GE294.out) | exact HB.out)))); (case aL => have := LMc17.out; omega); intro v306 w19 ho hb hg hat; rw [← Ny305.out] at ho; have n0_ := Aside0.mk (blk_grown (g := gb294) (o := .cells #[.string a1_0, .string a1_1] 52 (0, 0)) (by (with_reducible repeat (first | refine blk_drewN ?_ _ | refine blk_drew ?_ | refine blk_alloc ?_ _)); exact BK294.out) hg (Kd.R_away HO_5.out (fun _ hk => hk))); have n1_ := Aside0.mk (hb); have n2_ := Aside0.mk (ho); clear BK294; clear HB; clear HO_5; have BK294 := n0_; have HB := n1_; have HO307 := n2_; clear n0_ n1_ n2_; clear ho hb hg hat)))
                      go_roundg k2
                      case measure => have := HK1.out; have := HK2.out; omega
                      case rel => exact ⟨(y305), (wrap64 (x7_2 + 1)), (by first | rfl | (simp; done) | (simp [*]; done)), H', ⟨by have := HK1.out; have := HK2.out; omega⟩, ⟨by (with_reducible repeat (first | apply Kd.R_alloc | apply Kd.R_drewN | apply Kd.R_drew)); exact HO307.out⟩, ⟨by (with_reducible repeat (first | refine blk_drewN ?_ _ | refine blk_drew ?_ | refine blk_alloc ?_ _)); exact BK294.out⟩, ⟨by repeat (first | (with_reducible first | exact HB.out | apply below_alloc | apply pw_below_drewN | apply below_drew1 | refine below_set ?_ GE294.out) | exact HB.out)⟩⟩
                    · rw [if_neg c17] at H
                      exact absurd H (by simp)
                  · rw [if_neg c16] at H
                    have c16b0 : (Op.bytesLess a1_0.toList (((rd_T52 l0 x7_2).f0).toList)) = false := by simpa using c16
                    clear c16
                    have H' := Aside0.mk H
                    clear H
                    have p303 : 0 ≤ (x7_2 : Int) := of_decide_eq_true (by first | (with_reducible assumption) | assumption)
                    have q303 : x7_2 < (l0.length : Int) := of_decide_eq_true (by first | (with_reducible assumption) | assumption)
                    obtain ⟨ad303, e303, hx303_0, hx303_1⟩ := at_T52 HR0.out x7_2 p303 q303
                    cases e303
                    replace hx303_0 := (HB.out.cell (World.block_lt_of_cell? w _ hx303_0)).trans hx303_0
                    replace hx303_1 := (HB.out.cell (World.block_lt_of_cell? w _ hx303_1)).trans hx303_1
                    replace p303 := eq_true p303
                    replace q303 := eq_true q303
                    have hcz20_0 : wr.cell? ⟨gb294, 0, none⟩ = some (.string a1_0) := (blk_cell BK294.out 0).trans rfl
                    have hcz20_1 : wr.cell? ⟨gb294, 1, none⟩ = some (.string a1_1) := (blk_cell BK294.out 1).trans rfl
                    have hfz20_0 := blk_frozen BK294.out 0
                    have hfz20_1 := blk_frozen BK294.out 1
                    go_wp2
                    repeat (go_quiet (fail); try go_wp2)
                    go_roundg k2
                    case measure => have := HK1.out; have := HK2.out; omega
                    case rel => exact ⟨(x5_2), (wrap64 (x7_2 + 1)), (by first | rfl | (simp; done) | (simp [*]; done)), H', ⟨by have := HK1.out; have := HK2.out; omega⟩, ⟨by (with_reducible repeat (first | apply Kd.R_alloc | apply Kd.R_drewN | apply Kd.R_drew)); exact HO_5.out⟩, ⟨by (with_reducible repeat (first | refine blk_drewN ?_ _ | refine blk_drew ?_ | refine blk_alloc ?_ _)); exact BK294.out⟩, ⟨by repeat (first | (with_reducible first | exact HB.out | apply below_alloc | apply pw_below_drewN | apply below_drew1 | refine below_set ?_ GE294.out) | exact HB.out)⟩⟩
                · rw [if_neg c15] at H
                  exact absurd H (by simp)
              · rw [if_neg c14] at H
                have c14b0 : decide (x7_2 < (l0.length : Int)) = false := decide_eq_false c14
                clear c14
                obtain rfl := Option.some.inj H
                go_wp2
                repeat (go_quiet (fail); try go_wp2)
                go_ret
                exact ⟨_, by first | rfl | (simp [errW_none, errW_some] <;> rfl) | (simp [*, errW_none, errW_some] <;> rfl), by (with_reducible repeat (first | apply Kd.R_alloc | apply Kd.R_drewN | apply Kd.R_drew)); exact Kd.R_mono HO_5.out (fun _ hk => trivial), by repeat (first | (with_reducible first | exact HB.out | apply below_alloc | apply pw_below_drewN | apply below_drew1 | refine below_set ?_ GE294.out) | exact HB.out)⟩
        · rw [if_neg c11] at H
          exact absurd H (by simp)

end Go.Proofs.Ytipahpkdddijmaa.Q

-- L6
namespace Go.Proofs.Ytipahpkdddijmaa.Q
open Go.RowKit Go.Proofs.YtipahpkdddijmaaW.PrintWords Go.Proofs.YtipahpkdddijmaaW.PrintLast Go.Proofs.YtipahpkdddijmaaW.PrintMore
attribute [local go_sem] max2_int min2_int max_two min_two max_three min_three max_four min_four   -- for this text's walks alone
set_option linter.unusedVariables false
set_option linter.unusedSimpArgs false

/-! ### cellarerref11_With: function 26 -/
mutual
def cellarerref11_With.l0 : Nat → List (S52) → List (S37) → List (S52) → Int → Option ((List (S52)))
  | 0, _, _, _, _ => none
  | k + 1, x0, x1, x5, x6 => if x6 < (x0.length : Int) then (if 0 ≤ x6 then ((cellarerref11_in.f k x5 ((rd_T52 x0 x6).f0) ((rd_T52 x0 x6).f1)).bind fun t309 => (cellarerref11_With.l0 k x0 x1 t309 (wrap64 (x6 + 1)))) else (none)) else (cellarerref11_With.l1 k x1 x5 0)
def cellarerref11_With.l1 : Nat → List (S37) → List (S52) → Int → Option ((List (S52)))
  | 0, _, _, _ => none
  | k + 1, x1, x5, x7 => if x7 < (x1.length : Int) then (if 0 ≤ x7 then ((cellarerref11_in.f k x5 ((rd_T37 x1 x7).f0) ((rd_T37 x1 x7).f1)).bind fun t314 => (if (rd_T37 x1 x7).f2 = true then (cellarerref11_With.l2 k x1 t314 x7 ([] : List (S52)) 0) else (cellarerref11_With.l1 k x1 t314 (wrap64 (x7 + 1))))) else (none)) else (some x5)
def cellarerref11_With.l2 : Nat → List (S37) → List (S52) → Int → List (S52) → Int → Option ((List (S52)))
  | 0, _, _, _, _, _ => none
  | k + 1, x1, x5, x7, x8, x9 => if x9 < (x5.length : Int) then (if 0 ≤ x9 then (if 0 ≤ x7 then (if x7 < (x1.length : Int) then (if ((rd_T52 x5 x9).f0).toList = ((rd_T37 x1 x7).f0).toList then (cellarerref11_With.l2 k x1 x5 x7 x8 (wrap64 (x9 + 1))) else (if x8.length < 4398046511104 then (cellarerref11_With.l2 k x1 x5 x7 (x8 ++ [(⟨(rd_T52 x5 x9).f0, (rd_T52 x5 x9).f1⟩ : S52)]) (wrap64 (x9 + 1))) else (none))) else (none)) else (none)) else (none)) else (cellarerref11_With.l1 k x1 x8 (wrap64 (x7 + 1)))
end
def cellarerref11_With.f (k : Nat) (l0 : List (S52)) (l1 : List (S37)) : Option ((List (S52))) := cellarerref11_With.l0 k l0 l1 ([] : List (S52)) 0
theorem cellarerref11_With.mono_l : ∀ k, (∀ y0 y1 y2 y3, LeO (cellarerref11_With.l0 k y0 y1 y2 y3) (cellarerref11_With.l0 (k + 1) y0 y1 y2 y3)) ∧ (∀ y0 y1 y2, LeO (cellarerref11_With.l1 k y0 y1 y2) (cellarerref11_With.l1 (k + 1) y0 y1 y2)) ∧ (∀ y0 y1 y2 y3 y4, LeO (cellarerref11_With.l2 k y0 y1 y2 y3 y4) (cellarerref11_With.l2 (k + 1) y0 y1 y2 y3 y4))
  | 0 => ⟨fun _ _ _ _ r h => by simp [cellarerref11_With.l0] at h, fun _ _ _ r h => by simp [cellarerref11_With.l1] at h, fun _ _ _ _ _ r h => by simp [cellarerref11_With.l2] at h⟩
  | k + 1 => by
    obtain ⟨ih0, ih1, ih2⟩ := cellarerref11_With.mono_l k
    refine ⟨?_, ?_, ?_⟩
    · intro y0 y1 y2 y3
      unfold cellarerref11_With.l0
      repeat' first
      | (with_reducible exact ih0 _ _ _ _)
      | (with_reducible exact ih1 _ _ _)
      | (with_reducible exact ih2 _ _ _ _ _)
      | (with_reducible exact cellarerref11_in.mono _ _ _ _)
      | (with_reducible exact LeO.refl _)
      | (with_reducible exact LeO.none _)
      | (with_reducible refine LeO.ite ?_ ?_)
      | (with_reducible refine LeO.bind ?_ (fun _ => ?_))
      | exact ih0 _ _ _ _
      | exact ih1 _ _ _
      | exact ih2 _ _ _ _ _
      | exact cellarerref11_in.mono _ _ _ _
      | exact LeO.none _
      | refine LeO.ite ?_ ?_
      | refine LeO.bind ?_ (fun _ => ?_)
    · intro y0 y1 y2
      unfold cellarerref11_With.l1
      repeat' first
      | (with_reducible exact ih0 _ _ _ _)
      | (with_reducible exact ih1 _ _ _)
      | (with_reducible exact ih2 _ _ _ _ _)
      | (with_reducible exact cellarerref11_in.mono _ _ _ _)
      | (with_reducible exact LeO.refl _)
      | (with_reducible exact LeO.none _)
      | (with_reducible refine LeO.ite ?_ ?_)
      | (with_reducible refine LeO.bind ?_ (fun _ => ?_))
      | exact ih0 _ _ _ _
      | exact ih1 _ _ _
      | exact ih2 _ _ _ _ _
      | exact cellarerref11_in.mono _ _ _ _
      | exact LeO.none _
      | refine LeO.ite ?_ ?_
      | refine LeO.bind ?_ (fun _ => ?_)
    · intro y0 y1 y2 y3 y4
      unfold cellarerref11_With.l2
      repeat' first
      | (with_reducible exact ih0 _ _ _ _)
      | (with_reducible exact ih1 _ _ _)
      | (with_reducible exact ih2 _ _ _ _ _)
      | (with_reducible exact cellarerref11_in.mono _ _ _ _)
      | (with_reducible exact LeO.refl _)
      | (with_reducible exact LeO.none _)
      | (with_reducible refine LeO.ite ?_ ?_)
      | (with_reducible refine LeO.bind ?_ (fun _ => ?_))
      | exact ih0 _ _ _ _
      | exact ih1 _ _ _
      | exact ih2 _ _ _ _ _
      | exact cellarerref11_in.mono _ _ _ _
      | exact LeO.none _
      | refine LeO.ite ?_ ?_
      | refine LeO.bind ?_ (fun _ => ?_)
theorem cellarerref11_With.mono : ∀ a0 a1 k, LeO (cellarerref11_With.f k a0 a1) (cellarerref11_With.f (k + 1) a0 a1) := by
  intro a0 a1 k
  obtain ⟨ih0, ih1, ih2⟩ := cellarerref11_With.mono_l k
  unfold cellarerref11_With.f
  repeat' first
      | (with_reducible exact ih0 _ _ _ _)
      | (with_reducible exact ih1 _ _ _)
      | (with_reducible exact ih2 _ _ _ _ _)
      | (with_reducible exact cellarerref11_in.mono _ _ _ _)
      | (with_reducible exact LeO.refl _)
      | (with_reducible exact LeO.none _)
      | (with_reducible refine LeO.ite ?_ ?_)
      | (with_reducible refine LeO.bind ?_ (fun _ => ?_))
      | exact ih0 _ _ _ _
      | exact ih1 _ _ _
      | exact ih2 _ _ _ _ _
      | exact cellarerref11_in.mono _ _ _ _
      | exact LeO.none _
      | refine LeO.ite ?_ ?_
      | refine LeO.bind ?_ (fun _ => ?_)
def cellarerref11_With.T9 : Bool × List (List Nat × List Nat) := (true, [([], []), ([], []), ([], []), ([1, 2], [1, 2]), ([3], [3]), ([4], [4]), ([], []), ([], []), ([6, 7], [6, 7]), ([8], [8]), ([9], [9]), ([5, 10], [5, 10]), ([0, 11], [0, 11]), ([12, 12, 0, 1, 2, 3, 4, 5, 6, 7, 8, 9, 10, 11, 12], [0, 12])])
def cellarerref11_With.B9 : List Nat := [0, 0, 0, 6, 14, 30, 0, 0, 192, 448, 960, 2046, 4095, 8191]
theorem cellarerref11_With.tab9 : rtab .any (opsOf Try.f26 9) = cellarerref11_With.T9 := by kernel_rfl
theorem cellarerref11_With.bits9 : waitsOk cellarerref11_With.T9.2 cellarerref11_With.B9 = true := by kernel_rfl
def cellarerref11_With.T15 : Bool × List (List Nat × List Nat) := (true, [([], []), ([], []), ([0, 1], [0, 1]), ([2], [2]), ([3], [3]), ([], []), ([], []), ([5, 6], [5, 6]), ([7], [7]), ([8], [8]), ([4, 9], [4, 9])])
def cellarerref11_With.B15 : List Nat := [0, 0, 3, 7, 15, 0, 0, 96, 224, 480, 1023]
theorem cellarerref11_With.tab15 : rtab .any (opsOf Try.f26 15) = cellarerref11_With.T15 := by kernel_rfl
theorem cellarerref11_With.bits15 : waitsOk cellarerref11_With.T15.2 cellarerref11_With.B15 = true := by kernel_rfl
set_option maxHeartbeats 8000000 in
set_option maxRecDepth 100000 in
theorem cellarerref11_With.calls (k : Nat) (A0 : Option Addr) (c0 : Nat) (l0 : List (S52)) (A1 : Option Addr) (c1 : Nat) (l1 : List (S37)) (r : List (S52)) (w : World) (hr0 : Kd.C k52 w A0 l0.length l0) (hc0 : l0.length ≤ c0) (hr1 : Kd.C k37 w A1 l1.length l1) (hc1 : l1.length ≤ c1) (h : cellarerref11_With.f k l0 l1 = some r) :
    Calls Try.prog 26 #[.slice A0 l0.length c0, .slice A1 l1.length c1] w fun e w' => ∃ v0_ : Value, e = .returned (v0_) ∧ Kd.R k52 52 w' w.heap.size (fun _ => True) v0_ r ∧ Below w.heap.size w w' := by
  have hu52 := Try.underlying52
  have HR0 := Aside0.mk hr0
  have HC0 := Aside0.mk hc0
  clear hr0 hc0
  have HR1 := Aside0.mk hr1
  have HC1 := Aside0.mk hc1
  clear hr1 hc1
  have HB := Aside0.mk (Below.refl w.heap.size w)
  have H : (cellarerref11_With.l0 k l0 l1 ([] : List (S52)) 0) = some r := h
  clear h
  have H' := Aside0.mk H
  clear H
  go_enter Try.func26, Try.ntmps26
  go_wp2
  go_loopg [5, 6] k (fun kq v5 v6 w' => ∃ (x5_1 : List (S52)) (x6_1 : Int), v6 = .int .i64 x6_1 ∧ Aside0 (cellarerref11_With.l0 kq l0 l1 x5_1 x6_1 = some r) ∧ Aside0 (kq ≤ k) ∧ Aside0 (Kd.R k52 52 w' w.heap.size (fun _ => True) v5 x5_1) ∧ Aside0 (Below w.heap.size w w'))
  case atStart => exact ⟨(([] : List (S52))), (0), (by first | rfl | (simp; done) | (simp [*]; done)), H', ⟨Nat.le_refl _⟩, ⟨by first | exact Kd.R_nil _ _ _ _ _ | exact Kd.N_nil _ _ _ _ _ | exact Kd.V_nil _ _ _ _ _ | exact Kd.Q_nil _ _ _ _ _ | exact Kd.S_nil _ _ _ _ _⟩, ⟨by repeat (first | (with_reducible first | exact HB.out | apply below_alloc | apply pw_below_drewN | apply below_drew1) | exact HB.out)⟩⟩
  case round =>
    clear H'
    try clear c1
    try clear c2
    try clear p2
    obtain ⟨x5_1, x6_1, rfl, HA, HK1, HO_5, HB⟩ := hrel
    cases gk with
    | zero => exact absurd HA.out (by simp [cellarerref11_With.l0])
    | succ k1 =>
      have H := HA.out
      clear HA
      simp only [cellarerref11_With.l0] at H
      by_cases c3 : x6_1 < (l0.length : Int)
      · rw [if_pos c3] at H
        have c3b0 : decide (x6_1 < (l0.length : Int)) = true := decide_eq_true c3
        clear c3
        by_cases c4 : 0 ≤ x6_1
        · rw [if_pos c4] at H
          have c4b0 : decide (0 ≤ x6_1) = true := decide_eq_true c4
          clear c4
          replace H := Option.bind_eq_some_iff.mp H
          obtain ⟨t309, A50, H⟩ := H
          replace H : (cellarerref11_With.l0 k1 l0 l1 t309 (wrap64 (x6_1 + 1))) = some r := H
          have A5 := Aside0.mk A50
          clear A50
          have H' := Aside0.mk H
          clear H
          have p308 : 0 ≤ (x6_1 : Int) := of_decide_eq_true (by first | (with_reducible assumption) | assumption)
          have q308 : x6_1 < (l0.length : Int) := of_decide_eq_true (by first | (with_reducible assumption) | assumption)
          obtain ⟨ad308, e308, hx308_0, hx308_1⟩ := at_T52 HR0.out x6_1 p308 q308
          cases e308
          replace hx308_0 := (HB.out.cell (World.block_lt_of_cell? w _ hx308_0)).trans hx308_0
          replace hx308_1 := (HB.out.cell (World.block_lt_of_cell? w _ hx308_1)).trans hx308_1
          replace p308 := eq_true p308
          replace q308 := eq_true q308
          obtain ⟨Ao6, co6, eo6⟩ := Kd.R_slice HO_5.out
          subst eo6
          go_wp2_with (first | ((with_reducible refine gate_callee (f := 49) rfl ?_); refine goesL_ (some 21) rfl rfl Try.func49 (by kernel_rfl) rfl #[.slice Ao6 x5_1.length co6, .agg #[.string ((rd_T52 l0 x6_1).f0), .string ((rd_T52 l0 x6_1).f1)]] rfl (by (try simp only [List.map_toArray, List.map_cons, List.map_nil]); first | done | rfl | (simp only [List.length_drop, List.length_take]; rfl)) ?_; (with_reducible refine (cellarerref11_in.calls k1 _ _ x5_1 ((rd_T52 l0 x6_1).f0) ((rd_T52 l0 x6_1).f1) t309 _ ?side1 ?side2 A5.out).mono ?_); (case side1 => repeat (first | exact (Kd.R_reads' HO_5.out).2.2 | (with_reducible refine Kd.C_alloc ?_ _) | (with_reducible refine Kd.C_drewN ?_ _) | (with_reducible refine Kd.C_drew ?_))); (case side2 => exact (Kd.R_reads' HO_5.out).2.1); rintro e w7 ⟨v310, rfl, ho0, hb⟩; refine ⟨_, rfl, ?_⟩; have n0_ := Aside0.mk (Kd.R_elder' (by (with_reducible repeat (first | apply Kd.R_alloc | apply Kd.R_drewN | apply Kd.R_drew)); exact HO_5.out) (Kd.R_base ho0) hb); have n1_ := Aside0.mk (Kd.R_lower (Kd.R_new' ho0 (Kd.R_lt (by (with_reducible repeat (first | apply Kd.R_alloc | apply Kd.R_drewN | apply Kd.R_drew)); exact HO_5.out))) (below_size (by repeat (first | (with_reducible first | exact HB.out | apply below_alloc | apply pw_below_drewN | apply below_drew1) | exact HB.out)))); have n2_ := Aside0.mk (below_step (by repeat (first | (with_reducible first | exact HB.out | apply below_alloc | apply pw_below_drewN | apply below_drew1) | exact HB.out)) hb); clear HO_5; clear HB; have HO_5 := n0_; have HO311 := n1_; have HB := n2_; clear n0_ n1_ n2_; (try clear hb); (try clear hb2); (try clear hk); (try clear hi); (try clear ho0)))
          go_roundg k1
          case measure => have := HK1.out; omega
          case rel => exact ⟨(t309), (wrap64 (x6_1 + 1)), (by first | rfl | (simp; done) | (simp [*]; done)), H', ⟨by have := HK1.out; omega⟩, ⟨by (with_reducible repeat (first | apply Kd.R_alloc | apply Kd.R_drewN | apply Kd.R_drew)); exact Kd.R_mono HO311.out (fun _ hk => trivial)⟩, ⟨by repeat (first | (with_reducible first | exact HB.out | apply below_alloc | apply pw_below_drewN | apply below_drew1) | exact HB.out)⟩⟩
        · rw [if_neg c4] at H
          exact absurd H (by simp)
      · rw [if_neg c3] at H
        have c3b0 : decide (x6_1 < (l0.length : Int)) = false := decide_eq_false c3
        clear c3
        have H' := Aside0.mk H
        clear H
        go_wp2
        go_loopg [5, 7] k1 (fun kq v5 v7 w' => ∃ (x5_2 : List (S52)) (x7_2 : Int), v7 = .int .i64 x7_2 ∧ Aside0 (cellarerref11_With.l1 kq l1 x5_2 x7_2 = some r) ∧ Aside0 (kq ≤ k1) ∧ Aside0 (Kd.R k52 52 w' w.heap.size (fun _ => True) v5 x5_2) ∧ Aside0 (Below w.heap.size w w'))
        case atStart => exact ⟨(x5_1), (0), (by first | rfl | (simp; done) | (simp [*]; done)), H', ⟨Nat.le_refl _⟩, ⟨by (with_reducible repeat (first | apply Kd.R_alloc | apply Kd.R_drewN | apply Kd.R_drew)); exact HO_5.out⟩, ⟨by repeat (first | (with_reducible first | exact HB.out | apply below_alloc | apply pw_below_drewN | apply below_drew1) | exact HB.out)⟩⟩
        case round =>
          clear H'
          try clear c1
          try clear c2
          try clear p2
          try clear c3
          try clear c3b0
          try clear p3
          try clear q3
          try clear hx3
          try clear c4
          try clear c4b0
          try clear p6
          try clear hx308_0
          try clear hx308_1
          try clear p2
          try clear p308
          try clear q308
          obtain ⟨x5_2, x7_2, rfl, HA, HK2, HO_5, HB⟩ := hrel
          cases gk with
          | zero => exact absurd HA.out (by simp [cellarerref11_With.l1])
          | succ k2 =>
            have H := HA.out
            clear HA
            simp only [cellarerref11_With.l1] at H
            by_cases c8 : x7_2 < (l1.length : Int)
            · rw [if_pos c8] at H
              have c8b0 : decide (x7_2 < (l1.length : Int)) = true := decide_eq_true c8
              clear c8
              by_cases c9 : 0 ≤ x7_2
              · rw [if_pos c9] at H
                have c9b0 : decide (0 ≤ x7_2) = true := decide_eq_true c9
                clear c9
                replace H := Option.bind_eq_some_iff.mp H
                obtain ⟨t314, A100, H⟩ := H
                replace H : (if (rd_T37 l1 x7_2).f2 = true then (cellarerref11_With.l2 k2 l1 t314 x7_2 ([] : List (S52)) 0) else (cellarerref11_With.l1 k2 l1 t314 (wrap64 (x7_2 + 1)))) = some r := H
                have A10 := Aside0.mk A100
                clear A100
                obtain ⟨bq11, hbq11⟩ : ∃ b_ : Bool, b_ = ((rd_T37 l1 x7_2).f2) := ⟨_, rfl⟩
                replace H : (if bq11 = true then (cellarerref11_With.l2 k2 l1 t314 x7_2 ([] : List (S52)) 0) else (cellarerref11_With.l1 k2 l1 t314 (wrap64 (x7_2 + 1)))) = some r := by rw [← hbq11] at H; exact H
                have Nbq11 := Aside0.mk hbq11
                clear hbq11
                by_cases c12 : bq11 = true
                · subst c12
                  have H1 : (cellarerref11_With.l2 k2 l1 t314 x7_2 ([] : List (S52)) 0) = some r := by rw [if_pos rfl] at H; exact H
                  clear H
                  have H := H1
                  clear H1
                  have H' := Aside0.mk H
                  clear H
                  try go_wp2
                  have n0_ := Aside0.mk (Kd.R_drew HO_5.out)
                  have n1_ := Aside0.mk (below_drew1 HB.out)
                  clear HO_5
                  clear HB
                  have HO_5 := n0_
                  have HB := n1_
                  clear n0_ n1_
                  have p312 : 0 ≤ (x7_2 : Int) := of_decide_eq_true (by first | (with_reducible assumption) | assumption)
                  have q312 : x7_2 < (l1.length : Int) := of_decide_eq_true (by first | (with_reducible assumption) | assumption)
                  obtain ⟨ad312, e312, hx312_0, hx312_1, hx312_2⟩ := at_T37 HR1.out x7_2 p312 q312
                  have hw312_2 := hx312_2
                  have hw312_1 := hx312_1
                  have hw312_0 := hx312_0
                  (try rw [← Nbq11.out] at hx312_2)
                  (try rw [← Nbq11.out] at hw312_2)
                  cases e312
                  replace hx312_0 := (HB.out.cell (World.block_lt_of_cell? w _ hx312_0)).trans hx312_0
                  replace hx312_1 := (HB.out.cell (World.block_lt_of_cell? w _ hx312_1)).trans hx312_1
                  replace hx312_2 := (HB.out.cell (World.block_lt_of_cell? w _ hx312_2)).trans hx312_2
                  replace p312 := eq_true p312
                  replace q312 := eq_true q312
                  have p313 : 0 ≤ (x7_2 : Int) := of_decide_eq_true (by first | (with_reducible assumption) | assumption)
                  have q313 : x7_2 < (l1.length : Int) := of_decide_eq_true (by first | (with_reducible assumption) | assumption)
                  obtain ⟨ad313, e313, hx313_0, hx313_1, hx313_2⟩ := at_T37 HR1.out x7_2 p313 q313
                  have hw313_2 := hx313_2
                  have hw313_1 := hx313_1
                  have hw313_0 := hx313_0
                  (try rw [← Nbq11.out] at hx313_2)
                  (try rw [← Nbq11.out] at hw313_2)
                  obtain rfl : ad312 = ad313 := (by injection e313)
                  replace hx313_0 := (HB.out.cell (World.block_lt_of_cell? w _ hx313_0)).trans hx313_0
                  replace hx313_1 := (HB.out.cell (World.block_lt_of_cell? w _ hx313_1)).trans hx313_1
                  replace hx313_2 := (HB.out.cell (World.block_lt_of_cell? w _ hx313_2)).trans hx313_2
                  replace p313 := eq_true p313
                  replace q313 := eq_true q313
                  obtain ⟨Ao14, co14, eo14⟩ := Kd.R_slice HO_5.out
                  (first | subst eo14 | (injection eo14 with f1_ f2_ f3_; have f4_ := f1_.symm; have f5_ := f3_.symm; clear f1_ f2_ f3_; subst f4_; subst f5_))
                  refine start_ (n := 14) (S := fun w' => w'.cell? (ad312.add ((x7_2).toNat * 3)) = some (.string ((rd_T37 l1 x7_2).f0)) ∧ w'.cell? ⟨(ad312.add ((x7_2).toNat * 3)).block, (ad312.add ((x7_2).toNat * 3)).off + 1, none⟩ = some (.string ((rd_T37 l1 x7_2).f1)) ∧ w'.cell? ⟨(ad312.add ((x7_2).toNat * 3)).block, (ad312.add ((x7_2).toNat * 3)).off + 2, none⟩ = some (.bool true) ∧ w'.cell? (ad312.add ((x7_2).toNat * 3)) = some (.string ((rd_T37 l1 x7_2).f0)) ∧ w'.cell? ⟨(ad312.add ((x7_2).toNat * 3)).block, (ad312.add ((x7_2).toNat * 3)).off + 1, none⟩ = some (.string ((rd_T37 l1 x7_2).f1)) ∧ w'.cell? ⟨(ad312.add ((x7_2).toNat * 3)).block, (ad312.add ((x7_2).toNat * 3)).off + 2, none⟩ = some (.bool true)) (ds := []) #[false, false, false, false, false, false, false, false, false, false, false, false, false, false] (by kernel_rfl) rfl rfl ⟨((HB.out.cell (World.block_lt_of_cell? w _ hw312_0)).trans hw312_0), ((HB.out.cell (World.block_lt_of_cell? w _ hw312_1)).trans hw312_1), ((HB.out.cell (World.block_lt_of_cell? w _ hw312_2)).trans hw312_2), ((HB.out.cell (World.block_lt_of_cell? w _ hw313_0)).trans hw313_0), ((HB.out.cell (World.block_lt_of_cell? w _ hw313_1)).trans hw313_1), ((HB.out.cell (World.block_lt_of_cell? w _ hw313_2)).trans hw313_2)⟩ (fun hHeld => ?_); refine with_tabW cellarerref11_With.tab9 cellarerref11_With.bits9 (fun HT_ HW_ => ?_)
                  generalize wr.drew = w13 at HO_5 HB hx312_0 hx312_1 hx312_2 hx313_0 hx313_1 hx313_2 hHeld ⊢
                  refine pure_ (i := 0) (N := some 28) (v := ?_) (a' := ?_) #[true, false, false, false, false, false, false, false, false, false, false, false, false, false] rfl rfl (any_of HT_.out (by kernel_rfl)) (fun _ _ _ h => h) (Or.inl ⟨by rfl, ?_⟩) ?_ ?_
                  rotate_left
                  · intro w'
                    go_simp
                    with_reducible rfl
                  rotate_left
                  · simp only [Act.put, List.setIfInBounds_toArray, List.set_cons_zero, List.set_cons_succ, i64_w, i32_w]
                    rfl
                  refine pure_ (i := 1) (N := some 29) (v := ?_) (a' := ?_) #[true, true, false, false, false, false, false, false, false, false, false, false, false, false] rfl rfl (any_of HT_.out (by kernel_rfl)) (fun _ _ _ h => h) (Or.inl ⟨by rfl, ?_⟩) ?_ ?_
                  rotate_left
                  · intro w'
                    go_simp
                    with_reducible rfl
                  rotate_left
                  · simp only [Act.put, List.setIfInBounds_toArray, List.set_cons_zero, List.set_cons_succ, i64_w, i32_w]
                    rfl
                  refine pure_ (i := 2) (N := some 30) (v := ?_) (a' := ?_) #[true, true, true, false, false, false, false, false, false, false, false, false, false, false] rfl rfl (any_of HT_.out (by kernel_rfl)) (fun _ _ _ h => h) (Or.inl ⟨by rfl, ?_⟩) ?_ ?_
                  rotate_left
                  · intro w'
                    go_simp
                    with_reducible rfl
                  rotate_left
                  · simp only [Act.put, List.setIfInBounds_toArray, List.set_cons_zero, List.set_cons_succ, i64_w, i32_w]
                    rfl
                  refine pure_ (i := 3) (N := some 31) (v := ?_) (a' := ?_) #[true, true, true, true, false, false, false, false, false, false, false, false, false, false] rfl rfl (any_of HT_.out (by kernel_rfl)) (fun _ _ _ h => h) (Or.inl ⟨by rfl, ?_⟩) ?_ ?_
                  rotate_left
                  · intro w'
                    go_simp
                    with_reducible rfl
                  rotate_left
                  · simp only [Act.put, List.setIfInBounds_toArray, List.set_cons_zero, List.set_cons_succ, i64_w, i32_w]
                    rfl
                  refine pure_ (i := 4) (N := some 32) (v := ?_) (a' := ?_) #[true, true, true, true, true, false, false, false, false, false, false, false, false, false] rfl rfl (any_of HT_.out (by kernel_rfl)) (fun _ _ _ h => h) (Or.inl ⟨by rfl, ?_⟩) ?_ ?_
                  rotate_left
                  · intro w'
                    go_simp
                    with_reducible rfl
                  rotate_left
                  · simp only [Act.put, List.setIfInBounds_toArray, List.set_cons_zero, List.set_cons_succ, i64_w, i32_w]
                    rfl
                  refine pure_ (i := 6) (N := some 34) (v := ?_) (a' := ?_) #[true, true, true, true, true, false, true, false, false, false, false, false, false, false] rfl rfl (any_of HT_.out (by kernel_rfl)) (fun _ _ _ h => h) (Or.inl ⟨by rfl, ?_⟩) ?_ ?_
                  rotate_left
                  · intro w'
                    go_simp
                    with_reducible rfl
                  rotate_left
                  · simp only [Act.put, List.setIfInBounds_toArray, List.set_cons_zero, List.set_cons_succ, i64_w, i32_w]
                    rfl
                  refine pure_ (i := 7) (N := some 35) (v := ?_) (a' := ?_) #[true, true, true, true, true, false, true, true, false, false, false, false, false, false] rfl rfl (any_of HT_.out (by kernel_rfl)) (fun _ _ _ h => h) (Or.inl ⟨by rfl, ?_⟩) ?_ ?_
                  rotate_left
                  · intro w'
                    go_simp
                    with_reducible rfl
                  rotate_left
                  · simp only [Act.put, List.setIfInBounds_toArray, List.set_cons_zero, List.set_cons_succ, i64_w, i32_w]
                    rfl
                  refine pure_ (i := 8) (N := some 36) (v := ?_) (a' := ?_) #[true, true, true, true, true, false, true, true, true, false, false, false, false, false] rfl rfl (any_of HT_.out (by kernel_rfl)) (fun _ _ _ h => h) (Or.inl ⟨by rfl, ?_⟩) ?_ ?_
                  rotate_left
                  · intro w'
                    go_simp
                    with_reducible rfl
                  rotate_left
                  · simp only [Act.put, List.setIfInBounds_toArray, List.set_cons_zero, List.set_cons_succ, i64_w, i32_w]
                    rfl
                  refine pure_ (i := 9) (N := some 37) (v := ?_) (a' := ?_) #[true, true, true, true, true, false, true, true, true, true, false, false, false, false] rfl rfl (any_of HT_.out (by kernel_rfl)) (fun _ _ _ h => h) (Or.inl ⟨by rfl, ?_⟩) ?_ ?_
                  rotate_left
                  · intro w'
                    go_simp
                    with_reducible rfl
                  rotate_left
                  · simp only [Act.put, List.setIfInBounds_toArray, List.set_cons_zero, List.set_cons_succ, i64_w, i32_w]
                    rfl
                  refine take_ (i := 5) (N := some 33) (v := ?_) (a' := ?_) #[true, true, true, true, true, true, true, true, true, true, false, false, false, false] rfl rfl (take_ofW HT_.out HW_.out (by kernel_rfl)) (fun _ _ _ h => h) (Or.inl ⟨by rfl, ?_⟩) hHeld ?_ ?_
                  rotate_left
                  · rintro w' ⟨s0, s1, s2, s3, s4, s5⟩
                    go_simp
                    with_reducible rfl
                  rotate_left
                  · simp only [Act.put, List.setIfInBounds_toArray, List.set_cons_zero, List.set_cons_succ, i64_w, i32_w]
                    rfl
                  refine take_ (i := 10) (N := some 38) (v := ?_) (a' := ?_) #[true, true, true, true, true, true, true, true, true, true, true, false, false, false] rfl rfl (take_ofW HT_.out HW_.out (by kernel_rfl)) (fun _ _ _ h => h) (Or.inl ⟨by rfl, ?_⟩) hHeld ?_ ?_
                  rotate_left
                  · rintro w' ⟨s0, s1, s2, s3, s4, s5⟩
                    go_simp
                    with_reducible rfl
                  rotate_left
                  · simp only [Act.put, List.setIfInBounds_toArray, List.set_cons_zero, List.set_cons_succ, i64_w, i32_w]
                    rfl
                  refine pure_ (i := 11) (N := some 39) (v := ?_) (a' := ?_) #[true, true, true, true, true, true, true, true, true, true, true, true, false, false] rfl rfl (any_of HT_.out (by kernel_rfl)) (fun _ _ _ h => h) (Or.inl ⟨by rfl, ?_⟩) ?_ ?_
                  rotate_left
                  · intro w'
                    go_simp
                    with_reducible rfl
                  rotate_left
                  · simp only [Act.put, List.setIfInBounds_toArray, List.set_cons_zero, List.set_cons_succ, i64_w, i32_w]
                    rfl
                  refine one_ (i := 12) (N := some 40) #[true, true, true, true, true, true, true, true, true, true, true, true, true, false] rfl rfl (one_of HT_.out (by kernel_rfl)) (by decide) (fun K hK => ?_)
                  refine goes_ Try.func49 (by kernel_rfl) rfl #[.slice Ao14 x5_2.length co14, .agg #[.string ((rd_T37 l1 x7_2).f0), .string ((rd_T37 l1 x7_2).f1)]] (by rfl) rfl rfl (by (try simp only [List.map_toArray, List.map_cons, List.map_nil]); first | done | rfl | (simp only [List.length_drop, List.length_take]; rfl)) ?_
                  with_reducible refine (cellarerref11_in.calls k2 _ _ x5_2 ((rd_T37 l1 x7_2).f0) ((rd_T37 l1 x7_2).f1) t314 _ ?side1 ?side2 A10.out).mono ?_
                  (case side1 => repeat (first | exact (Kd.R_reads' HO_5.out).2.2 | (with_reducible refine Kd.C_alloc ?_ _) | (with_reducible refine Kd.C_drewN ?_ _) | (with_reducible refine Kd.C_drew ?_)))
                  (case side2 => exact (Kd.R_reads' HO_5.out).2.1)
                  rintro e w15 ⟨v315, rfl, ho0, hb⟩
                  refine ⟨_, rfl, ?_⟩
                  have n0_ := Aside0.mk (Kd.R_elder' (by (with_reducible repeat (first | apply Kd.R_alloc | apply Kd.R_drewN | apply Kd.R_drew)); exact HO_5.out) (Kd.R_base ho0) hb)
                  have n1_ := Aside0.mk (Kd.R_lower (Kd.R_new' ho0 (Kd.R_lt (by (with_reducible repeat (first | apply Kd.R_alloc | apply Kd.R_drewN | apply Kd.R_drew)); exact HO_5.out))) (below_size (by repeat (first | (with_reducible first | exact HB.out | apply below_alloc | apply pw_below_drewN | apply below_drew1) | exact HB.out))))
                  have n2_ := Aside0.mk (below_step (by repeat (first | (with_reducible first | exact HB.out | apply below_alloc | apply pw_below_drewN | apply below_drew1) | exact HB.out)) hb)
                  clear HO_5
                  clear HB
                  have HO_5 := n0_
                  have HO316 := n1_
                  have HB := n2_
                  clear n0_ n1_ n2_
                  (try clear hb)
                  (try clear hb2)
                  (try clear hk)
                  (try clear hi)
                  (try clear ho0)
                  refine hK.out _ _ ⟨((HB.out.cell (World.block_lt_of_cell? w _ hw312_0)).trans hw312_0), ((HB.out.cell (World.block_lt_of_cell? w _ hw312_1)).trans hw312_1), ((HB.out.cell (World.block_lt_of_cell? w _ hw312_2)).trans hw312_2), ((HB.out.cell (World.block_lt_of_cell? w _ hw313_0)).trans hw313_0), ((HB.out.cell (World.block_lt_of_cell? w _ hw313_1)).trans hw313_1), ((HB.out.cell (World.block_lt_of_cell? w _ hw313_2)).trans hw313_2)⟩ (fun hHeld => ?_)
                  clear hK K
                  refine norm_ (a' := ?_) ?_ ?_
                  rotate_left
                  · show Act.put _ (some 40) _ = _
                    simp only [Act.put, List.setIfInBounds_toArray, List.set_cons_zero, List.set_cons_succ, i64_w, i32_w]
                    rfl
                  refine pure_ (i := 13) (N := some 5) (v := ?_) (a' := ?_) #[true, true, true, true, true, true, true, true, true, true, true, true, true, true] rfl rfl (any_of HT_.out (by kernel_rfl)) (fun _ _ _ h => h) (Or.inl ⟨by rfl, ?_⟩) ?_ ?_
                  rotate_left
                  · intro w'
                    go_simp
                    with_reducible rfl
                  rotate_left
                  · simp only [Act.put, List.setIfInBounds_toArray, List.set_cons_zero, List.set_cons_succ, i64_w, i32_w]
                    rfl
                  refine done_ (done_of HT_.out (by kernel_rfl)) ?_
                  have p317 : 0 ≤ (x7_2 : Int) := of_decide_eq_true (by first | (with_reducible assumption) | assumption)
                  have q317 : x7_2 < (l1.length : Int) := of_decide_eq_true (by first | (with_reducible assumption) | assumption)
                  obtain ⟨ad317, e317, hx317_0, hx317_1, hx317_2⟩ := at_T37 HR1.out x7_2 p317 q317
                  (try rw [← Nbq11.out] at hx317_2)
                  (try rw [← Nbq11.out] at hw317_2)
                  obtain rfl : ad312 = ad317 := (by injection e317)
                  replace hx317_0 := (HB.out.cell (World.block_lt_of_cell? w _ hx317_0)).trans hx317_0
                  replace hx317_1 := (HB.out.cell (World.block_lt_of_cell? w _ hx317_1)).trans hx317_1
                  replace hx317_2 := (HB.out.cell (World.block_lt_of_cell? w _ hx317_2)).trans hx317_2
                  replace p317 := eq_true p317
                  replace q317 := eq_true q317
                  try go_wp2
                  go_loopg [8, 9] k2 (fun kq v8 v9 w' => ∃ (x8_3 : List (S52)) (x9_3 : Int), v9 = .int .i64 x9_3 ∧ Aside0 (cellarerref11_With.l2 kq l1 t314 x7_2 x8_3 x9_3 = some r) ∧ Aside0 (kq ≤ k2) ∧ Aside0 (Kd.R k52 52 w' w.heap.size (fun k_ => some k_ ≠ (v8 : Value).ownBlock) v315 t314) ∧ Aside0 (Kd.R k52 52 w' w.heap.size (fun k_ => some k_ ≠ (v315 : Value).ownBlock) v8 x8_3) ∧ Aside0 (Below w.heap.size w w'))
                  case atStart => exact ⟨(([] : List (S52))), (0), (by first | rfl | (simp; done) | (simp [*]; done)), H', ⟨Nat.le_refl _⟩, ⟨by (with_reducible repeat (first | apply Kd.R_alloc | apply Kd.R_drewN | apply Kd.R_drew)); exact Kd.R_mono HO316.out (fun _ hk => (by simp [Value.ownBlock]))⟩, ⟨by first | exact Kd.R_nil _ _ _ _ _ | exact Kd.N_nil _ _ _ _ _ | exact Kd.V_nil _ _ _ _ _ | exact Kd.Q_nil _ _ _ _ _ | exact Kd.S_nil _ _ _ _ _⟩, ⟨by repeat (first | (with_reducible first | exact HB.out | apply below_alloc | apply pw_below_drewN | apply below_drew1) | exact HB.out)⟩⟩
                  case round =>
                    clear H'
                    try clear c1
                    try clear q1
                    try clear c2
                    try clear p2
                    try clear c3
                    try clear c3b0
                    try clear p3
                    try clear q3
                    try clear hx3
                    try clear c4
                    try clear c4b0
                    try clear p6
                    try clear c8
                    try clear c8b0
                    try clear c9
                    try clear c9b0
                    try clear q11
                    try clear c12
                    try clear hx308_0
                    try clear hx308_1
                    try clear hx312_0
                    try clear hx312_1
                    try clear hx312_2
                    try clear hx313_0
                    try clear hx313_1
                    try clear hx313_2
                    try clear hx317_0
                    try clear hx317_1
                    try clear hx317_2
                    try clear p2
                    try clear p3
                    try clear p308
                    try clear p312
                    try clear p313
                    try clear p317
                    try clear p6
                    try clear q3
                    try clear q308
                    try clear q312
                    try clear q313
                    try clear q317
                    obtain ⟨x8_3, x9_3, rfl, HA, HK3, HO_5, HO_8, HB⟩ := hrel
                    cases gk with
                    | zero => exact absurd HA.out (by simp [cellarerref11_With.l2])
                    | succ k3 =>
                      have H := HA.out
                      clear HA
                      simp only [cellarerref11_With.l2] at H
                      by_cases c16 : x9_3 < (t314.length : Int)
                      · rw [if_pos c16] at H
                        have c16b0 : decide (x9_3 < (t314.length : Int)) = true := decide_eq_true c16
                        clear c16
                        by_cases c17 : 0 ≤ x9_3
                        · rw [if_pos c17] at H
                          have c17b0 : decide (0 ≤ x9_3) = true := decide_eq_true c17
                          clear c17
                          by_cases c18 : 0 ≤ x7_2
                          · rw [if_pos c18] at H
                            have c18b0 : decide (0 ≤ x7_2) = true := decide_eq_true c18
                            clear c18
                            by_cases c19 : x7_2 < (l1.length : Int)
                            · rw [if_pos c19] at H
                              have c19b0 : decide (x7_2 < (l1.length : Int)) = true := decide_eq_true c19
                              clear c19
                              by_cases c20 : ((rd_T52 t314 x9_3).f0).toList = ((rd_T37 l1 x7_2).f0).toList
                              · rw [if_pos c20] at H
                                have c20b0 : (((rd_T52 t314 x9_3).f0).toList == ((rd_T37 l1 x7_2).f0).toList) = true := beq_iff_eq.mpr c20
                                have c20b1 : (((rd_T52 t314 x9_3).f0).toList != ((rd_T37 l1 x7_2).f0).toList) = false := bne_eq_false_iff_eq.mpr c20
                                clear c20
                                have H' := Aside0.mk H
                                clear H
                                obtain ⟨Ao21, co21, eo21⟩ := Kd.R_slice HO_5.out
                                subst eo21
                                try go_wp2
                                have n0_ := Aside0.mk (Kd.R_drew HO_5.out)
                                have n1_ := Aside0.mk (Kd.R_drew HO_8.out)
                                have n2_ := Aside0.mk (below_drew1 HB.out)
                                clear HO_5
                                clear HO_8
                                clear HB
                                have HO_5 := n0_
                                have HO_8 := n1_
                                have HB := n2_
                                clear n0_ n1_ n2_
                                have p318 : 0 ≤ (x9_3 : Int) := of_decide_eq_true (by first | (with_reducible assumption) | assumption)
                                have q318 : x9_3 < (t314.length : Int) := of_decide_eq_true (by first | (with_reducible assumption) | assumption)
                                obtain ⟨ad318, e318, hx318_0, hx318_1⟩ := at_T52 (Kd.R_reads' HO_5.out).2.2 x9_3 p318 q318
                                cases e318
                                replace p318 := eq_true p318
                                replace q318 := eq_true q318
                                have p319 : 0 ≤ (x7_2 : Int) := of_decide_eq_true (by first | (with_reducible assumption) | assumption)
                                have q319 : x7_2 < (l1.length : Int) := of_decide_eq_true (by first | (with_reducible assumption) | assumption)
                                obtain ⟨ad319, e319, hx319_0, hx319_1, hx319_2⟩ := at_T37 HR1.out x7_2 p319 q319
                                have hw319_2 := hx319_2
                                have hw319_1 := hx319_1
                                have hw319_0 := hx319_0
                                (try rw [← Nbq11.out] at hx319_2)
                                (try rw [← Nbq11.out] at hw319_2)
                                obtain rfl : ad312 = ad319 := (by injection e319)
                                replace hx319_0 := (HB.out.cell (World.block_lt_of_cell? w _ hx319_0)).trans hx319_0
                                replace hx319_1 := (HB.out.cell (World.block_lt_of_cell? w _ hx319_1)).trans hx319_1
                                replace hx319_2 := (HB.out.cell (World.block_lt_of_cell? w _ hx319_2)).trans hx319_2
                                replace p319 := eq_true p319
                                replace q319 := eq_true q319
                                refine start_ (n := 11) (S := fun w' => w'.cell? (ad318.add ((x9_3).toNat * 2)) = some (.string ((rd_T52 t314 x9_3).f0)) ∧ w'.cell? ⟨(ad318.add ((x9_3).toNat * 2)).block, (ad318.add ((x9_3).toNat * 2)).off + 1, none⟩ = some (.string ((rd_T52 t314 x9_3).f1)) ∧ w'.cell? (ad312.add ((x7_2).toNat * 3)) = some (.string ((rd_T37 l1 x7_2).f0)) ∧ w'.cell? ⟨(ad312.add ((x7_2).toNat * 3)).block, (ad312.add ((x7_2).toNat * 3)).off + 1, none⟩ = some (.string ((rd_T37 l1 x7_2).f1)) ∧ w'.cell? ⟨(ad312.add ((x7_2).toNat * 3)).block, (ad312.add ((x7_2).toNat * 3)).off + 2, none⟩ = some (.bool (true))) (ds := []) #[false, false, false, false, false, false, false, false, false, false, false] (by kernel_rfl) rfl rfl ⟨hx318_0, hx318_1, ((HB.out.cell (World.block_lt_of_cell? w _ hw319_0)).trans hw319_0), ((HB.out.cell (World.block_lt_of_cell? w _ hw319_1)).trans hw319_1), ((HB.out.cell (World.block_lt_of_cell? w _ hw319_2)).trans hw319_2)⟩ (fun hHeld => ?_); refine with_tabW cellarerref11_With.tab15 cellarerref11_With.bits15 (fun HT_ HW_ => ?_)
                                generalize wr.drew = w22 at HO_5 HO_8 HB hx318_0 hx318_1 hx319_0 hx319_1 hx319_2 hHeld ⊢
                                refine pure_ (i := 0) (N := some 52) (v := ?_) (a' := ?_) #[true, false, false, false, false, false, false, false, false, false, false] rfl rfl (any_of HT_.out (by kernel_rfl)) (fun _ _ _ h => h) (Or.inl ⟨by rfl, ?_⟩) ?_ ?_
                                rotate_left
                                · intro w'
                                  go_simp
                                  with_reducible rfl
                                rotate_left
                                · simp only [Act.put, List.setIfInBounds_toArray, List.set_cons_zero, List.set_cons_succ, i64_w, i32_w]
                                  rfl
                                refine pure_ (i := 1) (N := some 53) (v := ?_) (a' := ?_) #[true, true, false, false, false, false, false, false, false, false, false] rfl rfl (any_of HT_.out (by kernel_rfl)) (fun _ _ _ h => h) (Or.inl ⟨by rfl, ?_⟩) ?_ ?_
                                rotate_left
                                · intro w'
                                  go_simp
                                  with_reducible rfl
                                rotate_left
                                · simp only [Act.put, List.setIfInBounds_toArray, List.set_cons_zero, List.set_cons_succ, i64_w, i32_w]
                                  rfl
                                refine pure_ (i := 2) (N := some 54) (v := ?_) (a' := ?_) #[true, true, true, false, false, false, false, false, false, false, false] rfl rfl (any_of HT_.out (by kernel_rfl)) (fun _ _ _ h => h) (Or.inl ⟨by rfl, ?_⟩) ?_ ?_
                                rotate_left
                                · intro w'
                                  go_simp
                                  with_reducible rfl
                                rotate_left
                                · simp only [Act.put, List.setIfInBounds_toArray, List.set_cons_zero, List.set_cons_succ, i64_w, i32_w]
                                  rfl
                                refine pure_ (i := 3) (N := some 55) (v := ?_) (a' := ?_) #[true, true, true, true, false, false, false, false, false, false, false] rfl rfl (any_of HT_.out (by kernel_rfl)) (fun _ _ _ h => h) (Or.inl ⟨by rfl, ?_⟩) ?_ ?_
                                rotate_left
                                · intro w'
                                  go_simp
                                  with_reducible rfl
                                rotate_left
                                · simp only [Act.put, List.setIfInBounds_toArray, List.set_cons_zero, List.set_cons_succ, i64_w, i32_w]
                                  rfl
                                refine pure_ (i := 5) (N := some 57) (v := ?_) (a' := ?_) #[true, true, true, true, false, true, false, false, false, false, false] rfl rfl (any_of HT_.out (by kernel_rfl)) (fun _ _ _ h => h) (Or.inl ⟨by rfl, ?_⟩) ?_ ?_
                                rotate_left
                                · intro w'
                                  go_simp
                                  with_reducible rfl
                                rotate_left
                                · simp only [Act.put, List.setIfInBounds_toArray, List.set_cons_zero, List.set_cons_succ, i64_w, i32_w]
                                  rfl
                                refine pure_ (i := 6) (N := some 58) (v := ?_) (a' := ?_) #[true, true, true, true, false, true, true, false, false, false, false] rfl rfl (any_of HT_.out (by kernel_rfl)) (fun _ _ _ h => h) (Or.inl ⟨by rfl, ?_⟩) ?_ ?_
                                rotate_left
                                · intro w'
                                  go_simp
                                  with_reducible rfl
                                rotate_left
                                · simp only [Act.put, List.setIfInBounds_toArray, List.set_cons_zero, List.set_cons_succ, i64_w, i32_w]
                                  rfl
                                refine pure_ (i := 7) (N := some 59) (v := ?_) (a' := ?_) #[true, true, true, true, false, true, true, true, false, false, false] rfl rfl (any_of HT_.out (by kernel_rfl)) (fun _ _ _ h => h) (Or.inl ⟨by rfl, ?_⟩) ?_ ?_
                                rotate_left
                                · intro w'
                                  go_simp
                                  with_reducible rfl
                                rotate_left
                                · simp only [Act.put, List.setIfInBounds_toArray, List.set_cons_zero, List.set_cons_succ, i64_w, i32_w]
                                  rfl
                                refine pure_ (i := 8) (N := some 60) (v := ?_) (a' := ?_) #[true, true, true, true, false, true, true, true, true, false, false] rfl rfl (any_of HT_.out (by kernel_rfl)) (fun _ _ _ h => h) (Or.inl ⟨by rfl, ?_⟩) ?_ ?_
                                rotate_left
                                · intro w'
                                  go_simp
                                  with_reducible rfl
                                rotate_left
                                · simp only [Act.put, List.setIfInBounds_toArray, List.set_cons_zero, List.set_cons_succ, i64_w, i32_w]
                                  rfl
                                refine take_ (i := 4) (N := some 56) (v := ?_) (a' := ?_) #[true, true, true, true, true, true, true, true, true, false, false] rfl rfl (take_ofW HT_.out HW_.out (by kernel_rfl)) (fun _ _ _ h => h) (Or.inl ⟨by rfl, ?_⟩) hHeld ?_ ?_
                                rotate_left
                                · rintro w' ⟨s0, s1, s2, s3, s4⟩
                                  go_simp
                                  with_reducible rfl
                                rotate_left
                                · simp only [Act.put, List.setIfInBounds_toArray, List.set_cons_zero, List.set_cons_succ, i64_w, i32_w]
                                  rfl
                                refine take_ (i := 9) (N := some 61) (v := ?_) (a' := ?_) #[true, true, true, true, true, true, true, true, true, true, false] rfl rfl (take_ofW HT_.out HW_.out (by kernel_rfl)) (fun _ _ _ h => h) (Or.inl ⟨by rfl, ?_⟩) hHeld ?_ ?_
                                rotate_left
                                · rintro w' ⟨s0, s1, s2, s3, s4⟩
                                  go_simp
                                  with_reducible rfl
                                rotate_left
                                · simp only [Act.put, List.setIfInBounds_toArray, List.set_cons_zero, List.set_cons_succ, i64_w, i32_w]
                                  rfl
                                refine pure_ (i := 10) (N := some 62) (v := ?_) (a' := ?_) #[true, true, true, true, true, true, true, true, true, true, true] rfl rfl (any_of HT_.out (by kernel_rfl)) (fun _ _ _ h => h) (Or.inl ⟨by rfl, ?_⟩) ?_ ?_
                                rotate_left
                                · intro w'
                                  go_simp
                                  with_reducible rfl
                                rotate_left
                                · simp only [Act.put, List.setIfInBounds_toArray, List.set_cons_zero, List.set_cons_succ, i64_w, i32_w]
                                  rfl
                                refine done_ (done_of HT_.out (by kernel_rfl)) ?_
                                try go_wp2
                                go_roundg k3
                                case measure => have := HK1.out; have := HK2.out; have := HK3.out; omega
                                case rel => exact ⟨(x8_3), (wrap64 (x9_3 + 1)), (by first | rfl | (simp; done) | (simp [*]; done)), H', ⟨by have := HK1.out; have := HK2.out; have := HK3.out; omega⟩, ⟨by (with_reducible repeat (first | apply Kd.R_alloc | apply Kd.R_drewN | apply Kd.R_drew)); exact HO_5.out⟩, ⟨by (with_reducible repeat (first | apply Kd.R_alloc | apply Kd.R_drewN | apply Kd.R_drew)); exact HO_8.out⟩, ⟨by repeat (first | (with_reducible first | exact HB.out | apply below_alloc | apply pw_below_drewN | apply below_drew1) | exact HB.out)⟩⟩
                              · rw [if_neg c20] at H
                                have c20b0 : (((rd_T52 t314 x9_3).f0).toList == ((rd_T37 l1 x7_2).f0).toList) = false := beq_eq_false_iff_ne.mpr c20
                                have c20b1 : (((rd_T52 t314 x9_3).f0).toList != ((rd_T37 l1 x7_2).f0).toList) = true := bne_iff_ne.mpr c20
                                by_cases c23 : x8_3.length < 4398046511104
                                · rw [if_pos c23] at H
                                  have LMc23 := Aside0.mk c23
                                  clear c23
                                  obtain ⟨y321, hy321⟩ : ∃ y_ : List (S52), y_ = (x8_3 ++ [(⟨(rd_T52 t314 x9_3).f0, (rd_T52 t314 x9_3).f1⟩ : S52)]) := ⟨_, rfl⟩
                                  replace H : (cellarerref11_With.l2 k3 l1 t314 x7_2 y321 (wrap64 (x9_3 + 1))) = some r := by first | (rw [hy321]; with_reducible exact H) | (have H2_ := (Option.bind_some _ _).symm.trans H; rw [hy321]; with_reducible exact H2_) | (have H2_ := (Option.bind_some _ _).symm.trans H; with_reducible exact H2_) | with_reducible exact H | (rw [hy321]; exact H) | exact H
                                  have Ny321 := Aside0.mk hy321
                                  clear hy321
                                  have H' := Aside0.mk H
                                  clear H
                                  obtain ⟨Ao24, co24, eo24⟩ := Kd.R_slice HO_5.out
                                  subst eo24
                                  try go_wp2
                                  have n0_ := Aside0.mk (Kd.R_drew HO_5.out)
                                  have n1_ := Aside0.mk (Kd.R_drew HO_8.out)
                                  have n2_ := Aside0.mk (below_drew1 HB.out)
                                  clear HO_5
                                  clear HO_8
                                  clear HB
                                  have HO_5 := n0_
                                  have HO_8 := n1_
                                  have HB := n2_
                                  clear n0_ n1_ n2_
                                  have p318 : 0 ≤ (x9_3 : Int) := of_decide_eq_true (by first | (with_reducible assumption) | assumption)
                                  have q318 : x9_3 < (t314.length : Int) := of_decide_eq_true (by first | (with_reducible assumption) | assumption)
                                  obtain ⟨ad318, e318, hx318_0, hx318_1⟩ := at_T52 (Kd.R_reads' HO_5.out).2.2 x9_3 p318 q318
                                  cases e318
                                  replace p318 := eq_true p318
                                  replace q318 := eq_true q318
                                  have p319 : 0 ≤ (x7_2 : Int) := of_decide_eq_true (by first | (with_reducible assumption) | assumption)
                                  have q319 : x7_2 < (l1.length : Int) := of_decide_eq_true (by first | (with_reducible assumption) | assumption)
                                  obtain ⟨ad319, e319, hx319_0, hx319_1, hx319_2⟩ := at_T37 HR1.out x7_2 p319 q319
                                  have hw319_2 := hx319_2
                                  have hw319_1 := hx319_1
                                  have hw319_0 := hx319_0
                                  (try rw [← Nbq11.out] at hx319_2)
                                  (try rw [← Nbq11.out] at hw319_2)
                                  obtain rfl : ad312 = ad319 := (by injection e319)
                                  replace hx319_0 := (HB.out.cell (World.block_lt_of_cell? w _ hx319_0)).trans hx319_0
                                  replace hx319_1 := (HB.out.cell (World.block_lt_of_cell? w _ hx319_1)).trans hx319_1
                                  replace hx319_2 := (HB.out.cell (World.block_lt_of_cell? w _ hx319_2)).trans hx319_2
                                  replace p319 := eq_true p319
                                  replace q319 := eq_true q319
                                  refine start_ (n := 11) (S := fun w' => w'.cell? (ad318.add ((x9_3).toNat * 2)) = some (.string ((rd_T52 t314 x9_3).f0)) ∧ w'.cell? ⟨(ad318.add ((x9_3).toNat * 2)).block, (ad318.add ((x9_3).toNat * 2)).off + 1, none⟩ = some (.string ((rd_T52 t314 x9_3).f1)) ∧ w'.cell? (ad312.add ((x7_2).toNat * 3)) = some (.string ((rd_T37 l1 x7_2).f0)) ∧ w'.cell? ⟨(ad312.add ((x7_2).toNat * 3)).block, (ad312.add ((x7_2).toNat * 3)).off + 1, none⟩ = some (.string ((rd_T37 l1 x7_2).f1)) ∧ w'.cell? ⟨(ad312.add ((x7_2).toNat * 3)).block, (ad312.add ((x7_2).toNat * 3)).off + 2, none⟩ = some (.bool (true))) (ds := []) #[false, false, false, false, false, false, false, false, false, false, false] (by kernel_rfl) rfl rfl ⟨hx318_0, hx318_1, ((HB.out.cell (World.block_lt_of_cell? w _ hw319_0)).trans hw319_0), ((HB.out.cell (World.block_lt_of_cell? w _ hw319_1)).trans hw319_1), ((HB.out.cell (World.block_lt_of_cell? w _ hw319_2)).trans hw319_2)⟩ (fun hHeld => ?_); refine with_tabW cellarerref11_With.tab15 cellarerref11_With.bits15 (fun HT_ HW_ => ?_)
                                  generalize wr.drew = w25 at HO_5 HO_8 HB hx318_0 hx318_1 hx319_0 hx319_1 hx319_2 hHeld ⊢
                                  refine pure_ (i := 0) (N := some 52) (v := ?_) (a' := ?_) #[true, false, false, false, false, false, false, false, false, false, false] rfl rfl (any_of HT_.out (by kernel_rfl)) (fun _ _ _ h => h) (Or.inl ⟨by rfl, ?_⟩) ?_ ?_
                                  rotate_left
                                  · intro w'
                                    go_simp
                                    with_reducible rfl
                                  rotate_left
                                  · simp only [Act.put, List.setIfInBounds_toArray, List.set_cons_zero, List.set_cons_succ, i64_w, i32_w]
                                    rfl
                                  refine pure_ (i := 1) (N := some 53) (v := ?_) (a' := ?_) #[true, true, false, false, false, false, false, false, false, false, false] rfl rfl (any_of HT_.out (by kernel_rfl)) (fun _ _ _ h => h) (Or.inl ⟨by rfl, ?_⟩) ?_ ?_
                                  rotate_left
                                  · intro w'
                                    go_simp
                                    with_reducible rfl
                                  rotate_left
                                  · simp only [Act.put, List.setIfInBounds_toArray, List.set_cons_zero, List.set_cons_succ, i64_w, i32_w]
                                    rfl
                                  refine pure_ (i := 2) (N := some 54) (v := ?_) (a' := ?_) #[true, true, true, false, false, false, false, false, false, false, false] rfl rfl (any_of HT_.out (by kernel_rfl)) (fun _ _ _ h => h) (Or.inl ⟨by rfl, ?_⟩) ?_ ?_
                                  rotate_left
                                  · intro w'
                                    go_simp
                                    with_reducible rfl
                                  rotate_left
                                  · simp only [Act.put, List.setIfInBounds_toArray, List.set_cons_zero, List.set_cons_succ, i64_w, i32_w]
                                    rfl
                                  refine pure_ (i := 3) (N := some 55) (v := ?_) (a' := ?_) #[true, true, true, true, false, false, false, false, false, false, false] rfl rfl (any_of HT_.out (by kernel_rfl)) (fun _ _ _ h => h) (Or.inl ⟨by rfl, ?_⟩) ?_ ?_
                                  rotate_left
                                  · intro w'
                                    go_simp
                                    with_reducible rfl
                                  rotate_left
                                  · simp only [Act.put, List.setIfInBounds_toArray, List.set_cons_zero, List.set_cons_succ, i64_w, i32_w]
                                    rfl
                                  refine pure_ (i := 5) (N := some 57) (v := ?_) (a' := ?_) #[true, true, true, true, false, true, false, false, false, false, false] rfl rfl (any_of HT_.out (by kernel_rfl)) (fun _ _ _ h => h) (Or.inl ⟨by rfl, ?_⟩) ?_ ?_
                                  rotate_left
                                  · intro w'
                                    go_simp
                                    with_reducible rfl
                                  rotate_left
                                  · simp only [Act.put, List.setIfInBounds_toArray, List.set_cons_zero, List.set_cons_succ, i64_w, i32_w]
                                    rfl
                                  refine pure_ (i := 6) (N := some 58) (v := ?_) (a' := ?_) #[true, true, true, true, false, true, true, false, false, false, false] rfl rfl (any_of HT_.out (by kernel_rfl)) (fun _ _ _ h => h) (Or.inl ⟨by rfl, ?_⟩) ?_ ?_
                                  rotate_left
                                  · intro w'
                                    go_simp
                                    with_reducible rfl
                                  rotate_left
                                  · simp only [Act.put, List.setIfInBounds_toArray, List.set_cons_zero, List.set_cons_succ, i64_w, i32_w]
                                    rfl
                                  refine pure_ (i := 7) (N := some 59) (v := ?_) (a' := ?_) #[true, true, true, true, false, true, true, true, false, false, false] rfl rfl (any_of HT_.out (by kernel_rfl)) (fun _ _ _ h => h) (Or.inl ⟨by rfl, ?_⟩) ?_ ?_
                                  rotate_left
                                  · intro w'
                                    go_simp
                                    with_reducible rfl
                                  rotate_left
                                  · simp only [Act.put, List.setIfInBounds_toArray, List.set_cons_zero, List.set_cons_succ, i64_w, i32_w]
                                    rfl
                                  refine pure_ (i := 8) (N := some 60) (v := ?_) (a' := ?_) #[true, true, true, true, false, true, true, true, true, false, false] rfl rfl (any_of HT_.out (by kernel_rfl)) (fun _ _ _ h => h) (Or.inl ⟨by rfl, ?_⟩) ?_ ?_
                                  rotate_left
                                  · intro w'
                                    go_simp
                                    with_reducible rfl
                                  rotate_left
                                  · simp only [Act.put, List.setIfInBounds_toArray, List.set_cons_zero, List.set_cons_succ, i64_w, i32_w]
                                    rfl
                                  refine take_ (i := 4) (N := some 56) (v := ?_) (a' := ?_) #[true, true, true, true, true, true, true, true, true, false, false] rfl rfl (take_ofW HT_.out HW_.out (by kernel_rfl)) (fun _ _ _ h => h) (Or.inl ⟨by rfl, ?_⟩) hHeld ?_ ?_
                                  rotate_left
                                  · rintro w' ⟨s0, s1, s2, s3, s4⟩
                                    go_simp
                                    with_reducible rfl
                                  rotate_left
                                  · simp only [Act.put, List.setIfInBounds_toArray, List.set_cons_zero, List.set_cons_succ, i64_w, i32_w]
                                    rfl
                                  refine take_ (i := 9) (N := some 61) (v := ?_) (a' := ?_) #[true, true, true, true, true, true, true, true, true, true, false] rfl rfl (take_ofW HT_.out HW_.out (by kernel_rfl)) (fun _ _ _ h => h) (Or.inl ⟨by rfl, ?_⟩) hHeld ?_ ?_
                                  rotate_left
                                  · rintro w' ⟨s0, s1, s2, s3, s4⟩
                                    go_simp
                                    with_reducible rfl
                                  rotate_left
                                  · simp only [Act.put, List.setIfInBounds_toArray, List.set_cons_zero, List.set_cons_succ, i64_w, i32_w]
                                    rfl
                                  refine pure_ (i := 10) (N := some 62) (v := ?_) (a' := ?_) #[true, true, true, true, true, true, true, true, true, true, true] rfl rfl (any_of HT_.out (by kernel_rfl)) (fun _ _ _ h => h) (Or.inl ⟨by rfl, ?_⟩) ?_ ?_
                                  rotate_left
                                  · intro w'
                                    go_simp
                                    with_reducible rfl
                                  rotate_left
                                  · simp only [Act.put, List.setIfInBounds_toArray, List.set_cons_zero, List.set_cons_succ, i64_w, i32_w]
                                    rfl
                                  refine done_ (done_of HT_.out (by kernel_rfl)) ?_
                                  have p320 : 0 ≤ (x9_3 : Int) := of_decide_eq_true (by first | (with_reducible assumption) | assumption)
                                  have q320 : x9_3 < (t314.length : Int) := of_decide_eq_true (by first | (with_reducible assumption) | assumption)
                                  obtain ⟨ad320, e320, hx320_0, hx320_1⟩ := at_T52 (Kd.R_reads' HO_5.out).2.2 x9_3 p320 q320
                                  obtain rfl : ad318 = ad320 := (by injection e320)
                                  replace p320 := eq_true p320
                                  replace q320 := eq_true q320
                                  try go_wp2_with (first | ((with_reducible refine gate_builtin (b := .append) (xs := #[.tmp 63, .tmp 68]) rfl ?_); at_builtin; refine Kd.R_append k52 (w0 := w) w.heap.size rfl (.tmp 63) (.tmp 68) 45 52 (.agg #[(.string ⟨#[]⟩), (.string ⟨#[]⟩)]) 32 rfl Try.underlying45 info52 rfl (by decide) (by omega) u8 x8_3 (⟨(rd_T52 t314 x9_3).f0, (rd_T52 t314 x9_3).f1⟩ : S52) [.string ((rd_T52 t314 x9_3).f0), .string ((rd_T52 t314 x9_3).f1)] (fun k_ => some k_ ≠ (.slice (some ad318) t314.length co24 : Value).ownBlock) (fun _ => False) rfl rfl ?aP (fun _ hk => hk.elim) ?aF ?aO ?aB ?aS ?aL ?_; (case aP => exact k52_mkM _ _ _ (⟨(rd_T52 t314 x9_3).f0, (rd_T52 t314 x9_3).f1⟩ : S52)); (case aB => exact (by repeat (first | (with_reducible first | exact HB.out | apply below_alloc | apply pw_below_drewN | apply below_drew1) | exact HB.out))); (case aF => exact (fun k_ hk => Kd.fresh' (Kd.R_lt (by (with_reducible repeat (first | apply Kd.R_alloc | apply Kd.R_drewN | apply Kd.R_drew)); exact HO_5.out)) k_ hk)); (case aO => exact (by (with_reducible repeat (first | apply Kd.R_alloc | apply Kd.R_drewN | apply Kd.R_drew)); exact HO_8.out)); (case aS => exact (below_size (by repeat (first | (with_reducible first | exact HB.out | apply below_alloc | apply pw_below_drewN | apply below_drew1) | exact HB.out)))); (case aL => have := LMc23.out; omega); intro v322 w26 ho hb hg hat; rw [← Ny321.out] at ho; have n0_ := Aside0.mk (Kd.R_after (ok := (fun _ => True)) (by (with_reducible repeat (first | apply Kd.R_alloc | apply Kd.R_drewN | apply Kd.R_drew)); exact Kd.R_mono HO_5.out (fun _ hk => ⟨trivial, hk⟩)) hg hat); have n1_ := Aside0.mk (hb); have n2_ := Aside0.mk (ho); clear HO_5; clear HB; clear HO_8; have HO_5 := n0_; have HB := n1_; have HO323 := n2_; clear n0_ n1_ n2_; clear ho hb hg hat))
                                  go_roundg k3
                                  case measure => have := HK1.out; have := HK2.out; have := HK3.out; omega
                                  case rel => exact ⟨(y321), (wrap64 (x9_3 + 1)), (by first | rfl | (simp; done) | (simp [*]; done)), H', ⟨by have := HK1.out; have := HK2.out; have := HK3.out; omega⟩, ⟨by (with_reducible repeat (first | apply Kd.R_alloc | apply Kd.R_drewN | apply Kd.R_drew)); exact Kd.R_mono HO_5.out (fun _ hk => hk.2)⟩, ⟨by (with_reducible repeat (first | apply Kd.R_alloc | apply Kd.R_drewN | apply Kd.R_drew)); exact HO323.out⟩, ⟨by repeat (first | (with_reducible first | exact HB.out | apply below_alloc | apply pw_below_drewN | apply below_drew1) | exact HB.out)⟩⟩
                                · rw [if_neg c23] at H
                                  exact absurd H (by simp)
                            · rw [if_neg c19] at H
                              exact absurd H (by simp)
                          · rw [if_neg c18] at H
                            exact absurd H (by simp)
                        · rw [if_neg c17] at H
                          exact absurd H (by simp)
                      · rw [if_neg c16] at H
                        have c16b0 : decide (x9_3 < (t314.length : Int)) = false := decide_eq_false c16
                        clear c16
                        have H' := Aside0.mk H
                        clear H
                        obtain ⟨Ao27, co27, eo27⟩ := Kd.R_slice HO_5.out
                        subst eo27
                        go_wp2
                        go_roundg k3
                        case measure => have := HK1.out; have := HK2.out; have := HK3.out; omega
                        case rel => exact ⟨(x8_3), (wrap64 (x7_2 + 1)), (by first | rfl | (simp; done) | (simp [*]; done)), H', ⟨by have := HK1.out; have := HK2.out; have := HK3.out; omega⟩, ⟨by (with_reducible repeat (first | apply Kd.R_alloc | apply Kd.R_drewN | apply Kd.R_drew)); exact Kd.R_mono HO_8.out (fun _ hk => trivial)⟩, ⟨by repeat (first | (with_reducible first | exact HB.out | apply below_alloc | apply pw_below_drewN | apply below_drew1) | exact HB.out)⟩⟩
                · replace c12 := Bool.eq_false_iff.mpr c12
                  subst c12
                  have H1 : (cellarerref11_With.l1 k2 l1 t314 (wrap64 (x7_2 + 1))) = some r := by rw [if_neg (show ¬ (false = true) by decide)] at H; exact H
                  clear H
                  have H := H1
                  clear H1
                  have H' := Aside0.mk H
                  clear H
                  try go_wp2
                  have n0_ := Aside0.mk (Kd.R_drew HO_5.out)
                  have n1_ := Aside0.mk (below_drew1 HB.out)
                  clear HO_5
                  clear HB
                  have HO_5 := n0_
                  have HB := n1_
                  clear n0_ n1_
                  have p312 : 0 ≤ (x7_2 : Int) := of_decide_eq_true (by first | (with_reducible assumption) | assumption)
                  have q312 : x7_2 < (l1.length : Int) := of_decide_eq_true (by first | (with_reducible assumption) | assumption)
                  obtain ⟨ad312, e312, hx312_0, hx312_1, hx312_2⟩ := at_T37 HR1.out x7_2 p312 q312
                  have hw312_2 := hx312_2
                  have hw312_1 := hx312_1
                  have hw312_0 := hx312_0
                  (try rw [← Nbq11.out] at hx312_2)
                  (try rw [← Nbq11.out] at hw312_2)
                  cases e312
                  replace hx312_0 := (HB.out.cell (World.block_lt_of_cell? w _ hx312_0)).trans hx312_0
                  replace hx312_1 := (HB.out.cell (World.block_lt_of_cell? w _ hx312_1)).trans hx312_1
                  replace hx312_2 := (HB.out.cell (World.block_lt_of_cell? w _ hx312_2)).trans hx312_2
                  replace p312 := eq_true p312
                  replace q312 := eq_true q312
                  have p313 : 0 ≤ (x7_2 : Int) := of_decide_eq_true (by first | (with_reducible assumption) | assumption)
                  have q313 : x7_2 < (l1.length : Int) := of_decide_eq_true (by first | (with_reducible assumption) | assumption)
                  obtain ⟨ad313, e313, hx313_0, hx313_1, hx313_2⟩ := at_T37 HR1.out x7_2 p313 q313
                  have hw313_2 := hx313_2
                  have hw313_1 := hx313_1
                  have hw313_0 := hx313_0
                  (try rw [← Nbq11.out] at hx313_2)
                  (try rw [← Nbq11.out] at hw313_2)
                  obtain rfl : ad312 = ad313 := (by injection e313)
                  replace hx313_0 := (HB.out.cell (World.block_lt_of_cell? w _ hx313_0)).trans hx313_0
                  replace hx313_1 := (HB.out.cell (World.block_lt_of_cell? w _ hx313_1)).trans hx313_1
                  replace hx313_2 := (HB.out.cell (World.block_lt_of_cell? w _ hx313_2)).trans hx313_2
                  replace p313 := eq_true p313
                  replace q313 := eq_true q313
                  obtain ⟨Ao29, co29, eo29⟩ := Kd.R_slice HO_5.out
                  (first | subst eo29 | (injection eo29 with f1_ f2_ f3_; have f4_ := f1_.symm; have f5_ := f3_.symm; clear f1_ f2_ f3_; subst f4_; subst f5_))
                  refine start_ (n := 14) (S := fun w' => w'.cell? (ad312.add ((x7_2).toNat * 3)) = some (.string ((rd_T37 l1 x7_2).f0)) ∧ w'.cell? ⟨(ad312.add ((x7_2).toNat * 3)).block, (ad312.add ((x7_2).toNat * 3)).off + 1, none⟩ = some (.string ((rd_T37 l1 x7_2).f1)) ∧ w'.cell? ⟨(ad312.add ((x7_2).toNat * 3)).block, (ad312.add ((x7_2).toNat * 3)).off + 2, none⟩ = some (.bool false) ∧ w'.cell? (ad312.add ((x7_2).toNat * 3)) = some (.string ((rd_T37 l1 x7_2).f0)) ∧ w'.cell? ⟨(ad312.add ((x7_2).toNat * 3)).block, (ad312.add ((x7_2).toNat * 3)).off + 1, none⟩ = some (.string ((rd_T37 l1 x7_2).f1)) ∧ w'.cell? ⟨(ad312.add ((x7_2).toNat * 3)).block, (ad312.add ((x7_2).toNat * 3)).off + 2, none⟩ = some (.bool false)) (ds := []) #[false, false, false, false, false, false, false, false, false, false, false, false, false, false] (by kernel_rfl) rfl rfl ⟨((HB.out.cell (World.block_lt_of_cell? w _ hw312_0)).trans hw312_0), ((HB.out.cell (World.block_lt_of_cell? w _ hw312_1)).trans hw312_1), ((HB.out.cell (World.block_lt_of_cell? w _ hw312_2)).trans hw312_2), ((HB.out.cell (World.block_lt_of_cell? w _ hw313_0)).trans hw313_0), ((HB.out.cell (World.block_lt_of_cell? w _ hw313_1)).trans hw313_1), ((HB.out.cell (World.block_lt_of_cell? w _ hw313_2)).trans hw313_2)⟩ (fun hHeld => ?_); refine with_tabW cellarerref11_With.tab9 cellarerref11_With.bits9 (fun HT_ HW_ => ?_)
                  generalize wr.drew = w28 at HO_5 HB hx312_0 hx312_1 hx312_2 hx313_0 hx313_1 hx313_2 hHeld ⊢
                  refine pure_ (i := 0) (N := some 28) (v := ?_) (a' := ?_) #[true, false, false, false, false, false, false, false, false, false, false, false, false, false] rfl rfl (any_of HT_.out (by kernel_rfl)) (fun _ _ _ h => h) (Or.inl ⟨by rfl, ?_⟩) ?_ ?_
                  rotate_left
                  · intro w'
                    go_simp
                    with_reducible rfl
                  rotate_left
                  · simp only [Act.put, List.setIfInBounds_toArray, List.set_cons_zero, List.set_cons_succ, i64_w, i32_w]
                    rfl
                  refine pure_ (i := 1) (N := some 29) (v := ?_) (a' := ?_) #[true, true, false, false, false, false, false, false, false, false, false, false, false, false] rfl rfl (any_of HT_.out (by kernel_rfl)) (fun _ _ _ h => h) (Or.inl ⟨by rfl, ?_⟩) ?_ ?_
                  rotate_left
                  · intro w'
                    go_simp
                    with_reducible rfl
                  rotate_left
                  · simp only [Act.put, List.setIfInBounds_toArray, List.set_cons_zero, List.set_cons_succ, i64_w, i32_w]
                    rfl
                  refine pure_ (i := 2) (N := some 30) (v := ?_) (a' := ?_) #[true, true, true, false, false, false, false, false, false, false, false, false, false, false] rfl rfl (any_of HT_.out (by kernel_rfl)) (fun _ _ _ h => h) (Or.inl ⟨by rfl, ?_⟩) ?_ ?_
                  rotate_left
                  · intro w'
                    go_simp
                    with_reducible rfl
                  rotate_left
                  · simp only [Act.put, List.setIfInBounds_toArray, List.set_cons_zero, List.set_cons_succ, i64_w, i32_w]
                    rfl
                  refine pure_ (i := 3) (N := some 31) (v := ?_) (a' := ?_) #[true, true, true, true, false, false, false, false, false, false, false, false, false, false] rfl rfl (any_of HT_.out (by kernel_rfl)) (fun _ _ _ h => h) (Or.inl ⟨by rfl, ?_⟩) ?_ ?_
                  rotate_left
                  · intro w'
                    go_simp
                    with_reducible rfl
                  rotate_left
                  · simp only [Act.put, List.setIfInBounds_toArray, List.set_cons_zero, List.set_cons_succ, i64_w, i32_w]
                    rfl
                  refine pure_ (i := 4) (N := some 32) (v := ?_) (a' := ?_) #[true, true, true, true, true, false, false, false, false, false, false, false, false, false] rfl rfl (any_of HT_.out (by kernel_rfl)) (fun _ _ _ h => h) (Or.inl ⟨by rfl, ?_⟩) ?_ ?_
                  rotate_left
                  · intro w'
                    go_simp
                    with_reducible rfl
                  rotate_left
                  · simp only [Act.put, List.setIfInBounds_toArray, List.set_cons_zero, List.set_cons_succ, i64_w, i32_w]
                    rfl
                  refine pure_ (i := 6) (N := some 34) (v := ?_) (a' := ?_) #[true, true, true, true, true, false, true, false, false, false, false, false, false, false] rfl rfl (any_of HT_.out (by kernel_rfl)) (fun _ _ _ h => h) (Or.inl ⟨by rfl, ?_⟩) ?_ ?_
                  rotate_left
                  · intro w'
                    go_simp
                    with_reducible rfl
                  rotate_left
                  · simp only [Act.put, List.setIfInBounds_toArray, List.set_cons_zero, List.set_cons_succ, i64_w, i32_w]
                    rfl
                  refine pure_ (i := 7) (N := some 35) (v := ?_) (a' := ?_) #[true, true, true, true, true, false, true, true, false, false, false, false, false, false] rfl rfl (any_of HT_.out (by kernel_rfl)) (fun _ _ _ h => h) (Or.inl ⟨by rfl, ?_⟩) ?_ ?_
                  rotate_left
                  · intro w'
                    go_simp
                    with_reducible rfl
                  rotate_left
                  · simp only [Act.put, List.setIfInBounds_toArray, List.set_cons_zero, List.set_cons_succ, i64_w, i32_w]
                    rfl
                  refine pure_ (i := 8) (N := some 36) (v := ?_) (a' := ?_) #[true, true, true, true, true, false, true, true, true, false, false, false, false, false] rfl rfl (any_of HT_.out (by kernel_rfl)) (fun _ _ _ h => h) (Or.inl ⟨by rfl, ?_⟩) ?_ ?_
                  rotate_left
                  · intro w'
                    go_simp
                    with_reducible rfl
                  rotate_left
                  · simp only [Act.put, List.setIfInBounds_toArray, List.set_cons_zero, List.set_cons_succ, i64_w, i32_w]
                    rfl
                  refine pure_ (i := 9) (N := some 37) (v := ?_) (a' := ?_) #[true, true, true, true, true, false, true, true, true, true, false, false, false, false] rfl rfl (any_of HT_.out (by kernel_rfl)) (fun _ _ _ h => h) (Or.inl ⟨by rfl, ?_⟩) ?_ ?_
                  rotate_left
                  · intro w'
                    go_simp
                    with_reducible rfl
                  rotate_left
                  · simp only [Act.put, List.setIfInBounds_toArray, List.set_cons_zero, List.set_cons_succ, i64_w, i32_w]
                    rfl
                  refine take_ (i := 5) (N := some 33) (v := ?_) (a' := ?_) #[true, true, true, true, true, true, true, true, true, true, false, false, false, false] rfl rfl (take_ofW HT_.out HW_.out (by kernel_rfl)) (fun _ _ _ h => h) (Or.inl ⟨by rfl, ?_⟩) hHeld ?_ ?_
                  rotate_left
                  · rintro w' ⟨s0, s1, s2, s3, s4, s5⟩
                    go_simp
                    with_reducible rfl
                  rotate_left
                  · simp only [Act.put, List.setIfInBounds_toArray, List.set_cons_zero, List.set_cons_succ, i64_w, i32_w]
                    rfl
                  refine take_ (i := 10) (N := some 38) (v := ?_) (a' := ?_) #[true, true, true, true, true, true, true, true, true, true, true, false, false, false] rfl rfl (take_ofW HT_.out HW_.out (by kernel_rfl)) (fun _ _ _ h => h) (Or.inl ⟨by rfl, ?_⟩) hHeld ?_ ?_
                  rotate_left
                  · rintro w' ⟨s0, s1, s2, s3, s4, s5⟩
                    go_simp
                    with_reducible rfl
                  rotate_left
                  · simp only [Act.put, List.setIfInBounds_toArray, List.set_cons_zero, List.set_cons_succ, i64_w, i32_w]
                    rfl
                  refine pure_ (i := 11) (N := some 39) (v := ?_) (a' := ?_) #[true, true, true, true, true, true, true, true, true, true, true, true, false, false] rfl rfl (any_of HT_.out (by kernel_rfl)) (fun _ _ _ h => h) (Or.inl ⟨by rfl, ?_⟩) ?_ ?_
                  rotate_left
                  · intro w'
                    go_simp
                    with_reducible rfl
                  rotate_left
                  · simp only [Act.put, List.setIfInBounds_toArray, List.set_cons_zero, List.set_cons_succ, i64_w, i32_w]
                    rfl
                  refine one_ (i := 12) (N := some 40) #[true, true, true, true, true, true, true, true, true, true, true, true, true, false] rfl rfl (one_of HT_.out (by kernel_rfl)) (by decide) (fun K hK => ?_)
                  refine goes_ Try.func49 (by kernel_rfl) rfl #[.slice Ao29 x5_2.length co29, .agg #[.string ((rd_T37 l1 x7_2).f0), .string ((rd_T37 l1 x7_2).f1)]] (by rfl) rfl rfl (by (try simp only [List.map_toArray, List.map_cons, List.map_nil]); first | done | rfl | (simp only [List.length_drop, List.length_take]; rfl)) ?_
                  with_reducible refine (cellarerref11_in.calls k2 _ _ x5_2 ((rd_T37 l1 x7_2).f0) ((rd_T37 l1 x7_2).f1) t314 _ ?side1 ?side2 A10.out).mono ?_
                  (case side1 => repeat (first | exact (Kd.R_reads' HO_5.out).2.2 | (with_reducible refine Kd.C_alloc ?_ _) | (with_reducible refine Kd.C_drewN ?_ _) | (with_reducible refine Kd.C_drew ?_)))
                  (case side2 => exact (Kd.R_reads' HO_5.out).2.1)
                  rintro e w30 ⟨v315, rfl, ho0, hb⟩
                  refine ⟨_, rfl, ?_⟩
                  have n0_ := Aside0.mk (Kd.R_elder' (by (with_reducible repeat (first | apply Kd.R_alloc | apply Kd.R_drewN | apply Kd.R_drew)); exact HO_5.out) (Kd.R_base ho0) hb)
                  have n1_ := Aside0.mk (Kd.R_lower (Kd.R_new' ho0 (Kd.R_lt (by (with_reducible repeat (first | apply Kd.R_alloc | apply Kd.R_drewN | apply Kd.R_drew)); exact HO_5.out))) (below_size (by repeat (first | (with_reducible first | exact HB.out | apply below_alloc | apply pw_below_drewN | apply below_drew1) | exact HB.out))))
                  have n2_ := Aside0.mk (below_step (by repeat (first | (with_reducible first | exact HB.out | apply below_alloc | apply pw_below_drewN | apply below_drew1) | exact HB.out)) hb)
                  clear HO_5
                  clear HB
                  have HO_5 := n0_
                  have HO316 := n1_
                  have HB := n2_
                  clear n0_ n1_ n2_
                  (try clear hb)
                  (try clear hb2)
                  (try clear hk)
                  (try clear hi)
                  (try clear ho0)
                  refine hK.out _ _ ⟨((HB.out.cell (World.block_lt_of_cell? w _ hw312_0)).trans hw312_0), ((HB.out.cell (World.block_lt_of_cell? w _ hw312_1)).trans hw312_1), ((HB.out.cell (World.block_lt_of_cell? w _ hw312_2)).trans hw312_2), ((HB.out.cell (World.block_lt_of_cell? w _ hw313_0)).trans hw313_0), ((HB.out.cell (World.block_lt_of_cell? w _ hw313_1)).trans hw313_1), ((HB.out.cell (World.block_lt_of_cell? w _ hw313_2)).trans hw313_2)⟩ (fun hHeld => ?_)
                  clear hK K
                  refine norm_ (a' := ?_) ?_ ?_
                  rotate_left
                  · show Act.put _ (some 40) _ = _
                    simp only [Act.put, List.setIfInBounds_toArray, List.set_cons_zero, List.set_cons_succ, i64_w, i32_w]
                    rfl
                  refine pure_ (i := 13) (N := some 5) (v := ?_) (a' := ?_) #[true, true, true, true, true, true, true, true, true, true, true, true, true, true] rfl rfl (any_of HT_.out (by kernel_rfl)) (fun _ _ _ h => h) (Or.inl ⟨by rfl, ?_⟩) ?_ ?_
                  rotate_left
                  · intro w'
                    go_simp
                    with_reducible rfl
                  rotate_left
                  · simp only [Act.put, List.setIfInBounds_toArray, List.set_cons_zero, List.set_cons_succ, i64_w, i32_w]
                    rfl
                  refine done_ (done_of HT_.out (by kernel_rfl)) ?_
                  have p317 : 0 ≤ (x7_2 : Int) := of_decide_eq_true (by first | (with_reducible assumption) | assumption)
                  have q317 : x7_2 < (l1.length : Int) := of_decide_eq_true (by first | (with_reducible assumption) | assumption)
                  obtain ⟨ad317, e317, hx317_0, hx317_1, hx317_2⟩ := at_T37 HR1.out x7_2 p317 q317
                  (try rw [← Nbq11.out] at hx317_2)
                  (try rw [← Nbq11.out] at hw317_2)
                  obtain rfl : ad312 = ad317 := (by injection e317)
                  replace hx317_0 := (HB.out.cell (World.block_lt_of_cell? w _ hx317_0)).trans hx317_0
                  replace hx317_1 := (HB.out.cell (World.block_lt_of_cell? w _ hx317_1)).trans hx317_1
                  replace hx317_2 := (HB.out.cell (World.block_lt_of_cell? w _ hx317_2)).trans hx317_2
                  replace p317 := eq_true p317
                  replace q317 := eq_true q317
                  try go_wp2
                  go_roundg k2
                  case measure => have := HK1.out; have := HK2.out; omega
                  case rel => exact ⟨(t314), (wrap64 (x7_2 + 1)), (by first | rfl | (simp; done) | (simp [*]; done)), H', ⟨by have := HK1.out; have := HK2.out; omega⟩, ⟨by (with_reducible repeat (first | apply Kd.R_alloc | apply Kd.R_drewN | apply Kd.R_drew)); exact Kd.R_mono HO316.out (fun _ hk => trivial)⟩, ⟨by repeat (first | (with_reducible first | exact HB.out | apply below_alloc | apply pw_below_drewN | apply below_drew1) | exact HB.out)⟩⟩
              · rw [if_neg c9] at H
                exact absurd H (by simp)
            · rw [if_neg c8] at H
              have c8b0 : decide (x7_2 < (l1.length : Int)) = false := decide_eq_false c8
              clear c8
              obtain rfl := Option.some.inj H
              go_wp2
              go_ret
              exact ⟨_, by first | rfl | (simp [errW_none, errW_some] <;> rfl) | (simp [*, errW_none, errW_some] <;> rfl), by (with_reducible repeat (first | apply Kd.R_alloc | apply Kd.R_drewN | apply Kd.R_drew)); exact HO_5.out, by repeat (first | (with_reducible first | exact HB.out | apply below_alloc | apply pw_below_drewN | apply below_drew1) | exact HB.out)⟩

end Go.Proofs.Ytipahpkdddijmaa.Q

-- L7
namespace Go.Proofs.Ytipahpkdddijmaa.Q
open Go.RowKit Go.Proofs.YtipahpkdddijmaaW.PrintWords Go.Proofs.YtipahpkdddijmaaW.PrintLast Go.Proofs.YtipahpkdddijmaaW.PrintMore
attribute [local go_sem] max2_int min2_int max_two min_two max_three min_three max_four min_four   -- for this text's walks alone
set_option linter.unusedVariables false
set_option linter.unusedSimpArgs false

/-! ### cellarerlaw12_ChangeGoes: function 9 -/
def cellarerlaw12_ChangeGoes.f (k : Nat) (l0 : List (S39)) (l1 : List (S37)) : Option (Bool) := (cellarerlaw12_Few.f l0).bind fun t324 => ((cellarerlaw11_Changes.f l1).bind fun t327 => ((change_Last.f t324).bind fun t330 => (if t330 = 18446744073709551615 then ((cellarerlaw12_awake.f).bind fun t331 => (some t331)) else ((some (([] : List (S39)) : List (S39))).bind fun y332 => (if y332.length + t324.length < 2932031007402 then ((some (y332 ++ t324 : List (S39))).bind fun y335 => ((change_Stamped.f k t327 (IntKind.u64.wrap (t330 + 1))).bind fun t338 => (if y335.length + t338.length < 2932031007402 then ((change_Items.f (y335 ++ t338)).bind fun t344 => ((change_Items.f t324).bind fun t347 => ((cellarerref11_With.f k t347 t327).bind fun t350 => ((cellarerref11_Same.f k t344 t350).bind fun t353 => (if t353 = true then ((cellarerlaw12_awake.f).bind fun t354 => (some t354)) else (some false)))))) else (none)))) else (none))))))
theorem cellarerlaw12_ChangeGoes.mono : ∀ a0 a1 k, LeO (cellarerlaw12_ChangeGoes.f k a0 a1) (cellarerlaw12_ChangeGoes.f (k + 1) a0 a1) := by
  intro a0 a1 k
  unfold cellarerlaw12_ChangeGoes.f
  repeat' first
      | (with_reducible exact cellarerref11_Same.mono _ _ _)
      | (with_reducible exact cellarerref11_With.mono _ _ _)
      | (with_reducible exact change_Stamped.mono _ _ _)
      | (with_reducible exact LeO.refl _)
      | (with_reducible exact LeO.none _)
      | (with_reducible refine LeO.ite ?_ ?_)
      | (with_reducible refine LeO.bind ?_ (fun _ => ?_))
      | exact cellarerref11_Same.mono _ _ _
      | exact cellarerref11_With.mono _ _ _
      | exact change_Stamped.mono _ _ _
      | exact LeO.none _
      | refine LeO.ite ?_ ?_
      | refine LeO.bind ?_ (fun _ => ?_)
set_option maxHeartbeats 8000000 in
set_option maxRecDepth 100000 in
theorem cellarerlaw12_ChangeGoes.calls (k : Nat) (A0 : Option Addr) (c0 : Nat) (l0 : List (S39)) (A1 : Option Addr) (c1 : Nat) (l1 : List (S37)) (r : Bool) (w : World) (hr0 : Kd.C k39 w A0 l0.length l0) (hc0 : l0.length ≤ c0) (hr1 : Kd.C k37 w A1 l1.length l1) (hc1 : l1.length ≤ c1) (h : cellarerlaw12_ChangeGoes.f k l0 l1 = some r) :
    Calls Try.prog 9 #[.slice A0 l0.length c0, .slice A1 l1.length c1] w fun e w' => e = .returned (.bool r) ∧ Below w.heap.size w w' := by
  have HR0 := Aside0.mk hr0
  have HC0 := Aside0.mk hc0
  clear hr0 hc0
  have HR1 := Aside0.mk hr1
  have HC1 := Aside0.mk hc1
  clear hr1 hc1
  have HB := Aside0.mk (Below.refl w.heap.size w)
  have H : ((cellarerlaw12_Few.f l0).bind fun t324 => ((cellarerlaw11_Changes.f l1).bind fun t327 => ((change_Last.f t324).bind fun t330 => (if t330 = 18446744073709551615 then ((cellarerlaw12_awake.f).bind fun t331 => (some t331)) else ((some (([] : List (S39)) : List (S39))).bind fun y332 => (if y332.length + t324.length < 2932031007402 then ((some (y332 ++ t324 : List (S39))).bind fun y335 => ((change_Stamped.f k t327 (IntKind.u64.wrap (t330 + 1))).bind fun t338 => (if y335.length + t338.length < 2932031007402 then ((change_Items.f (y335 ++ t338)).bind fun t344 => ((change_Items.f t324).bind fun t347 => ((cellarerref11_With.f k t347 t327).bind fun t350 => ((cellarerref11_Same.f k t344 t350).bind fun t353 => (if t353 = true then ((cellarerlaw12_awake.f).bind fun t354 => (some t354)) else (some false)))))) else (none)))) else (none))))))) = some r := h
  clear h
  replace H := Option.bind_eq_some_iff.mp H
  obtain ⟨t324, A30, H⟩ := H
  replace H : ((cellarerlaw11_Changes.f l1).bind fun t327 => ((change_Last.f t324).bind fun t330 => (if t330 = 18446744073709551615 then ((cellarerlaw12_awake.f).bind fun t331 => (some t331)) else ((some (([] : List (S39)) : List (S39))).bind fun y332 => (if y332.length + t324.length < 2932031007402 then ((some (y332 ++ t324 : List (S39))).bind fun y335 => ((change_Stamped.f k t327 (IntKind.u64.wrap (t330 + 1))).bind fun t338 => (if y335.length + t338.length < 2932031007402 then ((change_Items.f (y335 ++ t338)).bind fun t344 => ((change_Items.f t324).bind fun t347 => ((cellarerref11_With.f k t347 t327).bind fun t350 => ((cellarerref11_Same.f k t344 t350).bind fun t353 => (if t353 = true then ((cellarerlaw12_awake.f).bind fun t354 => (some t354)) else (some false)))))) else (none)))) else (none)))))) = some r := H
  have A3 := Aside0.mk A30
  clear A30
  replace H := Option.bind_eq_some_iff.mp H
  obtain ⟨t327, A40, H⟩ := H
  replace H : ((change_Last.f t324).bind fun t330 => (if t330 = 18446744073709551615 then ((cellarerlaw12_awake.f).bind fun t331 => (some t331)) else ((some (([] : List (S39)) : List (S39))).bind fun y332 => (if y332.length + t324.length < 2932031007402 then ((some (y332 ++ t324 : List (S39))).bind fun y335 => ((change_Stamped.f k t327 (IntKind.u64.wrap (t330 + 1))).bind fun t338 => (if y335.length + t338.length < 2932031007402 then ((change_Items.f (y335 ++ t338)).bind fun t344 => ((change_Items.f t324).bind fun t347 => ((cellarerref11_With.f k t347 t327).bind fun t350 => ((cellarerref11_Same.f k t344 t350).bind fun t353 => (if t353 = true then ((cellarerlaw12_awake.f).bind fun t354 => (some t354)) else (some false)))))) else (none)))) else (none))))) = some r := H
  have A4 := Aside0.mk A40
  clear A40
  replace H := Option.bind_eq_some_iff.mp H
  obtain ⟨t330, A50, H⟩ := H
  replace H : (if t330 = 18446744073709551615 then ((cellarerlaw12_awake.f).bind fun t331 => (some t331)) else ((some (([] : List (S39)) : List (S39))).bind fun y332 => (if y332.length + t324.length < 2932031007402 then ((some (y332 ++ t324 : List (S39))).bind fun y335 => ((change_Stamped.f k t327 (IntKind.u64.wrap (t330 + 1))).bind fun t338 => (if y335.length + t338.length < 2932031007402 then ((change_Items.f (y335 ++ t338)).bind fun t344 => ((change_Items.f t324).bind fun t347 => ((cellarerref11_With.f k t347 t327).bind fun t350 => ((cellarerref11_Same.f k t344 t350).bind fun t353 => (if t353 = true then ((cellarerlaw12_awake.f).bind fun t354 => (some t354)) else (some false)))))) else (none)))) else (none)))) = some r := H
  have A5 := Aside0.mk A50
  clear A50
  by_cases c6 : t330 = 18446744073709551615
  · rw [if_pos c6] at H
    have c6b0 : (t330 == 18446744073709551615) = true := beq_iff_eq.mpr c6
    have c6b1 : (t330 != 18446744073709551615) = false := bne_eq_false_iff_eq.mpr c6
    clear c6
    replace H := Option.bind_eq_some_iff.mp H
    obtain ⟨t331, A70, H⟩ := H
    replace H : (some t331) = some r := H
    have A7 := Aside0.mk A70
    clear A70
    obtain rfl := Option.some.inj H
    go_enter Try.func9, Try.ntmps9
    go_wp2_with (first | ((with_reducible refine gate_callee (f := 10) rfl ?_); refine goesL_ (some 8) rfl rfl Try.func10 (by kernel_rfl) rfl #[.slice A0 l0.length c0] rfl (by (try simp only [List.map_toArray, List.map_cons, List.map_nil]); first | done | rfl | (simp only [List.length_drop, List.length_take]; rfl)) ?_; (with_reducible refine (cellarerlaw12_Few.calls _ _ l0 t324 _ ?side1 ?side2 A3.out).mono ?_); (case side1 => repeat (first | exact HR0.out | (with_reducible refine Kd.C_alloc ?_ _) | (with_reducible refine Kd.C_drewN ?_ _) | (with_reducible refine Kd.C_drew ?_))); (case side2 => exact HC0.out); rintro e w8 ⟨v325, rfl, ho0, hb⟩; refine ⟨_, rfl, ?_⟩; have n0_ := Aside0.mk (Kd.R_lower ho0 (below_size (by repeat (first | (with_reducible first | exact HB.out | apply below_alloc | apply pw_below_drewN | apply below_drew1) | exact HB.out)))); have n1_ := Aside0.mk (below_step (by repeat (first | (with_reducible first | exact HB.out | apply below_alloc | apply pw_below_drewN | apply below_drew1) | exact HB.out)) hb); clear HB; have HO326 := n0_; have HB := n1_; clear n0_ n1_; (try clear hb); (try clear hb2); (try clear hk); (try clear hi); (try clear ho0)) | ((with_reducible refine gate_callee (f := 24) rfl ?_); refine goesL_ (some 10) rfl rfl Try.func24 (by kernel_rfl) rfl #[.slice A1 l1.length c1] rfl (by (try simp only [List.map_toArray, List.map_cons, List.map_nil]); first | done | rfl | (simp only [List.length_drop, List.length_take]; rfl)) ?_; (with_reducible refine (cellarerlaw11_Changes.calls _ _ l1 t327 _ ?side1 ?side2 A4.out).mono ?_); (case side1 => repeat (first | exact (Kd.C_below HR1.out HB.out) | (with_reducible refine Kd.C_alloc ?_ _) | (with_reducible refine Kd.C_drewN ?_ _) | (with_reducible refine Kd.C_drew ?_))); (case side2 => exact HC1.out); rintro e w9 ⟨v328, rfl, ho0, hb⟩; refine ⟨_, rfl, ?_⟩; have n0_ := Aside0.mk (Kd.R_below (by (with_reducible repeat (first | apply Kd.R_alloc | apply Kd.R_drewN | apply Kd.R_drew)); exact HO326.out) hb); have n1_ := Aside0.mk (Kd.R_lower ho0 (below_size (by repeat (first | (with_reducible first | exact HB.out | apply below_alloc | apply pw_below_drewN | apply below_drew1) | exact HB.out)))); have n2_ := Aside0.mk (below_step (by repeat (first | (with_reducible first | exact HB.out | apply below_alloc | apply pw_below_drewN | apply below_drew1) | exact HB.out)) hb); clear HO326; clear HB; have HO326 := n0_; have HO329 := n1_; have HB := n2_; clear n0_ n1_ n2_; (try clear hb); (try clear hb2); (try clear hk); (try clear hi); (try clear ho0); obtain ⟨Ao10, co10, eo10⟩ := Kd.R_slice HO326.out; subst eo10) | ((with_reducible refine gate_callee (f := 23) rfl ?_); refine goesL_ (some 12) rfl rfl Try.func23 (by kernel_rfl) rfl #[.slice Ao10 t324.length co10] rfl (by (try simp only [List.map_toArray, List.map_cons, List.map_nil]); first | done | rfl | (simp only [List.length_drop, List.length_take]; rfl)) ?_; (with_reducible refine (change_Last.calls _ _ t324 t330 _ ?side1 ?side2 A5.out).mono ?_); (case side1 => repeat (first | exact (Kd.R_reads' HO326.out).2.2 | (with_reducible refine Kd.C_alloc ?_ _) | (with_reducible refine Kd.C_drewN ?_ _) | (with_reducible refine Kd.C_drew ?_))); (case side2 => exact (Kd.R_reads' HO326.out).2.1); rintro e w11 ⟨rfl, hb⟩; refine ⟨_, rfl, ?_⟩; have n0_ := Aside0.mk (Kd.R_below (by (with_reducible repeat (first | apply Kd.R_alloc | apply Kd.R_drewN | apply Kd.R_drew)); exact HO326.out) hb); have n1_ := Aside0.mk (Kd.R_below (by (with_reducible repeat (first | apply Kd.R_alloc | apply Kd.R_drewN | apply Kd.R_drew)); exact HO329.out) hb); have n2_ := Aside0.mk (below_step (by repeat (first | (with_reducible first | exact HB.out | apply below_alloc | apply pw_below_drewN | apply below_drew1) | exact HB.out)) hb); clear HO326; clear HO329; clear HB; have HO326 := n0_; have HO329 := n1_; have HB := n2_; clear n0_ n1_ n2_; (try clear hb); (try clear hb2); (try clear hk); (try clear hi)) | ((with_reducible refine gate_callee (f := 18) rfl ?_); refine goesL_ (some 15) rfl rfl Try.func18 (by kernel_rfl) rfl #[] rfl (by (try simp only [List.map_toArray, List.map_cons, List.map_nil]); first | done | rfl | (simp only [List.length_drop, List.length_take]; rfl)) ?_; (with_reducible refine (cellarerlaw12_awake.calls  t331 _ A7.out).mono ?_); rintro e w12 ⟨rfl, hb⟩; refine ⟨_, rfl, ?_⟩; have n0_ := Aside0.mk (Kd.R_below (by (with_reducible repeat (first | apply Kd.R_alloc | apply Kd.R_drewN | apply Kd.R_drew)); exact HO326.out) hb); have n1_ := Aside0.mk (Kd.R_below (by (with_reducible repeat (first | apply Kd.R_alloc | apply Kd.R_drewN | apply Kd.R_drew)); exact HO329.out) hb); have n2_ := Aside0.mk (below_step (by repeat (first | (with_reducible first | exact HB.out | apply below_alloc | apply pw_below_drewN | apply below_drew1) | exact HB.out)) hb); clear HO326; clear HO329; clear HB; have HO326 := n0_; have HO329 := n1_; have HB := n2_; clear n0_ n1_ n2_; (try clear hb); (try clear hb2); (try clear hk); (try clear hi)))
    go_ret
    exact ⟨by first | rfl | (simp [errW_none, errW_some] <;> rfl) | (simp [*, errW_none, errW_some] <;> rfl), by repeat (first | (with_reducible first | exact HB.out | apply below_alloc | apply pw_below_drewN | apply below_drew1) | exact HB.out)⟩
  · rw [if_neg c6] at H
    have c6b0 : (t330 == 18446744073709551615) = false := beq_eq_false_iff_ne.mpr c6
    have c6b1 : (t330 != 18446744073709551615) = true := bne_iff_ne.mpr c6
    obtain ⟨y332, hy332⟩ : ∃ y_ : List (S39), y_ = (([] : List (S39))) := ⟨_, rfl⟩
    replace H : (if y332.length + t324.length < 2932031007402 then ((some (y332 ++ t324 : List (S39))).bind fun y335 => ((change_Stamped.f k t327 (IntKind.u64.wrap (t330 + 1))).bind fun t338 => (if y335.length + t338.length < 2932031007402 then ((change_Items.f (y335 ++ t338)).bind fun t344 => ((change_Items.f t324).bind fun t347 => ((cellarerref11_With.f k t347 t327).bind fun t350 => ((cellarerref11_Same.f k t344 t350).bind fun t353 => (if t353 = true then ((cellarerlaw12_awake.f).bind fun t354 => (some t354)) else (some false)))))) else (none)))) else (none)) = some r := by first | (rw [hy332]; with_reducible exact H) | (have H2_ := (Option.bind_some _ _).symm.trans H; rw [hy332]; with_reducible exact H2_) | (have H2_ := (Option.bind_some _ _).symm.trans H; with_reducible exact H2_) | with_reducible exact H | (rw [hy332]; exact H) | exact H
    have Ny332 := Aside0.mk hy332
    clear hy332
    by_cases c13 : y332.length + t324.length < 2932031007402
    · rw [if_pos c13] at H
      have LMc13 := Aside0.mk c13
      clear c13
      obtain ⟨y335, hy335⟩ : ∃ y_ : List (S39), y_ = (y332 ++ t324) := ⟨_, rfl⟩
      replace H : ((change_Stamped.f k t327 (IntKind.u64.wrap (t330 + 1))).bind fun t338 => (if y335.length + t338.length < 2932031007402 then ((change_Items.f (y335 ++ t338)).bind fun t344 => ((change_Items.f t324).bind fun t347 => ((cellarerref11_With.f k t347 t327).bind fun t350 => ((cellarerref11_Same.f k t344 t350).bind fun t353 => (if t353 = true then ((cellarerlaw12_awake.f).bind fun t354 => (some t354)) else (some false)))))) else (none))) = some r := by first | (rw [hy335]; with_reducible exact H) | (have H2_ := (Option.bind_some _ _).symm.trans H; rw [hy335]; with_reducible exact H2_) | (have H2_ := (Option.bind_some _ _).symm.trans H; with_reducible exact H2_) | with_reducible exact H | (rw [hy335]; exact H) | exact H
      have Ny335 := Aside0.mk hy335
      clear hy335
      replace H := Option.bind_eq_some_iff.mp H
      obtain ⟨t338, A140, H⟩ := H
      replace H : (if y335.length + t338.length < 2932031007402 then ((change_Items.f (y335 ++ t338)).bind fun t344 => ((change_Items.f t324).bind fun t347 => ((cellarerref11_With.f k t347 t327).bind fun t350 => ((cellarerref11_Same.f k t344 t350).bind fun t353 => (if t353 = true then ((cellarerlaw12_awake.f).bind fun t354 => (some t354)) else (some false)))))) else (none)) = some r := H
      have A14 := Aside0.mk A140
      clear A140
      by_cases c15 : y335.length + t338.length < 2932031007402
      · rw [if_pos c15] at H
        have LMc15 := Aside0.mk c15
        clear c15
        obtain ⟨y341, hy341⟩ : ∃ y_ : List (S39), y_ = (y335 ++ t338) := ⟨_, rfl⟩
        replace H : ((change_Items.f y341).bind fun t344 => ((change_Items.f t324).bind fun t347 => ((cellarerref11_With.f k t347 t327).bind fun t350 => ((cellarerref11_Same.f k t344 t350).bind fun t353 => (if t353 = true then ((cellarerlaw12_awake.f).bind fun t354 => (some t354)) else (some false)))))) = some r := by first | (rw [hy341]; with_reducible exact H) | (have H2_ := (Option.bind_some _ _).symm.trans H; rw [hy341]; with_reducible exact H2_) | (have H2_ := (Option.bind_some _ _).symm.trans H; with_reducible exact H2_) | with_reducible exact H | (rw [hy341]; exact H) | exact H
        have Ny341 := Aside0.mk hy341
        clear hy341
        replace H := Option.bind_eq_some_iff.mp H
        obtain ⟨t344, A160, H⟩ := H
        replace H : ((change_Items.f t324).bind fun t347 => ((cellarerref11_With.f k t347 t327).bind fun t350 => ((cellarerref11_Same.f k t344 t350).bind fun t353 => (if t353 = true then ((cellarerlaw12_awake.f).bind fun t354 => (some t354)) else (some false))))) = some r := H
        have A16 := Aside0.mk A160
        clear A160
        replace H := Option.bind_eq_some_iff.mp H
        obtain ⟨t347, A170, H⟩ := H
        replace H : ((cellarerref11_With.f k t347 t327).bind fun t350 => ((cellarerref11_Same.f k t344 t350).bind fun t353 => (if t353 = true then ((cellarerlaw12_awake.f).bind fun t354 => (some t354)) else (some false)))) = some r := H
        have A17 := Aside0.mk A170
        clear A170
        replace H := Option.bind_eq_some_iff.mp H
        obtain ⟨t350, A180, H⟩ := H
        replace H : ((cellarerref11_Same.f k t344 t350).bind fun t353 => (if t353 = true then ((cellarerlaw12_awake.f).bind fun t354 => (some t354)) else (some false))) = some r := H
        have A18 := Aside0.mk A180
        clear A180
        replace H := Option.bind_eq_some_iff.mp H
        obtain ⟨t353, A190, H⟩ := H
        replace H : (if t353 = true then ((cellarerlaw12_awake.f).bind fun t354 => (some t354)) else (some false)) = some r := H
        have A19 := Aside0.mk A190
        clear A190
        by_cases c20 : t353 = true
        · subst c20
          have H1 : ((cellarerlaw12_awake.f).bind fun t354 => (some t354)) = some r := by rw [if_pos rfl] at H; exact H
          clear H
          have H := H1
          clear H1
          replace H := Option.bind_eq_some_iff.mp H
          obtain ⟨t354, A210, H⟩ := H
          replace H : (some t354) = some r := H
          have A21 := Aside0.mk A210
          clear A210
          obtain rfl := Option.some.inj H
          go_enter Try.func9, Try.ntmps9
          go_wp2_with (first | ((with_reducible refine gate_callee (f := 10) rfl ?_); refine goesL_ (some 8) rfl rfl Try.func10 (by kernel_rfl) rfl #[.slice A0 l0.length c0] rfl (by (try simp only [List.map_toArray, List.map_cons, List.map_nil]); first | done | rfl | (simp only [List.length_drop, List.length_take]; rfl)) ?_; (with_reducible refine (cellarerlaw12_Few.calls _ _ l0 t324 _ ?side1 ?side2 A3.out).mono ?_); (case side1 => repeat (first | exact HR0.out | (with_reducible refine Kd.C_alloc ?_ _) | (with_reducible refine Kd.C_drewN ?_ _) | (with_reducible refine Kd.C_drew ?_))); (case side2 => exact HC0.out); rintro e w22 ⟨v325, rfl, ho0, hb⟩; refine ⟨_, rfl, ?_⟩; have n0_ := Aside0.mk (Kd.R_lower ho0 (below_size (by repeat (first | (with_reducible first | exact HB.out | apply below_alloc | apply pw_below_drewN | apply below_drew1) | exact HB.out)))); have n1_ := Aside0.mk (below_step (by repeat (first | (with_reducible first | exact HB.out | apply below_alloc | apply pw_below_drewN | apply below_drew1) | exact HB.out)) hb); clear HB; have HO326 := n0_; have HB := n1_; clear n0_ n1_; (try clear hb); (try clear hb2); (try clear hk); (try clear hi); (try clear ho0)) | ((with_reducible refine gate_callee (f := 24) rfl ?_); refine goesL_ (some 10) rfl rfl Try.func24 (by kernel_rfl) rfl #[.slice A1 l1.length c1] rfl (by (try simp only [List.map_toArray, List.map_cons, List.map_nil]); first | done | rfl | (simp only [List.length_drop, List.length_take]; rfl)) ?_; (with_reducible refine (cellarerlaw11_Changes.calls _ _ l1 t327 _ ?side1 ?side2 A4.out).mono ?_); (case side1 => repeat (first | exact (Kd.C_below HR1.out HB.out) | (with_reducible refine Kd.C_alloc ?_ _) | (with_reducible refine Kd.C_drewN ?_ _) | (with_reducible refine Kd.C_drew ?_))); (case side2 => exact HC1.out); rintro e w23 ⟨v328, rfl, ho0, hb⟩; refine ⟨_, rfl, ?_⟩; have n0_ := Aside0.mk (Kd.R_below (by (with_reducible repeat (first | apply Kd.R_alloc | apply Kd.R_drewN | apply Kd.R_drew)); exact HO326.out) hb); have n1_ := Aside0.mk (Kd.R_lower ho0 (below_size (by repeat (first | (with_reducible first | exact HB.out | apply below_alloc | apply pw_below_drewN | apply below_drew1) | exact HB.out)))); have n2_ := Aside0.mk (below_step (by repeat (first | (with_reducible first | exact HB.out | apply below_alloc | apply pw_below_drewN | apply below_drew1) | exact HB.out)) hb); clear HO326; clear HB; have HO326 := n0_; have HO329 := n1_; have HB := n2_; clear n0_ n1_ n2_; (try clear hb); (try clear hb2); (try clear hk); (try clear hi); (try clear ho0); obtain ⟨Ao24, co24, eo24⟩ := Kd.R_slice HO326.out; subst eo24) | ((with_reducible refine gate_callee (f := 23) rfl ?_); refine goesL_ (some 12) rfl rfl Try.func23 (by kernel_rfl) rfl #[.slice Ao24 t324.length co24] rfl (by (try simp only [List.map_toArray, List.map_cons, List.map_nil]); first | done | rfl | (simp only [List.length_drop, List.length_take]; rfl)) ?_; (with_reducible refine (change_Last.calls _ _ t324 t330 _ ?side1 ?side2 A5.out).mono ?_); (case side1 => repeat (first | exact (Kd.R_reads' HO326.out).2.2 | (with_reducible refine Kd.C_alloc ?_ _) | (with_reducible refine Kd.C_drewN ?_ _) | (with_reducible refine Kd.C_drew ?_))); (case side2 => exact (Kd.R_reads' HO326.out).2.1); rintro e w25 ⟨rfl, hb⟩; refine ⟨_, rfl, ?_⟩; have n0_ := Aside0.mk (Kd.R_below (by (with_reducible repeat (first | apply Kd.R_alloc | apply Kd.R_drewN | apply Kd.R_drew)); exact HO326.out) hb); have n1_ := Aside0.mk (Kd.R_below (by (with_reducible repeat (first | apply Kd.R_alloc | apply Kd.R_drewN | apply Kd.R_drew)); exact HO329.out) hb); have n2_ := Aside0.mk (below_step (by repeat (first | (with_reducible first | exact HB.out | apply below_alloc | apply pw_below_drewN | apply below_drew1) | exact HB.out)) hb); clear HO326; clear HO329; clear HB; have HO326 := n0_; have HO329 := n1_; have HB := n2_; clear n0_ n1_ n2_; (try clear hb); (try clear hb2); (try clear hk); (try clear hi)) | ((with_reducible refine gate_dst (N := 16) rfl ?_); refine Kd.R_lit k39 _ 39 ?hg (N := 16) ?hd (xs := ([] : List (S39))) (inner := []) (ok := fun _ => True) (okp := fun _ => True) ?hr ?hp (fun _ hk => hk) trivial (Below.refl _ _) (Nat.le_refl _) (by simp) ?_; (case hd => rfl); (case hg => rfl); (case hr => first | (go_simp; done) | (go_simp; rfl)); (case hp => exact (Reps.none _ _)); intro v333 w26 ho27 hb hg_ hnew_; clear hg_ hnew_; (first | rw [← Ny332.out] at ho27 | (simp only [Int.reduceToNat] at ho27; rw [← Ny332.out] at ho27)); have n0_ := Aside0.mk (Kd.R_elder' (by (with_reducible repeat (first | apply Kd.R_alloc | apply Kd.R_drewN | apply Kd.R_drew)); exact HO326.out) (Kd.R_base ho27) hb); have n1_ := Aside0.mk (Kd.R_below (by (with_reducible repeat (first | apply Kd.R_alloc | apply Kd.R_drewN | apply Kd.R_drew)); exact HO329.out) hb); have n2_ := Aside0.mk (Kd.R_lower (Kd.R_new' ho27 (Kd.R_lt (by (with_reducible repeat (first | apply Kd.R_alloc | apply Kd.R_drewN | apply Kd.R_drew)); exact HO326.out))) (below_size (by repeat (first | (with_reducible first | exact HB.out | apply below_alloc | apply pw_below_drewN | apply below_drew1) | exact HB.out)))); have n3_ := Aside0.mk (below_step (by repeat (first | (with_reducible first | exact HB.out | apply below_alloc | apply pw_below_drewN | apply below_drew1) | exact HB.out)) hb); clear HO326; clear HO329; clear HB; have HO326 := n0_; have HO329 := n1_; have HO334 := n2_; have HB := n3_; clear n0_ n1_ n2_ n3_; clear hb ho27) | ((with_reducible refine gate_builtin (b := .append) (xs := #[.tmp 16, .tmp 17]) rfl ?_); at_builtin; refine Kd.R_append_rows k39 (w0 := w) w.heap.size rfl (.tmp 16) (.tmp 17) 22 39 (.agg #[(.int .u64 0), (.string ⟨#[]⟩), (.string ⟨#[]⟩), (.bool false)]) 48 rfl Try.underlying22 info39 rfl (by decide) (by omega) v333 y332 t324 _ _ _ (fun k_ => some k_ ≠ (.slice Ao24 t324.length co24 : Value).ownBlock) (fun _ => False) rfl rfl ?aO ?aR (fun _ _ h => h) (fun _ h => h.elim) ?aF ?aB ?aS ?aL ?_; (case aR => repeat (first | exact (Kd.R_reads' HO326.out).2.2 | (with_reducible refine Kd.C_alloc ?_ _) | (with_reducible refine Kd.C_drewN ?_ _) | (with_reducible refine Kd.C_drew ?_))); (case aB => exact (by repeat (first | (with_reducible first | exact HB.out | apply below_alloc | apply pw_below_drewN | apply below_drew1) | exact HB.out))); (case aF => exact (fun k_ hk => Kd.fresh' (Kd.R_lt (by (with_reducible repeat (first | apply Kd.R_alloc | apply Kd.R_drewN | apply Kd.R_drew)); exact HO326.out)) k_ hk)); (case aO => exact (by (with_reducible repeat (first | apply Kd.R_alloc | apply Kd.R_drewN | apply Kd.R_drew)); exact Kd.R_mono HO334.out (fun _ hk => hk.2))); (case aS => exact (below_size (by repeat (first | (with_reducible first | exact HB.out | apply below_alloc | apply pw_below_drewN | apply below_drew1) | exact HB.out)))); (case aL => have := LMc13.out; omega); intro v336 w28 ho hb hg hat; rw [← Ny335.out] at ho; have n0_ := Aside0.mk (Kd.R_after (ok := (fun _ => True)) (by (with_reducible repeat (first | apply Kd.R_alloc | apply Kd.R_drewN | apply Kd.R_drew)); exact HO326.out) hg hat); have n1_ := Aside0.mk (Kd.R_over' (by (with_reducible repeat (first | apply Kd.R_alloc | apply Kd.R_drewN | apply Kd.R_drew)); exact HO329.out) (Kd.R_typed (by (with_reducible repeat (first | apply Kd.R_alloc | apply Kd.R_drewN | apply Kd.R_drew)); exact HO334.out)) (by decide) hg); have n2_ := Aside0.mk (hb); have n3_ := Aside0.mk (ho); clear HO326; clear HO329; clear HB; clear HO334; have HO326 := n0_; have HO329 := n1_; have HB := n2_; have HO337 := n3_; clear n0_ n1_ n2_ n3_; clear ho hb hg hat; obtain ⟨Ao29, co29, eo29⟩ := Kd.R_slice HO329.out; subst eo29) | ((with_reducible refine gate_callee (f := 25) rfl ?_); refine goesL_ (some 22) rfl rfl Try.func25 (by kernel_rfl) rfl #[.slice Ao29 t327.length co29, .int .u64 (IntKind.u64.wrap (t330 + 1))] rfl (by (try simp only [List.map_toArray, List.map_cons, List.map_nil]); first | done | rfl | (simp only [List.length_drop, List.length_take]; rfl)) ?_; (with_reducible refine (change_Stamped.calls k _ _ t327 (IntKind.u64.wrap (t330 + 1)) t338 _ ?side1 ?side2 A14.out).mono ?_); (case side1 => repeat (first | exact (Kd.R_reads' HO329.out).2.2 | (with_reducible refine Kd.C_alloc ?_ _) | (with_reducible refine Kd.C_drewN ?_ _) | (with_reducible refine Kd.C_drew ?_))); (case side2 => exact (Kd.R_reads' HO329.out).2.1); rintro e w30 ⟨v339, rfl, ho0, hb⟩; refine ⟨_, rfl, ?_⟩; have n0_ := Aside0.mk (Kd.R_elder' (by (with_reducible repeat (first | apply Kd.R_alloc | apply Kd.R_drewN | apply Kd.R_drew)); exact HO326.out) (Kd.R_base ho0) hb); have n1_ := Aside0.mk (Kd.R_below (by (with_reducible repeat (first | apply Kd.R_alloc | apply Kd.R_drewN | apply Kd.R_drew)); exact HO329.out) hb); have n2_ := Aside0.mk (Kd.R_elder' (by (with_reducible repeat (first | apply Kd.R_alloc | apply Kd.R_drewN | apply Kd.R_drew)); exact HO337.out) (Kd.R_base ho0) hb); have n3_ := Aside0.mk (Kd.R_lower (Kd.R_new' (Kd.R_new' ho0 (Kd.R_lt (by (with_reducible repeat (first | apply Kd.R_alloc | apply Kd.R_drewN | apply Kd.R_drew)); exact HO326.out))) (Kd.R_lt (by (with_reducible repeat (first | apply Kd.R_alloc | apply Kd.R_drewN | apply Kd.R_drew)); exact HO337.out))) (below_size (by repeat (first | (with_reducible first | exact HB.out | apply below_alloc | apply pw_below_drewN | apply below_drew1) | exact HB.out)))); have n4_ := Aside0.mk (below_step (by repeat (first | (with_reducible first | exact HB.out | apply below_alloc | apply pw_below_drewN | apply below_drew1) | exact HB.out)) hb); clear HO326; clear HO329; clear HO337; clear HB; have HO326 := n0_; have HO329 := n1_; have HO337 := n2_; have HO340 := n3_; have HB := n4_; clear n0_ n1_ n2_ n3_ n4_; (try clear hb); (try clear hb2); (try clear hk); (try clear hi); (try clear ho0); obtain ⟨Ao32, co32, eo32⟩ := Kd.R_slice HO340.out; subst eo32) | ((with_reducible refine gate_builtin (b := .append) (xs := #[.tmp 18, .tmp 22]) rfl ?_); at_builtin; refine Kd.R_append_rows k39 (w0 := w) w.heap.size rfl (.tmp 18) (.tmp 22) 22 39 (.agg #[(.int .u64 0), (.string ⟨#[]⟩), (.string ⟨#[]⟩), (.bool false)]) 48 rfl Try.underlying22 info39 rfl (by decide) (by omega) v336 y335 t338 _ _ _ (fun k_ => some k_ ≠ (.slice Ao24 t324.length co24 : Value).ownBlock ∧ some k_ ≠ (.slice Ao32 t338.length co32 : Value).ownBlock) (fun _ => False) rfl rfl ?aO ?aR (fun _ _ h => h) (fun _ h => h.elim) ?aF ?aB ?aS ?aL ?_; (case aR => repeat (first | exact (Kd.R_reads' HO340.out).2.2 | (with_reducible refine Kd.C_alloc ?_ _) | (with_reducible refine Kd.C_drewN ?_ _) | (with_reducible refine Kd.C_drew ?_))); (case aB => exact (by repeat (first | (with_reducible first | exact HB.out | apply below_alloc | apply pw_below_drewN | apply below_drew1) | exact HB.out))); (case aF => exact (fun k_ hk => ⟨Kd.fresh' (Kd.R_lt (by (with_reducible repeat (first | apply Kd.R_alloc | apply Kd.R_drewN | apply Kd.R_drew)); exact HO326.out)) k_ hk, Kd.fresh' (Kd.R_lt (by (with_reducible repeat (first | apply Kd.R_alloc | apply Kd.R_drewN | apply Kd.R_drew)); exact HO340.out)) k_ hk⟩)); (case aO => exact (by (with_reducible repeat (first | apply Kd.R_alloc | apply Kd.R_drewN | apply Kd.R_drew)); exact HO337.out)); (case aS => exact (below_size (by repeat (first | (with_reducible first | exact HB.out | apply below_alloc | apply pw_below_drewN | apply below_drew1) | exact HB.out)))); (case aL => have := LMc15.out; omega); intro v342 w31 ho hb hg hat; rw [← Ny341.out] at ho; have n0_ := Aside0.mk (Kd.R_after (ok := (fun k_ => some k_ ≠ (.slice Ao32 t338.length co32 : Value).ownBlock)) (by (with_reducible repeat (first | apply Kd.R_alloc | apply Kd.R_drewN | apply Kd.R_drew)); exact Kd.R_mono HO326.out (fun _ hk => ⟨hk.2, hk.1.2⟩)) hg hat); have n1_ := Aside0.mk (Kd.R_over' (by (with_reducible repeat (first | apply Kd.R_alloc | apply Kd.R_drewN | apply Kd.R_drew)); exact HO329.out) (Kd.R_typed (by (with_reducible repeat (first | apply Kd.R_alloc | apply Kd.R_drewN | apply Kd.R_drew)); exact HO337.out)) (by decide) hg); have n2_ := Aside0.mk (Kd.R_after (ok := (fun k_ => some k_ ≠ (.slice Ao24 t324.length co24 : Value).ownBlock)) (by (with_reducible repeat (first | apply Kd.R_alloc | apply Kd.R_drewN | apply Kd.R_drew)); exact Kd.R_mono HO340.out (fun _ hk => ⟨hk.1.2, hk.2⟩)) hg hat); have n3_ := Aside0.mk (hb); have n4_ := Aside0.mk (ho); clear HO326; clear HO329; clear HO340; clear HB; clear HO337; have HO326 := n0_; have HO329 := n1_; have HO340 := n2_; have HB := n3_; have HO343 := n4_; clear n0_ n1_ n2_ n3_ n4_; clear ho hb hg hat; obtain ⟨Ao33, co33, eo33⟩ := Kd.R_slice HO343.out; subst eo33) | ((with_reducible refine gate_callee (f := 22) rfl ?_); refine goesL_ (some 25) rfl rfl Try.func22 (by kernel_rfl) rfl #[.slice Ao33 y341.length co33] rfl (by (try simp only [List.map_toArray, List.map_cons, List.map_nil]); first | done | rfl | (simp only [List.length_drop, List.length_take]; rfl)) ?_; (with_reducible refine (change_Items.calls _ _ y341 t344 _ ?side1 ?side2 A16.out).mono ?_); (case side1 => repeat (first | exact (Kd.R_reads' HO343.out).2.2 | (with_reducible refine Kd.C_alloc ?_ _) | (with_reducible refine Kd.C_drewN ?_ _) | (with_reducible refine Kd.C_drew ?_))); (case side2 => exact (Kd.R_reads' HO343.out).2.1); rintro e w34 ⟨v345, rfl, ho0, hb⟩; refine ⟨_, rfl, ?_⟩; have n0_ := Aside0.mk (Kd.R_below (by (with_reducible repeat (first | apply Kd.R_alloc | apply Kd.R_drewN | apply Kd.R_drew)); exact HO326.out) hb); have n1_ := Aside0.mk (Kd.R_below (by (with_reducible repeat (first | apply Kd.R_alloc | apply Kd.R_drewN | apply Kd.R_drew)); exact HO329.out) hb); have n2_ := Aside0.mk (Kd.R_below (by (with_reducible repeat (first | apply Kd.R_alloc | apply Kd.R_drewN | apply Kd.R_drew)); exact HO340.out) hb); have n3_ := Aside0.mk (Kd.R_below (by (with_reducible repeat (first | apply Kd.R_alloc | apply Kd.R_drewN | apply Kd.R_drew)); exact HO343.out) hb); have n4_ := Aside0.mk (Kd.R_lower ho0 (below_size (by repeat (first | (with_reducible first | exact HB.out | apply below_alloc | apply pw_below_drewN | apply below_drew1) | exact HB.out)))); have n5_ := Aside0.mk (below_step (by repeat (first | (with_reducible first | exact HB.out | apply below_alloc | apply pw_below_drewN | apply below_drew1) | exact HB.out)) hb); clear HO326; clear HO329; clear HO340; clear HO343; clear HB; have HO326 := n0_; have HO329 := n1_; have HO340 := n2_; have HO343 := n3_; have HO346 := n4_; have HB := n5_; clear n0_ n1_ n2_ n3_ n4_ n5_; (try clear hb); (try clear hb2); (try clear hk); (try clear hi); (try clear ho0)) | ((with_reducible refine gate_callee (f := 22) rfl ?_); refine goesL_ (some 27) rfl rfl Try.func22 (by kernel_rfl) rfl #[.slice Ao24 t324.length co24] rfl (by (try simp only [List.map_toArray, List.map_cons, List.map_nil]); first | done | rfl | (simp only [List.length_drop, List.length_take]; rfl)) ?_; (with_reducible refine (change_Items.calls _ _ t324 t347 _ ?side1 ?side2 A17.out).mono ?_); (case side1 => repeat (first | exact (Kd.R_reads' HO326.out).2.2 | (with_reducible refine Kd.C_alloc ?_ _) | (with_reducible refine Kd.C_drewN ?_ _) | (with_reducible refine Kd.C_drew ?_))); (case side2 => exact (Kd.R_reads' HO326.out).2.1); rintro e w35 ⟨v348, rfl, ho0, hb⟩; refine ⟨_, rfl, ?_⟩; have n0_ := Aside0.mk (Kd.R_below (by (with_reducible repeat (first | apply Kd.R_alloc | apply Kd.R_drewN | apply Kd.R_drew)); exact HO326.out) hb); have n1_ := Aside0.mk (Kd.R_below (by (with_reducible repeat (first | apply Kd.R_alloc | apply Kd.R_drewN | apply Kd.R_drew)); exact HO329.out) hb); have n2_ := Aside0.mk (Kd.R_below (by (with_reducible repeat (first | apply Kd.R_alloc | apply Kd.R_drewN | apply Kd.R_drew)); exact HO340.out) hb); have n3_ := Aside0.mk (Kd.R_below (by (with_reducible repeat (first | apply Kd.R_alloc | apply Kd.R_drewN | apply Kd.R_drew)); exact HO343.out) hb); have n4_ := Aside0.mk (Kd.R_elder' (by (with_reducible repeat (first | apply Kd.R_alloc | apply Kd.R_drewN | apply Kd.R_drew)); exact HO346.out) (Kd.R_base ho0) hb); have n5_ := Aside0.mk (Kd.R_lower (Kd.R_new' ho0 (Kd.R_lt (by (with_reducible repeat (first | apply Kd.R_alloc | apply Kd.R_drewN | apply Kd.R_drew)); exact HO346.out))) (below_size (by repeat (first | (with_reducible first | exact HB.out | apply below_alloc | apply pw_below_drewN | apply below_drew1) | exact HB.out)))); have n6_ := Aside0.mk (below_step (by repeat (first | (with_reducible first | exact HB.out | apply below_alloc | apply pw_below_drewN | apply below_drew1) | exact HB.out)) hb); clear HO326; clear HO329; clear HO340; clear HO343; clear HO346; clear HB; have HO326 := n0_; have HO329 := n1_; have HO340 := n2_; have HO343 := n3_; have HO346 := n4_; have HO349 := n5_; have HB := n6_; clear n0_ n1_ n2_ n3_ n4_ n5_ n6_; (try clear hb); (try clear hb2); (try clear hk); (try clear hi); (try clear ho0); obtain ⟨Ao36, co36, eo36⟩ := Kd.R_slice HO349.out; subst eo36) | ((with_reducible refine gate_callee (f := 26) rfl ?_); refine goesL_ (some 29) rfl rfl Try.func26 (by kernel_rfl) rfl #[.slice Ao36 t347.length co36, .slice Ao29 t327.length co29] rfl (by (try simp only [List.map_toArray, List.map_cons, List.map_nil]); first | done | rfl | (simp only [List.length_drop, List.length_take]; rfl)) ?_; (with_reducible refine (cellarerref11_With.calls k _ _ t347 _ _ t327 t350 _ ?side1 ?side2 ?side3 ?side4 A18.out).mono ?_); (case side1 => repeat (first | exact (Kd.R_reads' HO349.out).2.2 | (with_reducible refine Kd.C_alloc ?_ _) | (with_reducible refine Kd.C_drewN ?_ _) | (with_reducible refine Kd.C_drew ?_))); (case side2 => exact (Kd.R_reads' HO349.out).2.1); (case side3 => repeat (first | exact (Kd.R_reads' HO329.out).2.2 | (with_reducible refine Kd.C_alloc ?_ _) | (with_reducible refine Kd.C_drewN ?_ _) | (with_reducible refine Kd.C_drew ?_))); (case side4 => exact (Kd.R_reads' HO329.out).2.1); rintro e w37 ⟨v351, rfl, ho0, hb⟩; refine ⟨_, rfl, ?_⟩; have n0_ := Aside0.mk (Kd.R_below (by (with_reducible repeat (first | apply Kd.R_alloc | apply Kd.R_drewN | apply Kd.R_drew)); exact HO326.out) hb); have n1_ := Aside0.mk (Kd.R_below (by (with_reducible repeat (first | apply Kd.R_alloc | apply Kd.R_drewN | apply Kd.R_drew)); exact HO329.out) hb); have n2_ := Aside0.mk (Kd.R_below (by (with_reducible repeat (first | apply Kd.R_alloc | apply Kd.R_drewN | apply Kd.R_drew)); exact HO340.out) hb); have n3_ := Aside0.mk (Kd.R_below (by (with_reducible repeat (first | apply Kd.R_alloc | apply Kd.R_drewN | apply Kd.R_drew)); exact HO343.out) hb); have n4_ := Aside0.mk (Kd.R_elder' (by (with_reducible repeat (first | apply Kd.R_alloc | apply Kd.R_drewN | apply Kd.R_drew)); exact HO346.out) (Kd.R_base ho0) hb); have n5_ := Aside0.mk (Kd.R_elder' (by (with_reducible repeat (first | apply Kd.R_alloc | apply Kd.R_drewN | apply Kd.R_drew)); exact HO349.out) (Kd.R_base ho0) hb); have n6_ := Aside0.mk (Kd.R_lower (Kd.R_new' (Kd.R_new' ho0 (Kd.R_lt (by (with_reducible repeat (first | apply Kd.R_alloc | apply Kd.R_drewN | apply Kd.R_drew)); exact HO346.out))) (Kd.R_lt (by (with_reducible repeat (first | apply Kd.R_alloc | apply Kd.R_drewN | apply Kd.R_drew)); exact HO349.out))) (below_size (by repeat (first | (with_reducible first | exact HB.out | apply below_alloc | apply pw_below_drewN | apply below_drew1) | exact HB.out)))); have n7_ := Aside0.mk (below_step (by repeat (first | (with_reducible first | exact HB.out | apply below_alloc | apply pw_below_drewN | apply below_drew1) | exact HB.out)) hb); clear HO326; clear HO329; clear HO340; clear HO343; clear HO346; clear HO349; clear HB; have HO326 := n0_; have HO329 := n1_; have HO340 := n2_; have HO343 := n3_; have HO346 := n4_; have HO349 := n5_; have HO352 := n6_; have HB := n7_; clear n0_ n1_ n2_ n3_ n4_ n5_ n6_ n7_; (try clear hb); (try clear hb2); (try clear hk); (try clear hi); (try clear ho0); obtain ⟨Ao38, co38, eo38⟩ := Kd.R_slice HO346.out; subst eo38; obtain ⟨Ao39, co39, eo39⟩ := Kd.R_slice HO352.out; subst eo39) | ((with_reducible refine gate_callee (f := 21) rfl ?_); refine goesL_ (some 30) rfl rfl Try.func21 (by kernel_rfl) rfl #[.slice Ao38 t344.length co38, .slice Ao39 t350.length co39] rfl (by (try simp only [List.map_toArray, List.map_cons, List.map_nil]); first | done | rfl | (simp only [List.length_drop, List.length_take]; rfl)) ?_; (with_reducible refine (cellarerref11_Same.calls k _ _ t344 _ _ t350 true _ ?side1 ?side2 ?side3 ?side4 A19.out).mono ?_); (case side1 => repeat (first | exact (Kd.R_reads' HO346.out).2.2 | (with_reducible refine Kd.C_alloc ?_ _) | (with_reducible refine Kd.C_drewN ?_ _) | (with_reducible refine Kd.C_drew ?_))); (case side2 => exact (Kd.R_reads' HO346.out).2.1); (case side3 => repeat (first | exact (Kd.R_reads' HO352.out).2.2 | (with_reducible refine Kd.C_alloc ?_ _) | (with_reducible refine Kd.C_drewN ?_ _) | (with_reducible refine Kd.C_drew ?_))); (case side4 => exact (Kd.R_reads' HO352.out).2.1); rintro e w' ⟨rfl, ⟨nd, rfl⟩⟩; refine ⟨_, rfl, ?_⟩) | (go_at_call 18; (with_reducible refine (cellarerlaw12_awake.calls  t354 _ A21.out).mono ?_); rintro e w40 ⟨rfl, hb⟩; have n0_ := Aside0.mk (Kd.R_below (by (with_reducible repeat (first | apply Kd.R_alloc | apply Kd.R_drewN | apply Kd.R_drew)); exact HO326.out) hb); have n1_ := Aside0.mk (Kd.R_below (by (with_reducible repeat (first | apply Kd.R_alloc | apply Kd.R_drewN | apply Kd.R_drew)); exact HO329.out) hb); have n2_ := Aside0.mk (Kd.R_below (by (with_reducible repeat (first | apply Kd.R_alloc | apply Kd.R_drewN | apply Kd.R_drew)); exact HO340.out) hb); have n3_ := Aside0.mk (Kd.R_below (by (with_reducible repeat (first | apply Kd.R_alloc | apply Kd.R_drewN | apply Kd.R_drew)); exact HO343.out) hb); have n4_ := Aside0.mk (Kd.R_below (by (with_reducible repeat (first | apply Kd.R_alloc | apply Kd.R_drewN | apply Kd.R_drew)); exact HO346.out) hb); have n5_ := Aside0.mk (Kd.R_below (by (with_reducible repeat (first | apply Kd.R_alloc | apply Kd.R_drewN | apply Kd.R_drew)); exact HO349.out) hb); have n6_ := Aside0.mk (Kd.R_below (by (with_reducible repeat (first | apply Kd.R_alloc | apply Kd.R_drewN | apply Kd.R_drew)); exact HO352.out) hb); have n7_ := Aside0.mk (below_step (by repeat (first | (with_reducible first | exact HB.out | apply below_alloc | apply pw_below_drewN | apply below_drew1) | exact HB.out)) hb); clear HO326; clear HO329; clear HO340; clear HO343; clear HO346; clear HO349; clear HO352; clear HB; have HO326 := n0_; have HO329 := n1_; have HO340 := n2_; have HO343 := n3_; have HO346 := n4_; have HO349 := n5_; have HO352 := n6_; have HB := n7_; clear n0_ n1_ n2_ n3_ n4_ n5_ n6_ n7_; (try clear hb); (try clear hb2); (try clear hk); (try clear hi)))
          go_ret
          exact ⟨by first | rfl | (simp [errW_none, errW_some] <;> rfl) | (simp [*, errW_none, errW_some] <;> rfl), by repeat (first | (with_reducible first | exact HB.out | apply below_alloc | apply pw_below_drewN | apply below_drew1) | exact HB.out)⟩
        · replace c20 := Bool.eq_false_iff.mpr c20
          subst c20
          have H1 : (some false) = some r := by rw [if_neg (show ¬ (false = true) by decide)] at H; exact H
          clear H
          have H := H1
          clear H1
          obtain rfl := Option.some.inj H
          go_enter Try.func9, Try.ntmps9
          go_wp2_with (first | ((with_reducible refine gate_callee (f := 10) rfl ?_); refine goesL_ (some 8) rfl rfl Try.func10 (by kernel_rfl) rfl #[.slice A0 l0.length c0] rfl (by (try simp only [List.map_toArray, List.map_cons, List.map_nil]); first | done | rfl | (simp only [List.length_drop, List.length_take]; rfl)) ?_; (with_reducible refine (cellarerlaw12_Few.calls _ _ l0 t324 _ ?side1 ?side2 A3.out).mono ?_); (case side1 => repeat (first | exact HR0.out | (with_reducible refine Kd.C_alloc ?_ _) | (with_reducible refine Kd.C_drewN ?_ _) | (with_reducible refine Kd.C_drew ?_))); (case side2 => exact HC0.out); rintro e w41 ⟨v325, rfl, ho0, hb⟩; refine ⟨_, rfl, ?_⟩; have n0_ := Aside0.mk (Kd.R_lower ho0 (below_size (by repeat (first | (with_reducible first | exact HB.out | apply below_alloc | apply pw_below_drewN | apply below_drew1) | exact HB.out)))); have n1_ := Aside0.mk (below_step (by repeat (first | (with_reducible first | exact HB.out | apply below_alloc | apply pw_below_drewN | apply below_drew1) | exact HB.out)) hb); clear HB; have HO326 := n0_; have HB := n1_; clear n0_ n1_; (try clear hb); (try clear hb2); (try clear hk); (try clear hi); (try clear ho0)) | ((with_reducible refine gate_callee (f := 24) rfl ?_); refine goesL_ (some 10) rfl rfl Try.func24 (by kernel_rfl) rfl #[.slice A1 l1.length c1] rfl (by (try simp only [List.map_toArray, List.map_cons, List.map_nil]); first | done | rfl | (simp only [List.length_drop, List.length_take]; rfl)) ?_; (with_reducible refine (cellarerlaw11_Changes.calls _ _ l1 t327 _ ?side1 ?side2 A4.out).mono ?_); (case side1 => repeat (first | exact (Kd.C_below HR1.out HB.out) | (with_reducible refine Kd.C_alloc ?_ _) | (with_reducible refine Kd.C_drewN ?_ _) | (with_reducible refine Kd.C_drew ?_))); (case side2 => exact HC1.out); rintro e w42 ⟨v328, rfl, ho0, hb⟩; refine ⟨_, rfl, ?_⟩; have n0_ := Aside0.mk (Kd.R_below (by (with_reducible repeat (first | apply Kd.R_alloc | apply Kd.R_drewN | apply Kd.R_drew)); exact HO326.out) hb); have n1_ := Aside0.mk (Kd.R_lower ho0 (below_size (by repeat (first | (with_reducible first | exact HB.out | apply below_alloc | apply pw_below_drewN | apply below_drew1) | exact HB.out)))); have n2_ := Aside0.mk (below_step (by repeat (first | (with_reducible first | exact HB.out | apply below_alloc | apply pw_below_drewN | apply below_drew1) | exact HB.out)) hb); clear HO326; clear HB; have HO326 := n0_; have HO329 := n1_; have HB := n2_; clear n0_ n1_ n2_; (try clear hb); (try clear hb2); (try clear hk); (try clear hi); (try clear ho0); obtain ⟨Ao43, co43, eo43⟩ := Kd.R_slice HO326.out; subst eo43) | ((with_reducible refine gate_callee (f := 23) rfl ?_); refine goesL_ (some 12) rfl rfl Try.func23 (by kernel_rfl) rfl #[.slice Ao43 t324.length co43] rfl (by (try simp only [List.map_toArray, List.map_cons, List.map_nil]); first | done | rfl | (simp only [List.length_drop, List.length_take]; rfl)) ?_; (with_reducible refine (change_Last.calls _ _ t324 t330 _ ?side1 ?side2 A5.out).mono ?_); (case side1 => repeat (first | exact (Kd.R_reads' HO326.out).2.2 | (with_reducible refine Kd.C_alloc ?_ _) | (with_reducible refine Kd.C_drewN ?_ _) | (with_reducible refine Kd.C_drew ?_))); (case side2 => exact (Kd.R_reads' HO326.out).2.1); rintro e w44 ⟨rfl, hb⟩; refine ⟨_, rfl, ?_⟩; have n0_ := Aside0.mk (Kd.R_below (by (with_reducible repeat (first | apply Kd.R_alloc | apply Kd.R_drewN | apply Kd.R_drew)); exact HO326.out) hb); have n1_ := Aside0.mk (Kd.R_below (by (with_reducible repeat (first | apply Kd.R_alloc | apply Kd.R_drewN | apply Kd.R_drew)); exact HO329.out) hb); have n2_ := Aside0.mk (below_step (by repeat (first | (with_reducible first | exact HB.out | apply below_alloc | apply pw_below_drewN | apply below_drew1) | exact HB.out)) hb); clear HO326; clear HO329; clear HB; have HO326 := n0_; have HO329 := n1_; have HB := n2_; clear n0_ n1_ n2_; (try clear hb); (try clear hb2); (try clear hk); (try clear hi)) | ((with_reducible refine gate_dst (N := 16) rfl ?_); refine Kd.R_lit k39 _ 39 ?hg (N := 16) ?hd (xs := ([] : List (S39))) (inner := []) (ok := fun _ => True) (okp := fun _ => True) ?hr ?hp (fun _ hk => hk) trivial (Below.refl _ _) (Nat.le_refl _) (by simp) ?_; (case hd => rfl); (case hg => rfl); (case hr => first | (go_simp; done) | (go_simp; rfl)); (case hp => exact (Reps.none _ _)); intro v333 w45 ho46 hb hg_ hnew_; clear hg_ hnew_; (first | rw [← Ny332.out] at ho46 | (simp only [Int.reduceToNat] at ho46; rw [← Ny332.out] at ho46)); have n0_ := Aside0.mk (Kd.R_elder' (by (with_reducible repeat (first | apply Kd.R_alloc | apply Kd.R_drewN | apply Kd.R_drew)); exact HO326.out) (Kd.R_base ho46) hb); have n1_ := Aside0.mk (Kd.R_below (by (with_reducible repeat (first | apply Kd.R_alloc | apply Kd.R_drewN | apply Kd.R_drew)); exact HO329.out) hb); have n2_ := Aside0.mk (Kd.R_lower (Kd.R_new' ho46 (Kd.R_lt (by (with_reducible repeat (first | apply Kd.R_alloc | apply Kd.R_drewN | apply Kd.R_drew)); exact HO326.out))) (below_size (by repeat (first | (with_reducible first | exact HB.out | apply below_alloc | apply pw_below_drewN | apply below_drew1) | exact HB.out)))); have n3_ := Aside0.mk (below_step (by repeat (first | (with_reducible first | exact HB.out | apply below_alloc | apply pw_below_drewN | apply below_drew1) | exact HB.out)) hb); clear HO326; clear HO329; clear HB; have HO326 := n0_; have HO329 := n1_; have HO334 := n2_; have HB := n3_; clear n0_ n1_ n2_ n3_; clear hb ho46) | ((with_reducible refine gate_builtin (b := .append) (xs := #[.tmp 16, .tmp 17]) rfl ?_); at_builtin; refine Kd.R_append_rows k39 (w0 := w) w.heap.size rfl (.tmp 16) (.tmp 17) 22 39 (.agg #[(.int .u64 0), (.string ⟨#[]⟩), (.string ⟨#[]⟩), (.bool false)]) 48 rfl Try.underlying22 info39 rfl (by decide) (by omega) v333 y332 t324 _ _ _ (fun k_ => some k_ ≠ (.slice Ao43 t324.length co43 : Value).ownBlock) (fun _ => False) rfl rfl ?aO ?aR (fun _ _ h => h) (fun _ h => h.elim) ?aF ?aB ?aS ?aL ?_; (case aR => repeat (first | exact (Kd.R_reads' HO326.out).2.2 | (with_reducible refine Kd.C_alloc ?_ _) | (with_reducible refine Kd.C_drewN ?_ _) | (with_reducible refine Kd.C_drew ?_))); (case aB => exact (by repeat (first | (with_reducible first | exact HB.out | apply below_alloc | apply pw_below_drewN | apply below_drew1) | exact HB.out))); (case aF => exact (fun k_ hk => Kd.fresh' (Kd.R_lt (by (with_reducible repeat (first | apply Kd.R_alloc | apply Kd.R_drewN | apply Kd.R_drew)); exact HO326.out)) k_ hk)); (case aO => exact (by (with_reducible repeat (first | apply Kd.R_alloc | apply Kd.R_drewN | apply Kd.R_drew)); exact Kd.R_mono HO334.out (fun _ hk => hk.2))); (case aS => exact (below_size (by repeat (first | (with_reducible first | exact HB.out | apply below_alloc | apply pw_below_drewN | apply below_drew1) | exact HB.out)))); (case aL => have := LMc13.out; omega); intro v336 w47 ho hb hg hat; rw [← Ny335.out] at ho; have n0_ := Aside0.mk (Kd.R_after (ok := (fun _ => True)) (by (with_reducible repeat (first | apply Kd.R_alloc | apply Kd.R_drewN | apply Kd.R_drew)); exact HO326.out) hg hat); have n1_ := Aside0.mk (Kd.R_over' (by (with_reducible repeat (first | apply Kd.R_alloc | apply Kd.R_drewN | apply Kd.R_drew)); exact HO329.out) (Kd.R_typed (by (with_reducible repeat (first | apply Kd.R_alloc | apply Kd.R_drewN | apply Kd.R_drew)); exact HO334.out)) (by decide) hg); have n2_ := Aside0.mk (hb); have n3_ := Aside0.mk (ho); clear HO326; clear HO329; clear HB; clear HO334; have HO326 := n0_; have HO329 := n1_; have HB := n2_; have HO337 := n3_; clear n0_ n1_ n2_ n3_; clear ho hb hg hat; obtain ⟨Ao48, co48, eo48⟩ := Kd.R_slice HO329.out; subst eo48) | ((with_reducible refine gate_callee (f := 25) rfl ?_); refine goesL_ (some 22) rfl rfl Try.func25 (by kernel_rfl) rfl #[.slice Ao48 t327.length co48, .int .u64 (IntKind.u64.wrap (t330 + 1))] rfl (by (try simp only [List.map_toArray, List.map_cons, List.map_nil]); first | done | rfl | (simp only [List.length_drop, List.length_take]; rfl)) ?_; (with_reducible refine (change_Stamped.calls k _ _ t327 (IntKind.u64.wrap (t330 + 1)) t338 _ ?side1 ?side2 A14.out).mono ?_); (case side1 => repeat (first | exact (Kd.R_reads' HO329.out).2.2 | (with_reducible refine Kd.C_alloc ?_ _) | (with_reducible refine Kd.C_drewN ?_ _) | (with_reducible refine Kd.C_drew ?_))); (case side2 => exact (Kd.R_reads' HO329.out).2.1); rintro e w49 ⟨v339, rfl, ho0, hb⟩; refine ⟨_, rfl, ?_⟩; have n0_ := Aside0.mk (Kd.R_elder' (by (with_reducible repeat (first | apply Kd.R_alloc | apply Kd.R_drewN | apply Kd.R_drew)); exact HO326.out) (Kd.R_base ho0) hb); have n1_ := Aside0.mk (Kd.R_below (by (with_reducible repeat (first | apply Kd.R_alloc | apply Kd.R_drewN | apply Kd.R_drew)); exact HO329.out) hb); have n2_ := Aside0.mk (Kd.R_elder' (by (with_reducible repeat (first | apply Kd.R_alloc | apply Kd.R_drewN | apply Kd.R_drew)); exact HO337.out) (Kd.R_base ho0) hb); have n3_ := Aside0.mk (Kd.R_lower (Kd.R_new' (Kd.R_new' ho0 (Kd.R_lt (by (with_reducible repeat (first | apply Kd.R_alloc | apply Kd.R_drewN | apply Kd.R_drew)); exact HO326.out))) (Kd.R_lt (by (with_reducible repeat (first | apply Kd.R_alloc | apply Kd.R_drewN | apply Kd.R_drew)); exact HO337.out))) (below_size (by repeat (first | (with_reducible first | exact HB.out | apply below_alloc | apply pw_below_drewN | apply below_drew1) | exact HB.out)))); have n4_ := Aside0.mk (below_step (by repeat (first | (with_reducible first | exact HB.out | apply below_alloc | apply pw_below_drewN | apply below_drew1) | exact HB.out)) hb); clear HO326; clear HO329; clear HO337; clear HB; have HO326 := n0_; have HO329 := n1_; have HO337 := n2_; have HO340 := n3_; have HB := n4_; clear n0_ n1_ n2_ n3_ n4_; (try clear hb); (try clear hb2); (try clear hk); (try clear hi); (try clear ho0); obtain ⟨Ao51, co51, eo51⟩ := Kd.R_slice HO340.out; subst eo51) | ((with_reducible refine gate_builtin (b := .append) (xs := #[.tmp 18, .tmp 22]) rfl ?_); at_builtin; refine Kd.R_append_rows k39 (w0 := w) w.heap.size rfl (.tmp 18) (.tmp 22) 22 39 (.agg #[(.int .u64 0), (.string ⟨#[]⟩), (.string ⟨#[]⟩), (.bool false)]) 48 rfl Try.underlying22 info39 rfl (by decide) (by omega) v336 y335 t338 _ _ _ (fun k_ => some k_ ≠ (.slice Ao43 t324.length co43 : Value).ownBlock ∧ some k_ ≠ (.slice Ao51 t338.length co51 : Value).ownBlock) (fun _ => False) rfl rfl ?aO ?aR (fun _ _ h => h) (fun _ h => h.elim) ?aF ?aB ?aS ?aL ?_; (case aR => repeat (first | exact (Kd.R_reads' HO340.out).2.2 | (with_reducible refine Kd.C_alloc ?_ _) | (with_reducible refine Kd.C_drewN ?_ _) | (with_reducible refine Kd.C_drew ?_))); (case aB => exact (by repeat (first | (with_reducible first | exact HB.out | apply below_alloc | apply pw_below_drewN | apply below_drew1) | exact HB.out))); (case aF => exact (fun k_ hk => ⟨Kd.fresh' (Kd.R_lt (by (with_reducible repeat (first | apply Kd.R_alloc | apply Kd.R_drewN | apply Kd.R_drew)); exact HO326.out)) k_ hk, Kd.fresh' (Kd.R_lt (by (with_reducible repeat (first | apply Kd.R_alloc | apply Kd.R_drewN | apply Kd.R_drew)); exact HO340.out)) k_ hk⟩)); (case aO => exact (by (with_reducible repeat (first | apply Kd.R_alloc | apply Kd.R_drewN | apply Kd.R_drew)); exact HO337.out)); (case aS => exact (below_size (by repeat (first | (with_reducible first | exact HB.out | apply below_alloc | apply pw_below_drewN | apply below_drew1) | exact HB.out)))); (case aL => have := LMc15.out; omega); intro v342 w50 ho hb hg hat; rw [← Ny341.out] at ho; have n0_ := Aside0.mk (Kd.R_after (ok := (fun k_ => some k_ ≠ (.slice Ao51 t338.length co51 : Value).ownBlock)) (by (with_reducible repeat (first | apply Kd.R_alloc | apply Kd.R_drewN | apply Kd.R_drew)); exact Kd.R_mono HO326.out (fun _ hk => ⟨hk.2, hk.1.2⟩)) hg hat); have n1_ := Aside0.mk (Kd.R_over' (by (with_reducible repeat (first | apply Kd.R_alloc | apply Kd.R_drewN | apply Kd.R_drew)); exact HO329.out) (Kd.R_typed (by (with_reducible repeat (first | apply Kd.R_alloc | apply Kd.R_drewN | apply Kd.R_drew)); exact HO337.out)) (by decide) hg); have n2_ := Aside0.mk (Kd.R_after (ok := (fun k_ => some k_ ≠ (.slice Ao43 t324.length co43 : Value).ownBlock)) (by (with_reducible repeat (first | apply Kd.R_alloc | apply Kd.R_drewN | apply Kd.R_drew)); exact Kd.R_mono HO340.out (fun _ hk => ⟨hk.1.2, hk.2⟩)) hg hat); have n3_ := Aside0.mk (hb); have n4_ := Aside0.mk (ho); clear HO326; clear HO329; clear HO340; clear HB; clear HO337; have HO326 := n0_; have HO329 := n1_; have HO340 := n2_; have HB := n3_; have HO343 := n4_; clear n0_ n1_ n2_ n3_ n4_; clear ho hb hg hat; obtain ⟨Ao52, co52, eo52⟩ := Kd.R_slice HO343.out; subst eo52) | ((with_reducible refine gate_callee (f := 22) rfl ?_); refine goesL_ (some 25) rfl rfl Try.func22 (by kernel_rfl) rfl #[.slice Ao52 y341.length co52] rfl (by (try simp only [List.map_toArray, List.map_cons, List.map_nil]); first | done | rfl | (simp only [List.length_drop, List.length_take]; rfl)) ?_; (with_reducible refine (change_Items.calls _ _ y341 t344 _ ?side1 ?side2 A16.out).mono ?_); (case side1 => repeat (first | exact (Kd.R_reads' HO343.out).2.2 | (with_reducible refine Kd.C_alloc ?_ _) | (with_reducible refine Kd.C_drewN ?_ _) | (with_reducible refine Kd.C_drew ?_))); (case side2 => exact (Kd.R_reads' HO343.out).2.1); rintro e w53 ⟨v345, rfl, ho0, hb⟩; refine ⟨_, rfl, ?_⟩; have n0_ := Aside0.mk (Kd.R_below (by (with_reducible repeat (first | apply Kd.R_alloc | apply Kd.R_drewN | apply Kd.R_drew)); exact HO326.out) hb); have n1_ := Aside0.mk (Kd.R_below (by (with_reducible repeat (first | apply Kd.R_alloc | apply Kd.R_drewN | apply Kd.R_drew)); exact HO329.out) hb); have n2_ := Aside0.mk (Kd.R_below (by (with_reducible repeat (first | apply Kd.R_alloc | apply Kd.R_drewN | apply Kd.R_drew)); exact HO340.out) hb); have n3_ := Aside0.mk (Kd.R_below (by (with_reducible repeat (first | apply Kd.R_alloc | apply Kd.R_drewN | apply Kd.R_drew)); exact HO343.out) hb); have n4_ := Aside0.mk (Kd.R_lower ho0 (below_size (by repeat (first | (with_reducible first | exact HB.out | apply below_alloc | apply pw_below_drewN | apply below_drew1) | exact HB.out)))); have n5_ := Aside0.mk (below_step (by repeat (first | (with_reducible first | exact HB.out | apply below_alloc | apply pw_below_drewN | apply below_drew1) | exact HB.out)) hb); clear HO326; clear HO329; clear HO340; clear HO343; clear HB; have HO326 := n0_; have HO329 := n1_; have HO340 := n2_; have HO343 := n3_; have HO346 := n4_; have HB := n5_; clear n0_ n1_ n2_ n3_ n4_ n5_; (try clear hb); (try clear hb2); (try clear hk); (try clear hi); (try clear ho0)) | ((with_reducible refine gate_callee (f := 22) rfl ?_); refine goesL_ (some 27) rfl rfl Try.func22 (by kernel_rfl) rfl #[.slice Ao43 t324.length co43] rfl (by (try simp only [List.map_toArray, List.map_cons, List.map_nil]); first | done | rfl | (simp only [List.length_drop, List.length_take]; rfl)) ?_; (with_reducible refine (change_Items.calls _ _ t324 t347 _ ?side1 ?side2 A17.out).mono ?_); (case side1 => repeat (first | exact (Kd.R_reads' HO326.out).2.2 | (with_reducible refine Kd.C_alloc ?_ _) | (with_reducible refine Kd.C_drewN ?_ _) | (with_reducible refine Kd.C_drew ?_))); (case side2 => exact (Kd.R_reads' HO326.out).2.1); rintro e w54 ⟨v348, rfl, ho0, hb⟩; refine ⟨_, rfl, ?_⟩; have n0_ := Aside0.mk (Kd.R_below (by (with_reducible repeat (first | apply Kd.R_alloc | apply Kd.R_drewN | apply Kd.R_drew)); exact HO326.out) hb); have n1_ := Aside0.mk (Kd.R_below (by (with_reducible repeat (first | apply Kd.R_alloc | apply Kd.R_drewN | apply Kd.R_drew)); exact HO329.out) hb); have n2_ := Aside0.mk (Kd.R_below (by (with_reducible repeat (first | apply Kd.R_alloc | apply Kd.R_drewN | apply Kd.R_drew)); exact HO340.out) hb); have n3_ := Aside0.mk (Kd.R_below (by (with_reducible repeat (first | apply Kd.R_alloc | apply Kd.R_drewN | apply Kd.R_drew)); exact HO343.out) hb); have n4_ := Aside0.mk (Kd.R_elder' (by (with_reducible repeat (first | apply Kd.R_alloc | apply Kd.R_drewN | apply Kd.R_drew)); exact HO346.out) (Kd.R_base ho0) hb); have n5_ := Aside0.mk (Kd.R_lower (Kd.R_new' ho0 (Kd.R_lt (by (with_reducible repeat (first | apply Kd.R_alloc | apply Kd.R_drewN | apply Kd.R_drew)); exact HO346.out))) (below_size (by repeat (first | (with_reducible first | exact HB.out | apply below_alloc | apply pw_below_drewN | apply below_drew1) | exact HB.out)))); have n6_ := Aside0.mk (below_step (by repeat (first | (with_reducible first | exact HB.out | apply below_alloc | apply pw_below_drewN | apply below_drew1) | exact HB.out)) hb); clear HO326; clear HO329; clear HO340; clear HO343; clear HO346; clear HB; have HO326 := n0_; have HO329 := n1_; have HO340 := n2_; have HO343 := n3_; have HO346 := n4_; have HO349 := n5_; have HB := n6_; clear n0_ n1_ n2_ n3_ n4_ n5_ n6_; (try clear hb); (try clear hb2); (try clear hk); (try clear hi); (try clear ho0); obtain ⟨Ao55, co55, eo55⟩ := Kd.R_slice HO349.out; subst eo55) | ((with_reducible refine gate_callee (f := 26) rfl ?_); refine goesL_ (some 29) rfl rfl Try.func26 (by kernel_rfl) rfl #[.slice Ao55 t347.length co55, .slice Ao48 t327.length co48] rfl (by (try simp only [List.map_toArray, List.map_cons, List.map_nil]); first | done | rfl | (simp only [List.length_drop, List.length_take]; rfl)) ?_; (with_reducible refine (cellarerref11_With.calls k _ _ t347 _ _ t327 t350 _ ?side1 ?side2 ?side3 ?side4 A18.out).mono ?_); (case side1 => repeat (first | exact (Kd.R_reads' HO349.out).2.2 | (with_reducible refine Kd.C_alloc ?_ _) | (with_reducible refine Kd.C_drewN ?_ _) | (with_reducible refine Kd.C_drew ?_))); (case side2 => exact (Kd.R_reads' HO349.out).2.1); (case side3 => repeat (first | exact (Kd.R_reads' HO329.out).2.2 | (with_reducible refine Kd.C_alloc ?_ _) | (with_reducible refine Kd.C_drewN ?_ _) | (with_reducible refine Kd.C_drew ?_))); (case side4 => exact (Kd.R_reads' HO329.out).2.1); rintro e w56 ⟨v351, rfl, ho0, hb⟩; refine ⟨_, rfl, ?_⟩; have n0_ := Aside0.mk (Kd.R_below (by (with_reducible repeat (first | apply Kd.R_alloc | apply Kd.R_drewN | apply Kd.R_drew)); exact HO326.out) hb); have n1_ := Aside0.mk (Kd.R_below (by (with_reducible repeat (first | apply Kd.R_alloc | apply Kd.R_drewN | apply Kd.R_drew)); exact HO329.out) hb); have n2_ := Aside0.mk (Kd.R_below (by (with_reducible repeat (first | apply Kd.R_alloc | apply Kd.R_drewN | apply Kd.R_drew)); exact HO340.out) hb); have n3_ := Aside0.mk (Kd.R_below (by (with_reducible repeat (first | apply Kd.R_alloc | apply Kd.R_drewN | apply Kd.R_drew)); exact HO343.out) hb); have n4_ := Aside0.mk (Kd.R_elder' (by (with_reducible repeat (first | apply Kd.R_alloc | apply Kd.R_drewN | apply Kd.R_drew)); exact HO346.out) (Kd.R_base ho0) hb); have n5_ := Aside0.mk (Kd.R_elder' (by (with_reducible repeat (first | apply Kd.R_alloc | apply Kd.R_drewN | apply Kd.R_drew)); exact HO349.out) (Kd.R_base ho0) hb); have n6_ := Aside0.mk (Kd.R_lower (Kd.R_new' (Kd.R_new' ho0 (Kd.R_lt (by (with_reducible repeat (first | apply Kd.R_alloc | apply Kd.R_drewN | apply Kd.R_drew)); exact HO346.out))) (Kd.R_lt (by (with_reducible repeat (first | apply Kd.R_alloc | apply Kd.R_drewN | apply Kd.R_drew)); exact HO349.out))) (below_size (by repeat (first | (with_reducible first | exact HB.out | apply below_alloc | apply pw_below_drewN | apply below_drew1) | exact HB.out)))); have n7_ := Aside0.mk (below_step (by repeat (first | (with_reducible first | exact HB.out | apply below_alloc | apply pw_below_drewN | apply below_drew1) | exact HB.out)) hb); clear HO326; clear HO329; clear HO340; clear HO343; clear HO346; clear HO349; clear HB; have HO326 := n0_; have HO329 := n1_; have HO340 := n2_; have HO343 := n3_; have HO346 := n4_; have HO349 := n5_; have HO352 := n6_; have HB := n7_; clear n0_ n1_ n2_ n3_ n4_ n5_ n6_ n7_; (try clear hb); (try clear hb2); (try clear hk); (try clear hi); (try clear ho0); obtain ⟨Ao57, co57, eo57⟩ := Kd.R_slice HO346.out; subst eo57; obtain ⟨Ao58, co58, eo58⟩ := Kd.R_slice HO352.out; subst eo58) | ((with_reducible refine gate_callee (f := 21) rfl ?_); refine goesL_ (some 30) rfl rfl Try.func21 (by kernel_rfl) rfl #[.slice Ao57 t344.length co57, .slice Ao58 t350.length co58] rfl (by (try simp only [List.map_toArray, List.map_cons, List.map_nil]); first | done | rfl | (simp only [List.length_drop, List.length_take]; rfl)) ?_; (with_reducible refine (cellarerref11_Same.calls k _ _ t344 _ _ t350 false _ ?side1 ?side2 ?side3 ?side4 A19.out).mono ?_); (case side1 => repeat (first | exact (Kd.R_reads' HO346.out).2.2 | (with_reducible refine Kd.C_alloc ?_ _) | (with_reducible refine Kd.C_drewN ?_ _) | (with_reducible refine Kd.C_drew ?_))); (case side2 => exact (Kd.R_reads' HO346.out).2.1); (case side3 => repeat (first | exact (Kd.R_reads' HO352.out).2.2 | (with_reducible refine Kd.C_alloc ?_ _) | (with_reducible refine Kd.C_drewN ?_ _) | (with_reducible refine Kd.C_drew ?_))); (case side4 => exact (Kd.R_reads' HO352.out).2.1); rintro e w' ⟨rfl, ⟨nd, rfl⟩⟩; refine ⟨_, rfl, ?_⟩))
          go_ret
          exact ⟨by first | rfl | (simp [errW_none, errW_some] <;> rfl) | (simp [*, errW_none, errW_some] <;> rfl), by repeat (first | (with_reducible first | exact HB.out | apply below_alloc | apply pw_below_drewN | apply below_drew1) | exact HB.out)⟩
      · rw [if_neg c15] at H
        exact absurd H (by simp)
    · rw [if_neg c13] at H
      exact absurd H (by simp)

end Go.Proofs.Ytipahpkdddijmaa.Q

-- D2
namespace Go.Proofs.Ytipahpkdddijmaa.Q
open Go.RowKit Go.Proofs.YtipahpkdddijmaaW.PrintWords Go.Proofs.YtipahpkdddijmaaW.PrintLast Go.Proofs.YtipahpkdddijmaaW.PrintMore
set_option linter.unusedVariables false
set_option linter.unusedSimpArgs false

/-! ### plain laws: the greatest stamp -/
def wfN (n : S39) : Prop := 0 ≤ n.f0 ∧ n.f0 ≤ 18446744073709551615
theorem fewN_wf {l : List S39} (h : ∀ n ∈ l, wfN n) : ∀ n ∈ fewN l, wfN n := by
  intro n hn
  obtain ⟨m, hm, rfl⟩ := List.mem_map.1 hn
  exact h m (List.mem_of_mem_take hm)
theorem last_spec (l : List S39) (h : ∀ n ∈ l, wfN n) : (∀ n ∈ l, n.f0 ≤ lastN l) ∧ 0 ≤ lastN l ∧ lastN l ≤ 18446744073709551615 ∧ (l ≠ [] → ∃ m ∈ l, m.f0 = lastN l) := by
  have gen : ∀ (l : List S39) (a : Int), (∀ n ∈ l, wfN n) → 0 ≤ a → a ≤ 18446744073709551615 →
      (∀ n ∈ l, n.f0 ≤ l.foldl (fun a n => if a < n.f0 then n.f0 else a) a) ∧ a ≤ l.foldl (fun a n => if a < n.f0 then n.f0 else a) a ∧ l.foldl (fun a n => if a < n.f0 then n.f0 else a) a ≤ 18446744073709551615 ∧
      (l.foldl (fun a n => if a < n.f0 then n.f0 else a) a = a ∨ ∃ m ∈ l, m.f0 = l.foldl (fun a n => if a < n.f0 then n.f0 else a) a) := by
    intro l
    induction l with
    | nil => intro a _ h0 h1; exact ⟨fun n hn => (by cases hn), Int.le_refl _, h1, Or.inl rfl⟩
    | cons x l ih =>
      intro a hw h0 h1
      have hx := hw x List.mem_cons_self
      unfold wfN at hx
      obtain ⟨p1, p2, p3, p4⟩ := ih (if a < x.f0 then x.f0 else a) (fun n hn => hw n (List.mem_cons_of_mem _ hn)) (by split <;> omega) (by split <;> omega)
      rw [List.foldl_cons]
      generalize hz : l.foldl (fun a n => if a < n.f0 then n.f0 else a) (if a < x.f0 then x.f0 else a) = z at *
      refine ⟨fun n hn => ?_, ?_, p3, ?_⟩
      · rcases List.mem_cons.1 hn with rfl | hn
        · split at p2 <;> omega
        · exact p1 n hn
      · split at p2 <;> omega
      · rcases p4 with p4 | ⟨m, hm, p4⟩
        · split at p4
          · exact Or.inr ⟨x, List.mem_cons_self, p4.symm⟩
          · exact Or.inl p4
        · exact Or.inr ⟨m, List.mem_cons_of_mem _ hm, p4⟩
  obtain ⟨p1, p2, p3, p4⟩ := gen l 0 h (Int.le_refl _) (by decide)
  refine ⟨p1, p2, p3, fun hn => ?_⟩
  rcases p4 with p4 | p4
  · cases l with
    | nil => exact absurd rfl hn
    | cons x l =>
      refine ⟨x, List.mem_cons_self, ?_⟩
      have h1 := p1 x List.mem_cons_self
      have h2 := (h x List.mem_cons_self).1
      unfold lastN
      omega
  · exact p4
theorem last_f {l : List S39} (h1 : l.length ≤ 1000000) (h : ∀ n ∈ l, wfN n) : change_Last.f l = some (lastN l) := by
  unfold change_Last.f
  rw [if_pos h1, if_pos (List.all_eq_true.2 fun n hn => decide_eq_true (h n hn).1)]
theorem cnt_later {l : List S39} {n : S39} (h : ∀ m ∈ l, m.f0 ≤ n.f0) : cnt (l ++ [n]) n.f1.f0 = some n := by
  rw [cnt_snoc]
  unfold cntStep
  rw [if_pos rfl]
  cases hc : cnt l n.f1.f0 with
  | none => rfl
  | some o => unfold upd; simp only; rw [if_pos (h o (cnt_mem hc))]
theorem cnt_other {l : List S39} {n : S39} {nm : ByteArray} (h : n.f1.f0 ≠ nm) : cnt (l ++ [n]) nm = cnt l nm := by
  rw [cnt_snoc]
  unfold cntStep
  rw [if_neg h]
theorem wrap_i (i : Nat) (h : i < 1000000000) : wrap64 ((i : Int) + 1) = ((i + 1 : Nat) : Int) := by unfold wrap64; omega
theorem rd52 {l : List S52} {i : Nat} (h : i < l.length) : rd_T52 l (i : Int) = l[i] := by unfold rd_T52; simp [h]

/-! ### ChangeLast -/
end Go.Proofs.Ytipahpkdddijmaa.Q

-- D3
namespace Go.Proofs.Ytipahpkdddijmaa.Q
open Go.RowKit Go.Proofs.YtipahpkdddijmaaW.PrintWords Go.Proofs.YtipahpkdddijmaaW.PrintLast Go.Proofs.YtipahpkdddijmaaW.PrintMore
set_option linter.unusedVariables false
set_option linter.unusedSimpArgs false

/-! ### ChangeGone -/
def keepI (s : ByteArray) (it : S52) : Bool := !(it.f0.toList == s.toList)
end Go.Proofs.Ytipahpkdddijmaa.Q

-- D4
namespace Go.Proofs.Ytipahpkdddijmaa.Q
open Go.RowKit Go.Proofs.YtipahpkdddijmaaW.PrintWords Go.Proofs.YtipahpkdddijmaaW.PrintLast Go.Proofs.YtipahpkdddijmaaW.PrintMore
set_option linter.unusedVariables false
set_option linter.unusedSimpArgs false

/-! ### items in order -/
theorem bless_iff : ∀ x y : List UInt8, Op.bytesLess x y = true ↔ Go.Lib.compareBytes x y < 0
  | [], [] => by simp [Op.bytesLess, Go.Lib.compareBytes]
  | [], b :: y => by simp [Op.bytesLess, Go.Lib.compareBytes]
  | a :: x, [] => by simp [Op.bytesLess, Go.Lib.compareBytes]
  | a :: x, b :: y => by
    have ih := bless_iff x y
    unfold Op.bytesLess
    rw [cb_cons]
    by_cases h1 : a < b
    · simp [h1]
    · by_cases h2 : b < a
      · have h3 : a ≠ b := fun e => by subst e; exact h1 h2
        simp [h1, h2, h3]
      · have e : a = b := UInt8.toNat_inj.1 (Nat.le_antisymm (Nat.le_of_not_lt h2) (Nat.le_of_not_lt h1))
        subst e
        simp only [h1, decide_false, Bool.false_or, beq_self_eq_true, Bool.true_and, if_false]
        exact ih
theorem bless_ltN {a b : ByteArray} : Op.bytesLess a.toList b.toList = true ↔ ltN a b := by
  rw [Lib.toList_data, Lib.toList_data, bless_iff]
  rfl
def SI (xs : List S52) : Prop := xs.Pairwise (fun a b => ltN a.f0 b.f0)
theorem sortedI_ext : ∀ {xs ys : List S52}, SI xs → SI ys → (∀ n, n ∈ xs ↔ n ∈ ys) → xs = ys
  | [], [], _, _, _ => rfl
  | [], y :: ys, _, _, h => by exact absurd ((h y).2 List.mem_cons_self) (by simp)
  | x :: xs, [], _, _, h => by exact absurd ((h x).1 List.mem_cons_self) (by simp)
  | x :: xs, y :: ys, hx, hy, h => by
    unfold SI at hx hy
    rw [List.pairwise_cons] at hx hy
    have e : x = y := by
      rcases List.mem_cons.1 ((h x).1 List.mem_cons_self) with e | h1
      · exact e
      · rcases List.mem_cons.1 ((h y).2 List.mem_cons_self) with e | h2
        · exact e.symm
        · exact absurd (hx.1 y h2) (ltN_asymm (hy.1 x h1))
    subst e
    rw [sortedI_ext (xs := xs) (ys := ys) hx.2 hy.2 (fun n => ?_)]
    constructor
    · intro hn
      rcases List.mem_cons.1 ((h n).1 (List.mem_cons_of_mem _ hn)) with rfl | h1
      · exact absurd (hx.1 n hn) (ltN_irrefl _)
      · exact h1
    · intro hn
      rcases List.mem_cons.1 ((h n).2 (List.mem_cons_of_mem _ hn)) with rfl | h1
      · exact absurd (hy.1 n hn) (ltN_irrefl _)
      · exact h1
theorem SI_items (l : List S39) : SI (itemsL (countL l)) := by
  unfold SI itemsL
  rw [List.pairwise_map]
  exact (countL_is l).up.filter _
theorem mem_items {l : List S39} {it : S52} : it ∈ itemsL (countL l) ↔ ∃ n, cnt l it.f0 = some n ∧ n.f1.f2 = false ∧ n.f1.f1 = it.f1 := by
  unfold itemsL
  rw [List.mem_map]
  constructor
  · rintro ⟨n, hn, rfl⟩
    obtain ⟨h1, h2⟩ := List.mem_filter.1 hn
    exact ⟨n, (countL_is l).mem n |>.1 h1, by simpa using h2, rfl⟩
  · rintro ⟨n, h1, h2, h3⟩
    have hm := cnt_name h1
    refine ⟨n, List.mem_filter.2 ⟨((countL_is l).mem n).2 (by rw [hm]; exact h1), by rw [h2]; rfl⟩, ?_⟩
    rw [hm, h3]

/-! ### one item in -/
def upI (a : ByteArray) (it : S52) : Bool := Op.bytesLess a.toList it.f0.toList
def dnI (a : ByteArray) (it : S52) : Bool := Op.bytesLess it.f0.toList a.toList
theorem upI_lt {a : ByteArray} {it : S52} : upI a it = true ↔ ltN a it.f0 := bless_ltN
theorem dnI_lt {a : ByteArray} {it : S52} : dnI a it = true ↔ ltN it.f0 a := bless_ltN
def inL (out : List S52) (x : S52) : List S52 := out.filter (dnI x.f0) ++ [x] ++ out.filter (upI x.f0)
theorem inL_SI {out : List S52} (h : SI out) (x : S52) : SI (inL out x) := by
  unfold SI inL at *
  rw [List.pairwise_append, List.pairwise_append]
  refine ⟨⟨h.filter _, List.pairwise_singleton _ _, fun a ha b hb => ?_⟩, h.filter _, fun a ha b hb => ?_⟩
  · rw [List.mem_singleton.1 hb]
    exact dnI_lt.1 (List.mem_filter.1 ha).2
  · have hb2 := upI_lt.1 (List.mem_filter.1 hb).2
    rcases List.mem_append.1 ha with ha | ha
    · exact ltN_trans (dnI_lt.1 (List.mem_filter.1 ha).2) hb2
    · rw [List.mem_singleton.1 ha]; exact hb2
theorem inL_mem {out : List S52} {x it : S52} : it ∈ inL out x ↔ it = x ∨ (it ∈ out ∧ it.f0 ≠ x.f0) := by
  unfold inL
  rw [List.mem_append, List.mem_append, List.mem_filter, List.mem_filter, List.mem_singleton, dnI_lt, upI_lt]
  constructor
  · rintro ((⟨h, h1⟩ | h) | ⟨h, h1⟩)
    · exact Or.inr ⟨h, fun e => by rw [e] at h1; exact ltN_irrefl _ h1⟩
    · exact Or.inl h
    · exact Or.inr ⟨h, fun e => by rw [e] at h1; exact ltN_irrefl _ h1⟩
  · rintro (h | ⟨h, h1⟩)
    · exact Or.inl (Or.inr h)
    · by_cases h2 : ltN it.f0 x.f0
      · exact Or.inl (Or.inl ⟨h, h2⟩)
      · exact Or.inr ⟨h, ltN_of (fun e => h1 e.symm) h2⟩
theorem inL_len (out : List S52) (x : S52) : (inL out x).length ≤ 2 * out.length + 1 := by
  unfold inL
  have h1 := List.length_filter_le (dnI x.f0) out
  have h2 := List.length_filter_le (upI x.f0) out
  simp only [List.length_append, List.length_singleton]
  omega
theorem take_snoc52 (l : List S52) (k : Nat) (h : k < l.length) : l.take (k + 1) = l.take k ++ [l[k]] := by rw [List.take_succ_eq_append_getElem h]
theorem in_l1 (out pre : List S52) (a b : ByteArray) (K : Nat) (ho : out.length ≤ 1000) (hp : pre.length ≤ 2000) :
    ∀ (n i : Nat), i + n = out.length → cellarerref11_in.l1 (K + n + 1) out (pre ++ (out.take i).filter (upI a)) (i : Int) a b = some (pre ++ out.filter (upI a))
  | 0, i, e => by
    have hi : i = out.length := by omega
    subst hi
    unfold cellarerref11_in.l1
    rw [if_neg (by omega), List.take_length]
  | n + 1, i, e => by
    have hi : i < out.length := by omega
    have hl : ((out.take i).filter (upI a)).length ≤ 1000 := Nat.le_trans (List.length_filter_le _ _) (by rw [List.length_take]; omega)
    have ih := in_l1 out pre a b K ho hp n (i + 1) (by omega)
    rw [take_snoc52 out i hi, List.filter_append] at ih
    unfold cellarerref11_in.l1
    rw [if_pos (by omega), if_pos (by omega), rd52 hi, wrap_i i (by omega)]
    by_cases h : Op.bytesLess a.toList out[i].f0.toList = true
    · rw [if_pos h, if_pos (by rw [List.length_append]; omega)]
      rw [List.filter_cons_of_pos (p := upI a) h, List.filter_nil, ← List.append_assoc] at ih
      exact ih
    · rw [if_neg h]
      rw [List.filter_cons_of_neg (p := upI a) h, List.filter_nil, List.append_nil] at ih
      exact ih
theorem in_l0 (out : List S52) (a b : ByteArray) (K : Nat) (ho : out.length ≤ 1000) :
    ∀ (n i : Nat), i + n = out.length → cellarerref11_in.l0 (K + n + 1) out ((out.take i).filter (dnI a)) (i : Int) a b =
      cellarerref11_in.l1 K out (out.filter (dnI a) ++ [⟨a, b⟩]) 0 a b
  | 0, i, e => by
    have hi : i = out.length := by omega
    subst hi
    have hl := List.length_filter_le (dnI a) out
    unfold cellarerref11_in.l0
    rw [if_neg (by omega), List.take_length, if_pos (by omega)]
  | n + 1, i, e => by
    have hi : i < out.length := by omega
    have hl : ((out.take i).filter (dnI a)).length ≤ 1000 := Nat.le_trans (List.length_filter_le _ _) (by rw [List.length_take]; omega)
    have ih := in_l0 out a b K ho n (i + 1) (by omega)
    rw [take_snoc52 out i hi, List.filter_append] at ih
    unfold cellarerref11_in.l0
    rw [if_pos (by omega), if_pos (by omega), rd52 hi, wrap_i i (by omega)]
    by_cases h : Op.bytesLess out[i].f0.toList a.toList = true
    · rw [if_pos h, if_pos (by omega)]
      rw [List.filter_cons_of_pos (p := dnI a) h, List.filter_nil] at ih
      exact ih
    · rw [if_neg h]
      rw [List.filter_cons_of_neg (p := dnI a) h, List.filter_nil, List.append_nil] at ih
      exact ih
theorem in_f (out : List S52) (a b : ByteArray) (k : Nat) (ho : out.length ≤ 1000) (hk : 2 * out.length + 2 ≤ k) : cellarerref11_in.f k out a b = some (inL out ⟨a, b⟩) := by
  unfold cellarerref11_in.f
  obtain ⟨K, rfl⟩ : ∃ K, k = (K + out.length + 1) + out.length + 1 := ⟨k - (2 * out.length + 2), by omega⟩
  have h0 := in_l0 out a b (K + out.length + 1) ho out.length 0 (by omega)
  have hl := List.length_filter_le (dnI a) out
  have h1 := in_l1 out (out.filter (dnI a) ++ [⟨a, b⟩]) a b K ho (by rw [List.length_append]; show _ + 1 ≤ _; omega) out.length 0 (by omega)
  rw [List.take_zero, List.filter_nil] at h0
  rw [List.take_zero, List.filter_nil, List.append_nil] at h1
  exact h0.trans h1

/-! ### with changes -/
def stepI (out : List S52) (c : S37) : List S52 := if c.f2 = true then (inL out ⟨c.f0, c.f1⟩).filter (keepI c.f0) else inL out ⟨c.f0, c.f1⟩
theorem stepI_SI {out : List S52} (h : SI out) (c : S37) : SI (stepI out c) := by
  unfold stepI
  split
  · exact (inL_SI h _).filter _
  · exact inL_SI h _
theorem items_step (l : List S39) (s : Int) (c : S37) (hl : ∀ m ∈ l, m.f0 ≤ s) : itemsL (countL (l ++ [⟨s, c⟩])) = stepI (itemsL (countL l)) c := by
  refine sortedI_ext (SI_items _) (stepI_SI (SI_items _) c) (fun it => ?_)
  rw [mem_items]
  by_cases e : it.f0 = c.f0
  · have h1 := cnt_later (l := l) (n := ⟨s, c⟩) hl
    rw [e, h1]
    unfold stepI
    constructor
    · rintro ⟨n, h2, h3, h4⟩
      injection h2 with h2
      subst h2
      rw [if_neg (by show ¬ c.f2 = true; rw [show c.f2 = false from h3]; decide), inL_mem]
      refine Or.inl ?_
      obtain ⟨i0, i1⟩ := it
      simp only at e h4 ⊢
      rw [e, ← h4]
    · intro h
      split at h
      · obtain ⟨_, h3⟩ := List.mem_filter.1 h
        unfold keepI at h3
        rw [e] at h3
        simp at h3
      · rename_i hg
        rcases inL_mem.1 h with h | ⟨_, h⟩
        · exact ⟨_, rfl, by simpa using hg, by rw [h]⟩
        · exact absurd e h
  · rw [cnt_other (n := ⟨s, c⟩) (fun x => e x.symm), ← mem_items]
    have h2 : it ∈ inL (itemsL (countL l)) ⟨c.f0, c.f1⟩ ↔ it ∈ itemsL (countL l) := by
      rw [inL_mem]
      constructor
      · rintro (h | h)
        · exact absurd (by rw [h]) e
        · exact h.1
      · exact fun h => Or.inr ⟨h, e⟩
    unfold stepI
    split
    · rw [List.mem_filter, h2]
      have h3 : keepI c.f0 it = true := by
        unfold keepI
        simp only [Bool.not_eq_true', beq_eq_false_iff_ne]
        exact fun x => e (bytes_eq x)
      exact ⟨fun h => ⟨h, h3⟩, fun h => h.1⟩
    · exact h2.symm
theorem rd37 {l : List S37} {i : Nat} (h : i < l.length) : rd_T37 l (i : Int) = l[i] := by unfold rd_T37; simp [h]
theorem with_l2 (C : List S37) (out : List S52) (i : Nat) (hi : i < C.length) (K : Nat) (ho : out.length ≤ 1000) (hC : C.length ≤ 1000) :
    ∀ (n j : Nat), j + n = out.length → cellarerref11_With.l2 (K + n + 1) C out (i : Int) ((out.take j).filter (keepI C[i].f0)) (j : Int) = cellarerref11_With.l1 K C (out.filter (keepI C[i].f0)) ((i + 1 : Nat) : Int)
  | 0, j, e => by
    have hj : j = out.length := by omega
    subst hj
    unfold cellarerref11_With.l2
    rw [if_neg (by omega), List.take_length, wrap_i i (by omega)]
  | n + 1, j, e => by
    have hj : j < out.length := by omega
    have hl : ((out.take j).filter (keepI C[i].f0)).length ≤ 1000 := Nat.le_trans (List.length_filter_le _ _) (by rw [List.length_take]; omega)
    have ih := with_l2 C out i hi K ho hC n (j + 1) (by omega)
    rw [take_snoc52 out j hj, List.filter_append] at ih
    unfold cellarerref11_With.l2
    rw [if_pos (by omega), if_pos (by omega), if_pos (by omega), if_pos (by omega), rd52 hj, rd37 hi, wrap_i j (by omega)]
    by_cases h : out[j].f0.toList = C[i].f0.toList
    · rw [if_pos h]
      rw [List.filter_cons_of_neg (by simp [keepI, h]), List.filter_nil, List.append_nil] at ih
      exact ih
    · rw [if_neg h, if_pos (by omega)]
      rw [List.filter_cons_of_pos (by simp [keepI, h]), List.filter_nil] at ih
      exact ih
theorem with_l1 (M : Nat) (hM : 1000 ≤ M) (l : List S39) (C : List S37) (s : Int) (hl : l.length ≤ 101) (hC : C.length ≤ 60) (hs : ∀ m ∈ l, m.f0 ≤ s) :
    ∀ (n i k : Nat), i + n = C.length → M + n * M ≤ k → cellarerref11_With.l1 k C (itemsL (countL (l ++ (C.take i).map fun c => ⟨s, c⟩))) (i : Int) = some (itemsL (countL (l ++ C.map fun c => ⟨s, c⟩)))
  | 0, i, k, e, hk => by
    have hi : i = C.length := by omega
    subst hi
    obtain ⟨k, rfl⟩ : ∃ k', k = k' + 1 := ⟨k - 1, by omega⟩
    unfold cellarerref11_With.l1
    rw [if_neg (by omega), List.take_length]
  | n + 1, i, k, e, hk => by
    have hi : i < C.length := by omega
    obtain ⟨k, rfl⟩ : ∃ k', k = k' + 1 := ⟨k - 1, by omega⟩
    rw [Nat.succ_mul] at hk
    generalize hnM : n * M = nM at *
    have ih := fun (k' : Nat) (hk' : M + nM ≤ k') => with_l1 M hM l C s hl hC hs n (i + 1) k' (by omega) (by rw [hnM]; exact hk')
    rw [take_snoc37 C i hi, List.map_append, ← List.append_assoc] at ih
    rw [show List.map (fun c => (⟨s, c⟩ : S39)) [C[i]] = [⟨s, C[i]⟩] from rfl] at ih
    rw [items_step _ s C[i] (fun m hm => by
      rcases List.mem_append.1 hm with hm | hm
      · exact hs m hm
      · obtain ⟨c, _, rfl⟩ := List.mem_map.1 hm
        exact Int.le_refl _)] at ih
    have hlen : (itemsL (countL (l ++ (C.take i).map fun c => ⟨s, c⟩))).length ≤ 161 := by
      have h1 := itemsL_len (countL (l ++ (C.take i).map fun c => ⟨s, c⟩))
      have h2 := countL_len (l ++ (C.take i).map fun c => ⟨s, c⟩)
      rw [List.length_append, List.length_map, List.length_take] at h2
      omega
    generalize itemsL (countL (l ++ (C.take i).map fun c => ⟨s, c⟩)) = out at *
    have hin := inL_len out ⟨C[i].f0, C[i].f1⟩
    unfold cellarerref11_With.l1
    rw [if_pos (by omega), if_pos (by omega), rd37 hi, in_f out _ _ k (by omega) (by omega), Option.bind_some]
    by_cases hg : C[i].f2 = true
    · rw [if_pos hg]
      obtain ⟨K, rfl⟩ : ∃ K, k = K + (inL out ⟨C[i].f0, C[i].f1⟩).length + 1 := ⟨k - ((inL out ⟨C[i].f0, C[i].f1⟩).length + 1), by omega⟩
      have h2 := with_l2 C (inL out ⟨C[i].f0, C[i].f1⟩) i hi K (by omega) (by omega) _ 0 (Nat.zero_add _)
      rw [List.take_zero, List.filter_nil] at h2
      have h3 := ih K (by omega)
      unfold stepI at h3
      rw [if_pos hg] at h3
      exact h2.trans h3
    · rw [if_neg hg, wrap_i i (by omega)]
      have h3 := ih k (by omega)
      unfold stepI at h3
      rw [if_neg hg] at h3
      exact h3
theorem with_l0 (x0 : List S52) (C : List S37) (K : Nat) (hx : x0.length ≤ 161) (h : SI x0) (hK : 1000 ≤ K) :
    ∀ (n i : Nat), i + n = x0.length → cellarerref11_With.l0 (K + n + 1) x0 C (x0.take i) (i : Int) = cellarerref11_With.l1 K C x0 0
  | 0, i, e => by
    have hi : i = x0.length := by omega
    subst hi
    unfold cellarerref11_With.l0
    rw [if_neg (by omega), List.take_length]
  | n + 1, i, e => by
    have hi : i < x0.length := by omega
    have hlt : ∀ a ∈ x0.take i, ltN a.f0 x0[i].f0 := by
      intro a ha
      obtain ⟨j, hj, rfl⟩ := List.getElem_of_mem ha
      rw [List.length_take] at hj
      rw [List.getElem_take]
      exact List.pairwise_iff_getElem.1 h j i (by omega) hi (by omega)
    have e2 : inL (x0.take i) ⟨x0[i].f0, x0[i].f1⟩ = x0.take (i + 1) := by
      unfold inL
      rw [List.filter_eq_self.2 (fun a ha => dnI_lt.2 (hlt a ha)), List.filter_eq_nil_iff.2 (fun a ha => by rw [upI_lt]; exact ltN_asymm (hlt a ha)), List.append_nil, take_snoc52 x0 i hi]
    unfold cellarerref11_With.l0
    rw [if_pos (by omega), if_pos (by omega), rd52 hi, in_f _ _ _ _ (by rw [List.length_take]; omega) (by rw [List.length_take]; omega), Option.bind_some, e2, wrap_i i (by omega)]
    exact with_l0 x0 C K hx h hK n (i + 1) (by omega)
theorem stamped_from (C : List S37) (s : Int) (K : Nat) (hC : C.length ≤ 60) :
    ∀ (n i : Nat), i + n = C.length → change_Stamped.l0 (K + n + 1) s ((C.take i).map fun c => (⟨s, c⟩ : S39)) C (C.length : Int) (i : Int) = some (C.map fun c => (⟨s, c⟩ : S39))
  | 0, i, e => by
    have hi : i = C.length := by omega
    subst hi
    unfold change_Stamped.l0
    rw [if_neg (by omega), List.take_length]
  | n + 1, i, e => by
    have hi : i < C.length := by omega
    have ih := stamped_from C s K hC n (i + 1) (by omega)
    rw [take_snoc37 C i hi, List.map_append] at ih
    unfold change_Stamped.l0
    rw [if_pos (by omega), if_pos (by omega), if_pos (by omega), if_pos (by rw [List.length_map, List.length_take]; omega), rd37 hi, wrap_i i (by omega)]
    exact ih
theorem goes_true (l0 : List S39) (c0 : List S37) (hw : ∀ n ∈ l0, wfN n) : ∃ k, cellarerlaw12_ChangeGoes.f k l0 c0 = some true := by
  have hw1 := fewN_wf hw
  have h := okL_few l0
  have hl := fewN_len l0
  have hnm := fewN_name l0
  have hC : (chgN c0).length ≤ 60 := by unfold chgN; rw [List.length_map, List.length_take]; omega
  have hCn : ∀ c ∈ chgN c0, c.f0.size ≤ 120 := by
    intro c hc
    obtain ⟨m, _, rfl⟩ := List.mem_map.1 hc
    unfold chgC
    simp only
    split
    · rw [ByteArray.size_extract]; omega
    · omega
  refine ⟨(1000 + (chgN c0).length * 1000) + (itemsL (countL (fewN l0))).length + 1, ?_⟩
  unfold cellarerlaw12_ChangeGoes.f cellarerlaw12_Few.f cellarerlaw11_Changes.f
  rw [Option.bind_some, Option.bind_some]
  generalize fewN l0 = l at *
  generalize chgN c0 = C at *
  obtain ⟨s1, s2, s3, s4⟩ := last_spec l hw1
  rw [last_f (by omega) hw1, Option.bind_some]
  by_cases hm : lastN l = 18446744073709551615
  · rw [if_pos hm]
    rfl
  · have hwr : IntKind.u64.wrap (lastN l + 1) = lastN l + 1 := by
      show Int.emod (lastN l + 1) 18446744073709551616 = lastN l + 1
      exact Int.emod_eq_of_lt (by omega) (by omega)
    have hn : okL (l ++ C.map fun c => (⟨lastN l + 1, c⟩ : S39)) = true := okL_mk (by rw [List.length_append, List.length_map]; omega) (fun n hn => by
      rcases List.mem_append.1 hn with hn | hn
      · exact okL_size h n hn
      · obtain ⟨c, hc, rfl⟩ := List.mem_map.1 hn
        exact Nat.le_trans (hCn c hc) (by decide))
    have hc1 := countL_len l
    have hi1 := itemsL_len (countL l)
    have hc2 := countL_len (l ++ C.map fun c => (⟨lastN l + 1, c⟩ : S39))
    rw [List.length_append, List.length_map] at hc2
    have hi2 := itemsL_len (countL (l ++ C.map fun c => (⟨lastN l + 1, c⟩ : S39)))
    have hst := stamped_from C (lastN l + 1) (1000 + C.length * 1000 + (itemsL (countL l)).length - C.length) hC C.length 0 (by omega)
    have hw0 := with_l0 (itemsL (countL l)) C (1000 + C.length * 1000) (by omega) (SI_items l) (by omega) (itemsL (countL l)).length 0 (by omega)
    have hw1' := with_l1 1000 (Nat.le_refl _) l C (lastN l + 1) hl hC (fun m hm => by have := s1 m hm; omega) C.length 0 (1000 + C.length * 1000) (by omega) (by omega)
    rw [List.take_zero, List.map_nil] at hst
    rw [List.take_zero] at hw0
    rw [List.take_zero, List.map_nil, List.append_nil] at hw1'
    have hst2 : change_Stamped.f (1000 + C.length * 1000 + (itemsL (countL l)).length + 1) C (lastN l + 1) = some (C.map fun c => (⟨lastN l + 1, c⟩ : S39)) := by
      unfold change_Stamped.f
      rw [show 1000 + C.length * 1000 + (itemsL (countL l)).length + 1 = (1000 + C.length * 1000 + (itemsL (countL l)).length - C.length) + C.length + 1 by omega]
      exact hst
    have hwith : cellarerref11_With.f (1000 + C.length * 1000 + (itemsL (countL l)).length + 1) (itemsL (countL l)) C = some (itemsL (countL (l ++ C.map fun c => (⟨lastN l + 1, c⟩ : S39)))) := hw0.trans hw1'
    rw [if_neg hm, Option.bind_some, if_pos (by simp; omega), Option.bind_some, hwr, hst2, Option.bind_some, if_pos (by simp; omega), List.nil_append, items_f hn, Option.bind_some, items_f h, Option.bind_some, hwith, Option.bind_some,
      same11_self _ (by omega) _ (by omega), Option.bind_some, if_pos rfl]
    rfl
theorem goesRow (A0 : Option Addr) (c0 : Nat) (l0 : List S39) (A1 : Option Addr) (c1 : Nat) (l1 : List S37) (w : World) (hr0 : Kd.C k39 w A0 l0.length l0) (hc0 : l0.length ≤ c0) (hr1 : Kd.C k37 w A1 l1.length l1) (hc1 : l1.length ≤ c1) (hw : ∀ n ∈ l0, wfN n) :
    Calls Try.prog 9 #[.slice A0 l0.length c0, .slice A1 l1.length c1] w fun e w' => e = .returned (.bool true) ∧ Below w.heap.size w w' := by
  obtain ⟨k, hk⟩ := goes_true l0 l1 hw
  exact cellarerlaw12_ChangeGoes.calls k A0 c0 l0 A1 c1 l1 true w hr0 hc0 hr1 hc1 hk
end Go.Proofs.Ytipahpkdddijmaa.Q

-- U1
namespace Go.Proofs.Ytipahpkdddijmaa.Q
open Go.RowKit Go.Proofs.YtipahpkdddijmaaW.PrintWords Go.Proofs.YtipahpkdddijmaaW.PrintLast Go.Proofs.YtipahpkdddijmaaW.PrintMore
set_option linter.unusedVariables false
set_option linter.unusedSimpArgs false

/-! What an argument's reading gives: the kinds' own relation. -/
set_option maxRecDepth 100000 in
theorem open_changes {H : Type} {enc : TypeId × Value → H} {W : World} {base : Nat} {v : Value} {x : DataW H} {p : List MemPlace} (hv : Value.okWide Try.prog W .any base 53 v) (h : DataW.Trod enc Try.prog W 0 (fun _ => true) true 53 v x p) :
    ∃ (l : List S37) (A : Option Addr) (c : Nat), v = .slice A l.length c ∧ l.length ≤ c ∧ Kd.C k37 W A l.length l := open_row Try.underlying53 cells37 opens37 z37 hv h
end Go.Proofs.Ytipahpkdddijmaa.Q

-- U2
namespace Go.Proofs.Ytipahpkdddijmaa.Q
open Go.RowKit Go.Proofs.YtipahpkdddijmaaW.PrintWords Go.Proofs.YtipahpkdddijmaaW.PrintLast Go.Proofs.YtipahpkdddijmaaW.PrintMore
set_option linter.unusedVariables false
set_option linter.unusedSimpArgs false

/-! Openings that tell of each cell's own fitness, too. -/
def OpensQ {α : Type} (P : Program) (d : Kd α) (t : TypeId) (Q : α → Prop) : Prop :=
  ∀ (H : Type) (enc : TypeId × Value → H) (W : World) (n : Nat) (cs : List Value) (x : DataW H × List MemPlace), DataW.trod enc P W 0 (fun _ => true) true n t cs = some x → ∃ y : α, d.K W y cs ∧ Q y
set_option maxRecDepth 100000 in
theorem opensQ_C {α : Type} {P : Program} {d : Kd α} {t e : TypeId} (ht : P.underlying t = some (.slice e)) (hs : P.cellsOf e = d.sz) {Q : α → Prop} (he : OpensQ P d e Q) (z : α) (H : Type) (enc : TypeId × Value → H) (W : World) (n : Nat) (cs : List Value) (x : DataW H × List MemPlace)
    (h : DataW.trod enc P W 0 (fun _ => true) true n t cs = some x) : ∃ (l : List α) (A : Option Addr) (c : Nat), cs = [.slice A l.length c] ∧ l.length ≤ c ∧ d.C W A l.length l ∧ ∀ x ∈ l, Q x := by
  rcases DataW.trod_slice ht h with ⟨rfl, _⟩ | ⟨a, len, cap, elems, rest, m, _, rfl, _, _, hl, hm, hlen, hel, _, _⟩
  · exact ⟨[], none, 0, rfl, Nat.le_refl _, ⟨rfl, by simp, fun h0 => by simp at h0⟩, fun x hx => by cases hx⟩
  have each : ∀ i : Nat, ∃ p : α, i < len → Q p ∧ ∃ c : List Value, c.length = d.sz ∧ d.K W p c ∧ ∀ j u, c[j]? = some u → W.cell? (a.add (i * d.sz + j)) = some u := by
    intro i
    by_cases hi : i < len
    · have h1 := hel i hi
      rw [List.getElem?_eq_getElem (by omega), Option.bind_eq_some_iff] at h1
      obtain ⟨c, hc, ht'⟩ := h1
      obtain ⟨y, hy, hq⟩ := he H enc W m c _ ht'
      refine ⟨y, fun _ => ⟨hq, c, d.K_len hy, hy, fun j u hu => ?_⟩⟩
      obtain ⟨_, hcl, hcell⟩ := World.cells?_some hc
      have := hcell j (by have := (List.getElem?_eq_some_iff.1 hu).1; omega)
      rw [hs, add_add] at this
      rw [this, hu]
    · exact ⟨z, fun h => absurd h hi⟩
  obtain ⟨f, hf⟩ := Classical.skolem.1 each
  refine ⟨(List.range len).map f, some a, cap, by simp, by simpa using hl, ⟨by simp, by simp [maxLen] at hm ⊢; omega, fun _ => ⟨a, rfl, fun j p hj => ?_⟩⟩, fun x hx => by
    obtain ⟨j, hj, rfl⟩ := List.mem_map.1 hx
    exact (hf j (List.mem_range.1 hj)).1⟩
  rw [List.getElem?_map] at hj
  have hjl : j < len := by
    rcases Nat.lt_or_ge j len with h | h
    · exact h
    · rw [List.getElem?_eq_none (by simpa using h)] at hj; cases hj
  rw [List.getElem?_range hjl] at hj
  injection hj with hj
  subst hj
  exact (hf j hjl).2
theorem wf_u64 {n : Int} (h : (Lit.int .u64 n).wf = true) : 0 ≤ n ∧ n ≤ 18446744073709551615 := by
  have h2 : (decide ((IntKind.u64).min ≤ n) && decide (n ≤ (IntKind.u64).max)) = true := h
  rw [Bool.and_eq_true, decide_eq_true_eq, decide_eq_true_eq, show (IntKind.u64).min = 0 from rfl, show (IntKind.u64).max = 18446744073709551615 from rfl] at h2
  exact h2
set_option maxRecDepth 100000 in
theorem opensQ39 : OpensQ Try.prog k39 39 wfN := by
  intro H enc W n cs x h
  obtain ⟨y0, y1, m, rfl, hl, t0, t1⟩ := Go.ChangeShapes.trod_struct2 Try.underlying39 h
  rw [cells39] at hl
  match cs, hl with
  | [a, b, c, d], _ =>
    simp only [cells35, cells37, List.drop, List.take] at t0 t1
    obtain ⟨i, e0, _, wi⟩ := DataW.trod_int Try.underlying35 t0
    obtain ⟨y, hy⟩ := opens37 _ _ _ _ _ _ t1
    have e1 := k37_open hy
    injection e0 with e0; injection e1 with e1 e2; injection e2 with e2 e3; injection e3 with e3
    subst e0 e1 e2 e3
    exact ⟨⟨i, y⟩, k39_mk W ⟨i, y⟩, wf_u64 wi⟩
set_option maxRecDepth 100000 in
theorem openQ_row {α : Type} {d : Kd α} {t e : TypeId} (ht : Try.prog.underlying t = some (.slice e)) (hs : Try.prog.cellsOf e = d.sz) {Q : α → Prop} (he : OpensQ Try.prog d e Q) (z : α) {H : Type} {enc : TypeId × Value → H} {W : World} {base : Nat} {v : Value} {x : DataW H} {p : List MemPlace} (hv : Value.okWide Try.prog W .any base t v) (h : DataW.Trod enc Try.prog W 0 (fun _ => true) true t v x p) :
    ∃ (l : List α) (A : Option Addr) (c : Nat), v = .slice A l.length c ∧ l.length ≤ c ∧ d.C W A l.length l ∧ ∀ x ∈ l, Q x := by
  obtain ⟨a, n, c, rfl⟩ := Go.WideShapes.okWide_slice ht hv
  obtain ⟨m, hm⟩ := h
  obtain ⟨l, A, c', e, hle, hC, hQ⟩ := opensQ_C ht hs he z H enc W m _ _ hm
  refine ⟨l, A, c', ?_, hle, hC, hQ⟩
  simpa [Value.cells] using e
set_option maxRecDepth 100000 in
theorem openQ_notes {H : Type} {enc : TypeId × Value → H} {W : World} {base : Nat} {v : Value} {x : DataW H} {p : List MemPlace} (hv : Value.okWide Try.prog W .any base 22 v) (h : DataW.Trod enc Try.prog W 0 (fun _ => true) true 22 v x p) :
    ∃ (l : List S39) (A : Option Addr) (c : Nat), v = .slice A l.length c ∧ l.length ≤ c ∧ Kd.C k39 W A l.length l ∧ ∀ n ∈ l, wfN n := openQ_row Try.underlying22 cells39 opensQ39 z39 hv h
end Go.Proofs.Ytipahpkdddijmaa.Q

-- LawGoes
namespace Go.Proofs.Ytipahpkdddijmaa.changeGoes
open Go.ChangeShapes Go.WideShapes Go.ChangeAt Go.RowKit
open Go.ChangeMaps (open_string shut_string)
set_option linter.unusedVariables false

theorem ownChangeGoes : ownKnob Try.prog.godebug = none := by kernel_rfl
theorem laidOutChangeGoes : laidOutB Try.prog = true := by kernel_rfl
set_option maxRecDepth 100000 in
theorem lifted (os : Os) (started : os.Started) (H : Type) (enc : TypeId × Value → H) :
    ReturnsInHanded {} Try.checked os 9 .any (Rows.changeGoesSpec.pre6 enc Try.prog Try.f9 Rows.changeGoesRow.domain false) (Rows.changeGoesSpec.post enc Try.prog Try.f9 false true false false) := by
  refine returnsInHanded_of_change_sized (C := Try.checked) ownChangeGoes started (by kernel_rfl) Try.func9
    (ChangeSpec.witness6 (enc := enc) (C := Try.checked) false ⟨#[], #[.slice none 0 0, .slice none 0 0], []⟩ 8 (by kernel_rfl) (by kernel_rfl) (by kernel_rfl) (by kernel_rfl)) ?_
  intro W base args ds gs before hval0 hW hcnd hsz0 _
  have hval : ∀ (j : Nat) t v, Try.f9.params[j]? = some t → args[j]? = some v → Value.okWide Try.prog W .any base t v := hval0
  have hW' := hW
  obtain ⟨p, q, hA0, hV, rfl, hfz, hnd⟩ := hW
  have hA : DataW.TrodAll enc Try.prog W 0 (fun _ => true) true Try.f9.params.toList args.toList ds p := hA0
  rw [Try.params9] at hA hval
  obtain ⟨v0, vs0, d0, ds0, p0, q0, hargs, rfl, rfl, h0, r0⟩ := trodAll_cons hA
  obtain ⟨v1, vs1, d1, ds1, p1, q1, rfl, rfl, rfl, h1, r1⟩ := trodAll_cons r0
  obtain ⟨rfl, rfl, rfl⟩ := trodAll_nil r1
  obtain rfl : args = #[v0, v1] := by cases args; simp_all
  obtain ⟨rfl, rfl⟩ := trodVars_none hV
  have k0 := h0
  have lt0 : ∀ x ∈ p0, x.block < W.heap.size := by obtain ⟨m, hm⟩ := k0; exact DataW.trod_lt m _ _ _ hm
  have k1 := h1
  have lt1 : ∀ x ∈ p1, x.block < W.heap.size := by obtain ⟨m, hm⟩ := k1; exact DataW.trod_lt m _ _ _ hm
  obtain ⟨l_0, A_0, c_0, rfl, hl_0, hC_0, hw_0⟩ := Q.openQ_notes (hval 0 22 v0 rfl rfl) h0
  obtain ⟨l_1, A_1, c_1, rfl, hl_1, hC_1⟩ := Q.open_changes (hval 1 53 v1 rfl rfl) h1
  clear hA0 hval0 hsz0
  refine (Q.goesRow A_0 c_0 l_0 A_1 c_1 l_1 W hC_0 hl_0 hC_1 hl_1 hw_0).mono fun e W' ⟨he, bel⟩ => ?_
  subst he
  exact ⟨_, rfl, _, _, _, [], _, [], hW', trodAll_mk1 (shut_bool Try.underlying4 _), (trodAll_cons_mk (Below.trod laidOutChangeGoes (by kernel_rfl) (of_decide_eq_true (by kernel_rfl)) k0 bel lt0) (trodAll_cons_mk (Below.trod laidOutChangeGoes (by kernel_rfl) (of_decide_eq_true (by kernel_rfl)) k1 bel lt1) trodAll_mk0)), rfl, bel.frame _, fun h => by cases h⟩
theorem over : Rows.changeGoesRow.holds Try.pinned (OpenSpec.ofChange Rows.changeGoesSpec) :=
  OpenClaim.holds_of_wide 9 Try.f9 rfl rfl rfl rfl rfl rfl rfl ⟨rfl, rfl, rfl, rfl, rfl⟩ rfl rfl rfl rfl rfl (by kernel_rfl) Try.func9 (by kernel_rfl)
    (of_decide_eq_true (by kernel_rfl)) (by unfold Func.isWrapper; first | (rw [if_pos (by decide +kernel)]; kernel_rfl) | (rw [if_neg (by decide +kernel)]; exact ⟨rfl, rfl⟩))
    (fun os started H enc _ => lifted os started H enc)
end Go.Proofs.Ytipahpkdddijmaa.changeGoes
namespace Go.Proofs.Ytipahpkdddijmaa
open Go
/-- The row. -/
theorem changeGoes_holds : Rows.ChangeGoesSaid := changeGoes.over
#print axioms changeGoes_holds
end Go.Proofs.Ytipahpkdddijmaa
