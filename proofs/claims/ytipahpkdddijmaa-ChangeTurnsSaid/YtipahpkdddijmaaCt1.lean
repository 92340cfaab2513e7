/- The law ChangeTurns returns true for every input that its row lets in, under the row's own conditions and no others. Part 1 of 1. -/
import Derived.Test.YtipahpkdddijmaaCd2
import Derived.Test.YtipahpkdddijmaaCt0
import Derived.Test.YtipahpkdddijmaaProg
import Derived.Below
import Derived.Deep.Draws
import Derived.Deep.AppendLies
import Derived.Maps.AppendAt
import Derived.OwnWalk
import Derived.Laws.BytesArg
import Derived.Laws.MakeOwn
import Derived.Laws.OwnMore
import Derived.Deep.OwnRows
import Derived.Tactics
import Derived.Lib.ConvBytes
import Derived.Laws.Slices
import Derived.WalkKit
import Derived.KernelRfl
import Derived.RowKit3
import Derived.Deep.LoopGhost
import Derived.Deep.QuietTactic
import Derived.BigQuiet
import Derived.WideLaws
import Derived.Deep.DeepCutAuto
import Derived.Deep.CutBlock
import Derived.Deep.RegionHeld3
import Derived.Laws.Rows
import Derived.Lib.AppendStr
import Derived.ArgAppend
import Derived.Laws.IdiomCopy
import Derived.OrdersHeld
import Derived.Laws.BitsLemmas
import Derived.RowKit
import Derived.Laws.StructEq
import Derived.Maps.OwnSet
import Derived.Maps.RangeWalk
import Derived.Lib.BufferMore
import Derived.Lib.Bytealg
import Derived.Shelf.SlSortCmp.WholeK
import Derived.Shelf.Strings.Builder1
import Derived.Shelf.Small.Bits
import Derived.Shelf.Small.Strs
import Derived.Shelf.Strings.BuilderF
import Derived.Shelf.Strconv.Itoa0
import Derived.Shelf.SlSortCmp.QuietGrown
import Derived.Laws.CopyOwn
import Derived.Lib.Overlaps
import Derived.Deep.RegionLaw
import Derived.Lib.Builder
import Derived.Deep.DeepMust
import Derived.DeepKeys4
import Derived.Maps.Own
import Derived.ProofKit
import Derived.Deep.Strs
import Derived.Test.YtipahpkdddijmaaRows
import Derived.OpenShut
import Derived.ShutString
import Derived.ChangeOld
import Derived.SizedLaws
-- D2
namespace Go.Proofs.Ytipahpkdddijmaa.Q
open Go.RowKit Go.Proofs.YtipahpkdddijmaaW.PrintWords Go.Proofs.YtipahpkdddijmaaW.PrintLast Go.Proofs.YtipahpkdddijmaaW.PrintMore
set_option linter.unusedVariables false
set_option linter.unusedSimpArgs false

/-! ### plain laws: the greatest stamp -/
def wfN (n : S39) : Prop := 0 ≤ n.f0 ∧ n.f0 ≤ 18446744073709551615
theorem fewN_wf {l : List S39} (h : ∀ n ∈ l, wfN n) : ∀ n ∈ fewN l, wfN n := by
  intro n hn
  obtain ⟨m, hm, rfl⟩ := List.mem_map.1 hn
  exact h m (List.mem_of_mem_take hm)
theorem cnt_ge {l : List S39} {nm : ByteArray} {c : S39} (h : cnt l nm = some c) : ∀ n ∈ l, n.f1.f0 = nm → n.f0 ≤ c.f0 := by
  have gen : ∀ (l : List S39) (a : Option S39), ∀ c, l.foldl (cntStep nm) a = some c → (∀ o, a = some o → o.f0 ≤ c.f0) ∧ ∀ n ∈ l, n.f1.f0 = nm → n.f0 ≤ c.f0 := by
    intro l
    induction l with
    | nil => intro a c h; exact ⟨fun o ho => by have e : a = some c := h; rw [e] at ho; injection ho with ho; rw [ho]; exact Int.le_refl _, fun n hn => by cases hn⟩
    | cons x l ih =>
      intro a c h
      obtain ⟨h1, h2⟩ := ih _ c h
      by_cases hx : x.f1.f0 = nm
      · have e : cntStep nm a x = upd x a := if_pos hx
        rw [e] at h1
        cases a with
        | none =>
          have h3 := h1 x rfl
          exact ⟨fun o ho => (by cases ho), fun n hn en => by rcases List.mem_cons.1 hn with rfl | hn; exact h3; exact h2 n hn en⟩
        | some o =>
          unfold upd at h1
          simp only at h1
          split at h1
          · have h3 := h1 x rfl
            exact ⟨fun o' ho => by injection ho with ho; subst ho; omega, fun n hn en => by rcases List.mem_cons.1 hn with rfl | hn; exact h3; exact h2 n hn en⟩
          · have h3 := h1 o rfl
            exact ⟨fun o' ho => by injection ho with ho; subst ho; exact h3, fun n hn en => by rcases List.mem_cons.1 hn with rfl | hn; omega; exact h2 n hn en⟩
      · have e : cntStep nm a x = a := if_neg hx
        rw [e] at h1
        exact ⟨h1, fun n hn en => by rcases List.mem_cons.1 hn with rfl | hn; exact absurd en hx; exact h2 n hn en⟩
  exact (gen l none c h).2
/-! ### ChangeLast -/
end Go.Proofs.Ytipahpkdddijmaa.Q

-- E7
namespace Go.Proofs.Ytipahpkdddijmaa.Q
open Go.WideMaps Go.RowKit Go.Proofs.YtipahpkdddijmaaW.PrintWords Go.Proofs.YtipahpkdddijmaaW.PrintLast Go.Proofs.YtipahpkdddijmaaW.PrintMore Go.Maps
set_option linter.unusedVariables false
set_option linter.unusedSimpArgs false

/-! ### the law's own map: its keys are notes -/
def idN (n : S39) : S39 := ⟨n.f0, ⟨n.f1.f0, ⟨#[]⟩, false⟩⟩
theorem laidT : laidOutB Try.prog = true := by kernel_rfl
theorem klaw : Keyed Try.prog 39 := Keyed.of_law (deep_law_laid laidT (m := 3) (by omega) (of_decide_eq_true (by kernel_rfl)) (by kernel_rfl) (by kernel_rfl))
theorem ktypes : ∃ d, Try.prog.types.size + 1 = d + 1 + 1 + 1 := by
  have h : 2 ≤ Try.prog.types.size := of_decide_eq_true (by kernel_rfl)
  exact ⟨Try.prog.types.size - 2, by omega⟩
theorem lits9 (d : Nat) (s : ByteArray) (h : s.size ≤ maxLen) : Try.prog.keyLits (d + 1) 9 [.string s] = some [.string s.data.toList] := by
  unfold Program.keyLits
  simp only [Try.underlying9, h, if_true]
theorem lits4 (d : Nat) (b : Bool) : Try.prog.keyLits (d + 1) 4 [.bool b] = some [.bool b] := by
  unfold Program.keyLits
  simp only [Try.underlying4]
theorem lits35 (d : Nat) (n : Int) (h : (Lit.int .u64 n).wf = true) : Try.prog.keyLits (d + 1) 35 [.int .u64 n] = some [.int .u64 n] := by
  unfold Program.keyLits
  simp only [Try.underlying35, h, and_self, if_true]
theorem kkey39 : Try.prog.keyType 39 = true := by kernel_rfl
theorem kcells9 : Try.prog.cellsOf 9 = 1 := by kernel_rfl
theorem kcells4 : Try.prog.cellsOf 4 = 1 := by kernel_rfl
theorem kcells35 : Try.prog.cellsOf 35 = 1 := by kernel_rfl
theorem kcells37 : Try.prog.cellsOf 37 = 3 := by kernel_rfl
theorem kcells39 : Try.prog.cellsOf 39 = 4 := by kernel_rfl
theorem u64_wf {n : Int} (h : 0 ≤ n ∧ n ≤ 18446744073709551615) : (Lit.int .u64 n).wf = true := by
  show (decide ((IntKind.u64).min ≤ n) && decide (n ≤ (IntKind.u64).max)) = true
  rw [Bool.and_eq_true, decide_eq_true_eq, decide_eq_true_eq, show (IntKind.u64).min = 0 from rfl, show (IntKind.u64).max = 18446744073709551615 from rfl]
  exact h
theorem kforms (n : S39) : (noteV (idN n)).formed Try.prog 39 = true := by
  unfold Value.formed noteV
  simp only [Try.underlying39]
  simp [kcells39]
theorem lits37 (d : Nat) (a b : ByteArray) (g : Bool) (ha : a.size ≤ maxLen) (hb : b.size ≤ maxLen) : Try.prog.keyLits (d + 1 + 1) 37 [.string a, .string b, .bool g] = some [.string a.data.toList, .string b.data.toList, .bool g] := by
  unfold Program.keyLits
  simp only [Try.underlying37]
  simp [kcells37, kcells9, kcells4, lits9 d a ha, lits9 d b hb, lits4 d g]
theorem lits39 (d : Nat) (n : Int) (a b : ByteArray) (g : Bool) (hn : (Lit.int .u64 n).wf = true) (ha : a.size ≤ maxLen) (hb : b.size ≤ maxLen) : Try.prog.keyLits (d + 1 + 1 + 1) 39 [.int .u64 n, .string a, .string b, .bool g] = some [.int .u64 n, .string a.data.toList, .string b.data.toList, .bool g] := by
  unfold Program.keyLits
  simp only [Try.underlying39]
  simp [kcells39, kcells37, kcells35, lits35 (d + 1) n hn, lits37 d a b g ha hb]
theorem key_some (n : S39) (hw : wfN n) (hs : n.f1.f0.size ≤ maxLen) : ∃ kl, keyOf Try.prog 39 (noteV (idN n)) = some kl := by
  have hk : ∀ d, Try.prog.keyLits (d + 1 + 1 + 1) 39 (noteV (idN n)).cells.toList = some [.int .u64 n.f0, .string n.f1.f0.data.toList, .string [], .bool false] := fun d => lits39 d n.f0 n.f1.f0 ⟨#[]⟩ false (u64_wf hw) hs (Nat.zero_le _)
  obtain ⟨d, hd⟩ := ktypes
  unfold keyOf
  simp only [Try.underlying39, kkey39, kforms, Bool.and_self, if_true, Bool.true_and]
  rw [hd, hk]
  exact ⟨_, rfl⟩
def boolR : Value → Option (DataW Unit × List MemPlace)
  | .bool b => some (.lit (.bool b), [])
  | _ => none
theorem boolR_inv {v : Value} {z : DataW Unit × List MemPlace} (h : boolR v = some z) : ∃ b, v = .bool b ∧ z = (.lit (.bool b), []) := by
  cases v <;> simp only [boolR] at h <;> try (cases h; done)
  injection h with h
  exact ⟨_, rfl, h.symm⟩
def seen (l : List S39) (n : S39) : Bool := l.any (fun m => decide (m.f0 = n.f0) && decide (m.f1.f0 = n.f1.f0))
theorem seen_iff {l : List S39} {n : S39} : seen l n = true ↔ ∃ m ∈ l, m.f0 = n.f0 ∧ m.f1.f0 = n.f1.f0 := by
  unfold seen
  simp only [List.any_eq_true, Bool.and_eq_true, decide_eq_true_eq]
theorem seen_snoc (l : List S39) (x n : S39) : seen (l ++ [x]) n = (seen l n || (decide (x.f0 = n.f0) && decide (x.f1.f0 = n.f1.f0))) := by
  unfold seen
  simp
def HasSet (D : DataW Unit) (l : List S39) : Prop :=
  IsMap D ∧ ∀ (n : S39) (kl : Lit), keyOf Try.prog 39 (noteV (idN n)) = some kl → Maps.has D kl = seen l n ∧ (seen l n = true → ∀ z, D.atKey kl z = .lit (.bool true))
theorem hasSet_nil : HasSet (.map []) [] := ⟨isMap_empty, fun n kl _ => ⟨rfl, fun h => by cases h⟩⟩
theorem hasSet_put {D : DataW Unit} {l : List S39} {n : S39} {kl : Lit} (h : HasSet D l) (hk : keyOf Try.prog 39 (noteV (idN n)) = some kl) : HasSet (D.put kl (.lit (.bool true))) (l ++ [n]) := by
  refine ⟨h.1.put _ _, fun m km hm => ?_⟩
  obtain ⟨h1, h2⟩ := h.2 m km hm
  rw [seen_snoc]
  by_cases e : km = kl
  · subst e
    have e2 := klaw.inj hm hk
    have e3 : m.f0 = n.f0 ∧ m.f1.f0 = n.f1.f0 := by
      simp only [noteV, idN, Value.agg.injEq] at e2
      simp at e2
      exact e2
    have e4 : (seen l m || (decide (n.f0 = m.f0) && decide (n.f1.f0 = m.f1.f0))) = true := by simp [e3.1, e3.2]
    rw [e4]
    exact ⟨has_put_same h.1 (klaw.key hk) _, fun _ z => atKey_put_same h.1 (klaw.key hk) _ _⟩
  · have e3 : (decide (n.f0 = m.f0) && decide (n.f1.f0 = m.f1.f0)) = false := by
      cases hb : (decide (n.f0 = m.f0) && decide (n.f1.f0 = m.f1.f0)) with
      | false => rfl
      | true =>
        rw [Bool.and_eq_true, decide_eq_true_eq, decide_eq_true_eq] at hb
        refine absurd ?_ e
        have : idN m = idN n := by unfold idN; rw [hb.1, hb.2]
        rw [this, hk] at hm
        exact (Option.some.inj hm).symm
    rw [e3, Bool.or_false]
    refine ⟨by rw [has_put_other e]; exact h1, fun hs z => by rw [atKey_put_other e]; exact h2 hs z⟩
theorem bzero (w : World) : (zeroValue 4).run Try.prog w = .ok (.bool false) w := Try.zeroValue4 w
theorem lookS {W : World} {B k : Nat} {D : DataW Unit} {l : List S39} (hown : W.ownsMap Try.prog 39 boolR B k D) (hH : HasSet D l) {n : S39} {kl : Lit} (hk : keyOf Try.prog 39 (noteV (idN n)) = some kl) :
    (Instr.lookup 42 (.map (some B)) (noteV (idN n)) false).run Try.prog W = .ok (.bool (seen l n)) W := by
  obtain ⟨v, ps, hrun, hv⟩ := hown.lookup klaw Try.underlying42 (bzero W) (show boolR (.bool false) = some (.lit (.bool false), []) from rfl) hk
  obtain ⟨h1, h2⟩ := hH.2 n kl hk
  rw [hrun]
  obtain ⟨b, rfl, hz⟩ := boolR_inv hv
  have hz1 := congrArg Prod.fst hz
  simp only at hz1
  cases hc : seen l n
  · rw [hc] at h1
    rw [atKey_of_not_has h1] at hz1
    rw [← Lit.bool.inj (DataW.lit.inj hz1)]
  · rw [h2 hc] at hz1
    rw [← Lit.bool.inj (DataW.lit.inj hz1)]
theorem wpList_lookS (w : World) {ops : Array Oper} {rest : List Oper} {o : Oper} {a : Act} {Q : Exit → Act → World → Prop} (hg : o.guard = none) (m x : Operand) (hop : o.op = Op.lookup 42 m x false)
    (B k : Nat) (D : DataW Unit) (l : List S39) (hm : a.eval m = .map (some B)) (hown : w.ownsMap Try.prog 39 boolR B k D) (hH : HasSet D l) (n : S39) (kl : Lit) (hk : keyOf Try.prog 39 (noteV (idN n)) = some kl) (hx : a.eval x = noteV (idN n)) (q : Bool) (hq : seen l n = q)
    (hK : wpList Try.prog ops Q rest (a.put o.dst (.bool q)) w) :
    wpList Try.prog ops Q (o :: rest) a w := by
  subst hq
  refine wpList_plain hg fun K' hK' => ?_
  unfold Oper.wp
  simp [execOp, hop, hm, hx, lookS hown hH hk, Result.andThen]
  exact hK' _ _ hK
end Go.Proofs.Ytipahpkdddijmaa.Q

-- E8
namespace Go.Proofs.Ytipahpkdddijmaa.Q
open Go.WideMaps Go.RowKit Go.Proofs.YtipahpkdddijmaaW.PrintWords Go.Proofs.YtipahpkdddijmaaW.PrintLast Go.Proofs.YtipahpkdddijmaaW.PrintMore Go.Maps
set_option linter.unusedVariables false
set_option linter.unusedSimpArgs false

/-! ### ChangeTurns -/
theorem app39 {ops : Array Oper} {rest : List Oper} {o : Oper} {a : Act} {Q : Exit → Act → World → Prop} {w0 W : World} (base : Nat) (hgd : o.guard = none) (s x : Operand) (ho : o.op = .call { callee := .builtin .append, args := #[s, x], argTypes := #[22, 22] })
    (v : Value) (xs ys : List S39) (A : Option Addr) (m c : Nat) (ok : Nat → Prop) (hs : a.eval s = v) (hx : a.eval x = .slice A m c) (HO : Kd.R k39 39 W base ok v xs) (HR : Kd.C k39 W A m ys) (hfresh : ∀ k, W.heap.size ≤ k → ok k) (HB : Below base w0 W) (hbase : base ≤ W.heap.size) (hl : xs.length + m ≤ 100000)
    (h : ∀ v1 w1, Kd.R k39 39 w1 base ok v1 (xs ++ ys) → Below base w0 w1 → W.grownBy w1 v.ownBlock → (v1.ownBlock = v.ownBlock ∨ ∃ b, v1.ownBlock = some b ∧ W.heap.size ≤ b) → wpList Try.prog ops Q rest (a.put o.dst v1) w1) :
    wpList Try.prog ops Q (o :: rest) a W :=
  Kd.R_append_rows k39 base hgd s x 22 39 (.agg #[(.int .u64 0), (.string ⟨#[]⟩), (.string ⟨#[]⟩), (.bool false)]) 48 ho Try.underlying22 info39 rfl (by decide) (by decide) v xs ys A m c ok (fun _ => False) hs hx HO HR (fun _ _ h => h) (fun _ h => h.elim) hfresh HB hbase (by omega) h
def freshS (l : List S39) (k : Nat) : Prop := ∀ j m, j < k → l[j]? = some m → seen (l.take j) m = false
set_option maxHeartbeats 8000000 in
set_option maxRecDepth 100000 in
theorem turns.walk (A0 : Option Addr) (c0 : Nat) (l0 : List S39) (A1 : Option Addr) (c1 : Nat) (l1 : List S39) (w : World) (hr0 : Kd.C k39 w A0 l0.length l0) (hc0 : l0.length ≤ c0) (hr1 : Kd.C k39 w A1 l1.length l1) (hc1 : l1.length ≤ c1)
    (la lb al xs xa xb tu t2 pa : List S39) (hx1 : change_Count.f al = some xs) (hx2 : change_Count.f lb = some xb) (hx3 : change_Count.f la = some xa) (htu : lb ++ la = tu) (ht2 : tu ++ al = t2) (hpa : xb ++ xa = pa) (hpl : freshS al al.length → change_Count.f tu = some xs ∧ change_Count.f t2 = some xs ∧ change_Count.f pa = some xs) (hns : xs.length ≤ 202 ∧ xa.length ≤ 101 ∧ xb.length ≤ 101 ∧ al.length ≤ 202 ∧ tu.length ≤ 202 ∧ la.length ≤ 101 ∧ lb.length ≤ 101) (hla : cellarerlaw12_Few.f l0 = some la) (hlb : cellarerlaw12_Few.f l1 = some lb) (hal : la ++ lb = al) (hna : la.length ≤ 101) (hnb : lb.length ≤ 101) (hk : ∀ n ∈ al, ∃ kl, keyOf Try.prog 39 (noteV (idN n)) = some kl) :
    Calls Try.prog 4 #[.slice A0 l0.length c0, .slice A1 l1.length c1] w fun e w' => e = .returned (.bool true) ∧ Below w.heap.size w w' := by
  have HX1 := Lib.hid hx1
  have HX2 := Lib.hid hx2
  have HX3 := Lib.hid hx3
  have HTU := Lib.hid htu
  have HT2 := Lib.hid ht2
  have HPA := Lib.hid hpa
  have HPL := Lib.hid hpl
  have HNs := Lib.hid hns
  have HSM := Lib.hid (same12_self xs (by omega) 300 (by omega))
  clear hx1 hx2 hx3 htu ht2 hpa hpl hns
  have HR0 := Lib.hid hr0
  have HR1 := Lib.hid hr1
  have HC0 := Lib.hid hc0
  have HC1 := Lib.hid hc1
  have HLA := Lib.hid hla
  have HLB := Lib.hid hlb
  have HAL := Lib.hid hal
  have HNa := Lib.hid hna
  have HNb := Lib.hid hnb
  have HK := Lib.hid hk
  have HNl : Hid (al.length ≤ 202) := by unfold Hid; rw [← hal, List.length_append]; omega
  clear hr0 hc0 hr1 hc1 hla hlb hal hna hnb hk
  have hmm := @run_makeMap Try.prog
  have T1 : True := trivial
  go_enter Try.func4, Try.ntmps4
  go_wp2_with (first
    | (go_at_call 10; clear T1; go_must (refine (cellarerlaw12_Few.calls A0 c0 l0 la _ HR0.out HC0.out HLA.out).mono ?_; rintro e w1 ⟨va, rfl, ho, hb⟩; obtain ⟨Aa, ca, rfl⟩ := Kd.R_slice ho; have HO1 := Lib.hid ho; have HB1 := Lib.hid hb; clear ho hb))
    | (go_at_call 10;  go_must (refine (cellarerlaw12_Few.calls A1 c1 l1 lb _ (Kd.C_below HR1.out HB1.out) HC1.out HLB.out).mono ?_; rintro e w2 ⟨vb, rfl, ho, hb⟩; obtain ⟨Ab, cb, rfl⟩ := Kd.R_slice ho; have HCa := Lib.hid (Kd.C_below (Kd.R_reads' HO1.out).2.2 hb); have HLEa := Lib.hid (Kd.R_reads' HO1.out).2.1; have HCb := Lib.hid (Kd.R_reads' ho).2.2; have HLEb := Lib.hid (Kd.R_reads' ho).2.1; have HB2 := Lib.hid (HB1.out.trans (hb.mono HB1.out.size)); clear HO1 ho hb))
    | ((with_reducible refine gate_dst (N := 16) rfl ?_); go_must (refine Kd.R_lit k39 w2.heap.size 39 ?hg (N := 16) ?hd (w0 := w2) (xs := ([] : List S39)) (inner := []) (ok := fun _ => True) (okp := fun _ => True) ?hr ?hp (fun _ hk => hk) trivial (Below.refl _ _) (Nat.le_refl _) (by simp) ?_; (case hd => rfl); (case hg => rfl); (case hr => first | (go_simp; done) | (go_simp; rfl)); (case hp => exact (Reps.none _ _)); intro v16 w3 ho hb hg_ _; have HO3 := Lib.hid ho; have HB3 := Lib.hid hb; clear ho hb hg_))
    | ((with_reducible refine gate_builtin (b := .append) (xs := #[.tmp 16, .tmp 17]) rfl ?_); at_builtin; go_must (refine app39 (w0 := w2) w2.heap.size rfl (.tmp 16) (.tmp 17) rfl v16 [] la Aa _ ca (fun _ => True) rfl rfl HO3.out (Kd.C_below HCa.out HB3.out) (fun _ _ => trivial) HB3.out HB3.out.size (by have := HNa.out; simp; omega) ?_; intro v18 w4 ho hb hg hat; rw [List.nil_append] at ho; have HO4 := Lib.hid ho; have HB4 := Lib.hid hb; clear HO3 ho hb hg hat))
    | ((with_reducible refine gate_builtin (b := .append) (xs := #[.tmp 18, .tmp 19]) rfl ?_); at_builtin; go_must (refine app39 (w0 := w2) w2.heap.size rfl (.tmp 18) (.tmp 19) rfl v18 la lb Ab _ cb (fun _ => True) rfl rfl HO4.out (Kd.C_below HCb.out HB4.out) (fun _ _ => trivial) HB4.out HB4.out.size (by have := HNa.out; have := HNb.out; omega) ?_; intro v20 w5 ho hb hg hat; rw [HAL.out] at ho; obtain ⟨Al, cl, rfl⟩ := Kd.R_slice ho; have HCl := Lib.hid (Kd.R_reads' ho).2.2; have HLEl := Lib.hid (Kd.R_reads' ho).2.1; have HCa5 := Lib.hid (Kd.C_below HCa.out hb); have HCb5 := Lib.hid (Kd.C_below HCb.out hb); have HB5 := Lib.hid (HB2.out.trans (hb.mono HB2.out.size)); clear HO4 ho hb hg hat HCa HCb)))
  clear hmm
  have HM0 : Hid ((w5.alloc (.map #[] 0)).ownsMap Try.prog 39 boolR w5.heap.size 0 (.map [])) := World.ownsMap_made w5 _ _ _
  have HL0 : Hid (Below w5.heap.size w5 (w5.alloc (.map #[] 0))) := (Below.refl w5.heap.size w5).alloc (Nat.le_refl _) _
  go_loopw [7] (fun i wr => ∃ (k : Nat) (D : DataW Unit), i = .int .i64 k ∧ k ≤ al.length ∧ Hid (HasSet D (al.take k)) ∧ Hid (wr.ownsMap Try.prog 39 boolR w5.heap.size k D) ∧ Hid (Below w5.heap.size w5 wr) ∧ Hid (freshS al k)) (fun i _ => al.length - (intOf i).toNat)
  case atStart => exact ⟨0, .map [], rfl, Nat.zero_le _, hasSet_nil, HM0, HL0, fun j m hj => by omega⟩
  case round =>
    obtain ⟨k, D, rfl, hk, HS, HM, HL, HF⟩ := hrel
    by_cases hlt : k < al.length
    · obtain ⟨ad, e', d0, d1, d2, d3⟩ := at39 HCl.out HL.out k hlt
      subst e'
      have p0 : (0 : Int) ≤ (k : Int) := by omega
      have p1 : (k : Int) < (al.length : Int) := by omega
      have hbig : (al.length : Int) ≤ 9223372036854775807 := by have := HNl.out; omega
      obtain ⟨kl, hkl⟩ := HK.out al[k] (List.getElem_mem hlt)
      have HKL := Lib.hid hkl
      have HTS := Lib.hid (take_snoc al k hlt)
      have HG : Hid (al[k]? = some al[k]) := List.getElem?_eq_getElem hlt
      have HMl : Hid (w5.heap.size < wr.heap.size) := HM.out.lt
      clear hkl
      generalize al[k] = n at *
      have y0 := World.new_ne wr _ d0
      have y1 := World.new_ne wr _ d1
      go_wp2
      go_region_held3 (fun W => W.cell? (ad.add (k * 4)) = some (.int .u64 n.f0) ∧ W.cell? ⟨(ad.add (k * 4)).block, (ad.add (k * 4)).off + 1, none⟩ = some (.string n.f1.f0)) (go_keep) (fail)
      generalize hW9 : (wr.alloc (.cells #[.int .u64 n.f0, .string n.f1.f0, .string ⟨#[]⟩, .bool false] 39)).drew = W9
      have K9 : Hid (W9.heap[wr.heap.size]? = some (.cells #[.int .u64 n.f0, .string n.f1.f0, .string ⟨#[]⟩, .bool false] 39 (0, 0))) := by rw [← hW9]; exact blk_new wr _
      have HM9 : Hid (W9.ownsMap Try.prog 39 boolR w5.heap.size k D) := by rw [← hW9]; exact (owns_below HM.out (below_drew1 ((Below.refl _ _).alloc (Nat.le_refl _) _)))
      have HL9 : Hid (Below w5.heap.size w5 W9) := by rw [← hW9]; exact below_drew1 (HL.out.alloc HL.out.size _)
      clear hW9
      generalize wr.heap.size = g at *
      have q0 := (blk_cell K9.out 0).trans (rfl : _ = some (Value.int .u64 n.f0))
      have q1 := (blk_cell K9.out 1).trans (rfl : _ = some (Value.string n.f1.f0))
      have q2 := (blk_cell K9.out 2).trans (rfl : _ = some (Value.string ⟨#[]⟩))
      have q3 := (blk_cell K9.out 3).trans (rfl : _ = some (Value.bool false))
      cases hq : seen (al.take k) n
      · have HQ := Lib.hid hq
        clear hq
        go_wp2_with (first | ((with_reducible refine gate_dst (N := 43) rfl ?_); go_must (refine wpList_lookS _ rfl (.tmp 41) (.tmp 42) rfl w5.heap.size k D (al.take k) rfl HM9.out HS.out n kl HKL.out rfl false HQ.out ?_)) | ((with_reducible refine gate_ (.mapUpdate 42 (.tmp 45) (.tmp 46) (.const (.bool true))) rfl ?_); go_must (refine wpList_mapUpdate_own _ rfl (.tmp 45) (.tmp 46) (.const (.bool true)) 42 rfl 39 4 klaw Try.underlying42 boolR w5.heap.size k D rfl HM9.out (by unfold maxLen; have := HNl.out; omega) (noteV (idN n)) (.bool true) kl rfl rfl HKL.out (.lit (.bool true)) [] rfl ?_; intro w10 hown hgr; have HM10 := Lib.hid hown; have HL10 := Lib.hid (HL9.out.grown hgr HL9.out.size (fun j hj => by cases hj; exact Nat.le_refl _)); clear hown hgr)))
        go_roundw
        case rel => exact ⟨k + 1, _, by go_num, hlt, by unfold Hid; rw [HTS.out]; exact hasSet_put HS.out HKL.out, HM10, HL10, by
          intro j m hj hm
          by_cases e : j = k
          · subst e
            rw [HG.out] at hm
            injection hm with hm
            subst hm
            exact HQ.out
          · exact HF.out j m (by omega) hm⟩
        case measure => simp [intOf]; omega
      · have HQ := Lib.hid hq
        clear hq
        go_wp2_with (first | ((with_reducible refine gate_dst (N := 43) rfl ?_); go_must (refine wpList_lookS _ rfl (.tmp 41) (.tmp 42) rfl w5.heap.size k D (al.take k) rfl HM9.out HS.out n kl HKL.out rfl true HQ.out ?_)) | (go_at_call 18;  go_must (refine (awake.walk _).mono ?_; rintro e w10 ⟨rfl, hb⟩; have HZ := Lib.hid (HB5.out.trans ((HL9.out.trans (hb.mono HL9.out.size)).mono HB5.out.size)); clear hb)))
        go_ret
        exact ⟨rfl, HZ.out⟩
    · obtain rfl : k = al.length := by omega
      obtain ⟨hx4, hx5, hx6⟩ := HPL.out HF.out
      have HX4 := Lib.hid hx4
      have HX5 := Lib.hid hx5
      have HX6 := Lib.hid hx6
      clear hx4 hx5 hx6
      have U1 : True := trivial
      have U2 : True := trivial
      have U3 : True := trivial
      have U4 : True := trivial
      have U5 : True := trivial
      have U6 : True := trivial
      have V1 : True := trivial
      have V2 : True := trivial
      have V3 : True := trivial
      go_wp2_with (first
        | (go_at_call 19; clear U1; go_must (refine (change_Count.calls Al cl al xs _ (Kd.C_below HCl.out HL.out) HLEl.out HX1.out).mono ?_; rintro e w11 ⟨vx, rfl, ho, hb⟩; obtain ⟨Ax, cx, rfl⟩ := Kd.R_slice ho; have HCx := Lib.hid (Kd.R_reads' ho).2.2; have HLEx := Lib.hid (Kd.R_reads' ho).2.1; have HL11 := Lib.hid (HL.out.trans (hb.mono HL.out.size)); clear ho hb))
        | ((with_reducible refine gate_dst (N := 49) rfl ?_); go_must (refine Kd.R_lit k39 w11.heap.size 39 ?hg (N := 49) ?hd (w0 := w11) (xs := ([] : List S39)) (inner := []) (ok := fun _ => True) (okp := fun _ => True) ?hr ?hp (fun _ hk => hk) trivial (Below.refl _ _) (Nat.le_refl _) (by simp) ?_; (case hd => rfl); (case hg => rfl); (case hr => first | (go_simp; done) | (go_simp; rfl)); (case hp => exact (Reps.none _ _)); intro v49 w12 ho hb hg_ _; have HO12 := Lib.hid ho; have HB12 := Lib.hid hb; clear ho hb hg_))
        | ((with_reducible refine gate_builtin (b := .append) (xs := #[.tmp 49, .tmp 50]) rfl ?_); at_builtin; go_must (refine app39 (w0 := w11) w11.heap.size rfl (.tmp 49) (.tmp 50) rfl v49 [] lb Ab _ cb (fun _ => True) rfl rfl HO12.out (Kd.C_below HCb5.out (HL11.out.trans (HB12.out.mono HL11.out.size))) (fun _ _ => trivial) HB12.out HB12.out.size (by have := HNs.out; simp; omega) ?_; intro v51 w13 ho hb hg hat; rw [List.nil_append] at ho; have HO13 := Lib.hid ho; have HB13 := Lib.hid hb; clear HO12 ho hb hg hat))
        | ((with_reducible refine gate_builtin (b := .append) (xs := #[.tmp 51, .tmp 52]) rfl ?_); at_builtin; go_must (refine app39 (w0 := w11) w11.heap.size rfl (.tmp 51) (.tmp 52) rfl v51 lb la Aa _ ca (fun _ => True) rfl rfl HO13.out (Kd.C_below HCa5.out (HL11.out.trans (HB13.out.mono HL11.out.size))) (fun _ _ => trivial) HB13.out HB13.out.size (by have := HNs.out; simp; omega) ?_; intro v53 w14 ho hb hg hat; rw [HTU.out] at ho; obtain ⟨At, ct, rfl⟩ := Kd.R_slice ho; have HOt := Lib.hid ho; have HTlt := Lib.hid (Kd.R_lt ho); have HX := Lib.hid hb; have HL14 := Lib.hid (HL11.out.trans (hb.mono HL11.out.size)); clear HO13 ho hb hg hat))
        | ((with_reducible refine gate_dst (N := 54) rfl ?_); go_must (refine Kd.R_lit k39 w14.heap.size 39 ?hg (N := 54) ?hd (w0 := w14) (xs := ([] : List S39)) (inner := []) (ok := fun q => w14.heap.size ≤ q) (okp := fun _ => False) ?hr ?hp (fun _ hk => hk.elim) (Nat.le_refl _) (Below.refl _ _) (Nat.le_refl _) (by simp) ?_; (case hd => rfl); (case hg => rfl); (case hr => first | (go_simp; done) | (go_simp; rfl)); (case hp => exact (Reps.none _ _)); intro v54 w15 ho hb hg_ _; have HOp := Lib.hid ho; have HP := Lib.hid hb; clear ho hb hg_))
        | (go_at_call 19; clear U2; go_must (refine (change_Count.calls Ab cb lb xb _ (Kd.C_below HCb5.out (HL14.out.trans (HP.out.mono HL14.out.size))) HLEb.out HX2.out).mono ?_; rintro e w16 ⟨vcb, rfl, ho, hb⟩; obtain ⟨Acb, ccb, rfl⟩ := Kd.R_slice ho; have HCcb := Lib.hid (Kd.R_reads' ho).2.2; replace HOp := Lib.hid (Kd.R_below HOp.out hb); replace HP := Lib.hid (HP.out.trans (hb.mono HP.out.size)); clear ho hb))
        | ((with_reducible refine gate_builtin (b := .append) (xs := #[.tmp 54, .tmp 56]) rfl ?_); at_builtin; go_must (refine app39 (w0 := w14) w14.heap.size rfl (.tmp 54) (.tmp 56) rfl v54 [] xb Acb _ ccb (fun q => w14.heap.size ≤ q) rfl rfl HOp.out HCcb.out (fun q hq => Nat.le_trans HP.out.size hq) HP.out HP.out.size (by have := HNs.out; simp; omega) ?_; intro v57 w17 ho hb hg hat; rw [List.nil_append] at ho; replace HOp := Lib.hid ho; replace HP := Lib.hid hb; clear HCcb ho hb hg hat))
        | (go_at_call 19; clear U3; go_must (refine (change_Count.calls Aa ca la xa _ (Kd.C_below HCa5.out (HL14.out.trans (HP.out.mono HL14.out.size))) HLEa.out HX3.out).mono ?_; rintro e w18 ⟨vca, rfl, ho, hb⟩; obtain ⟨Aca, cca, rfl⟩ := Kd.R_slice ho; have HCca := Lib.hid (Kd.R_reads' ho).2.2; replace HOp := Lib.hid (Kd.R_below HOp.out hb); replace HP := Lib.hid (HP.out.trans (hb.mono HP.out.size)); clear ho hb))
        | ((with_reducible refine gate_builtin (b := .append) (xs := #[.tmp 57, .tmp 59]) rfl ?_); at_builtin; go_must (refine app39 (w0 := w14) w14.heap.size rfl (.tmp 57) (.tmp 59) rfl v57 xb xa Aca _ cca (fun q => w14.heap.size ≤ q) rfl rfl HOp.out HCca.out (fun q hq => Nat.le_trans HP.out.size hq) HP.out HP.out.size (by have := HNs.out; simp; omega) ?_; intro v60 w19 ho hb hg hat; rw [HPA.out] at ho; obtain ⟨Ap, cp, rfl⟩ := Kd.R_slice ho; replace HOp := Lib.hid ho; replace HP := Lib.hid hb; replace HOt := Lib.hid (Kd.R_below HOt.out hb); replace HX := Lib.hid (HX.out.trans (hb.mono HX.out.size)); clear HCca ho hb hg hat))
        | (go_at_call 19; clear U4; go_must (refine (change_Count.calls At ct tu xs _ (Kd.R_reads' HOt.out).2.2 (Kd.R_reads' HOt.out).2.1 HX4.out).mono ?_; rintro e w20 ⟨vq, rfl, ho, hb⟩; obtain ⟨Aq, cq, rfl⟩ := Kd.R_slice ho; have HCq := Lib.hid (Kd.R_reads' ho).2.2; have HLq := Lib.hid (Kd.R_reads' ho).2.1; replace HOt := Lib.hid (Kd.R_below HOt.out hb); replace HOp := Lib.hid (Kd.R_below HOp.out hb); replace HX := Lib.hid (HX.out.trans (hb.mono HX.out.size)); clear ho hb))
        | (go_at_call 15; clear V1; go_must (refine (cellarerref12_Same.calls 300 Aq cq xs Ax cx xs true _ HCq.out HLq.out (Kd.C_below HCx.out HX.out) HLEx.out HSM.out).mono ?_; rintro e ws1 ⟨rfl, hd⟩; have hb := (by first | exact hd.below | exact hd : Below _ _ _); replace HOt := Lib.hid (Kd.R_below HOt.out hb); replace HOp := Lib.hid (Kd.R_below HOp.out hb); replace HX := Lib.hid (HX.out.trans (hb.mono HX.out.size)); clear HCq HLq hd hb))
        | ((with_reducible refine gate_builtin (b := .append) (xs := #[.tmp 66, .tmp 67]) rfl ?_); (try (refine gate_guard (by rfl) ?_; dsimp only)); at_builtin; go_must (refine app39 (w0 := w11) w11.heap.size rfl (.tmp 66) (.tmp 67) rfl (.slice At tu.length ct) tu al Al _ cl (fun _ => True) rfl rfl HOt.out (Kd.C_below HCl.out (HL11.out.trans (HX.out.mono HL11.out.size))) (fun _ _ => trivial) HX.out HX.out.size (by have := HNs.out; simp; omega) ?_; intro v68 w22 ho hb hg hat; rw [HT2.out] at ho; obtain ⟨A2, c2, rfl⟩ := Kd.R_slice ho; have HC2 := Lib.hid (Kd.R_reads' ho).2.2; have HL2 := Lib.hid (Kd.R_reads' ho).2.1; replace HOp := Lib.hid (Kd.R_grown HOp.out hg (fun q hq e => by have := HTlt.out q e.symm; omega)); replace HX := Lib.hid hb; clear HOt ho hb hg hat))
        | (go_at_call 19; clear U5; go_must (refine (change_Count.calls A2 c2 t2 xs _ HC2.out HL2.out HX5.out).mono ?_; rintro e w23 ⟨vr, rfl, ho, hb⟩; obtain ⟨Ar, cr, rfl⟩ := Kd.R_slice ho; have HCr := Lib.hid (Kd.R_reads' ho).2.2; have HLr := Lib.hid (Kd.R_reads' ho).2.1; replace HOp := Lib.hid (Kd.R_below HOp.out hb); replace HX := Lib.hid (HX.out.trans (hb.mono HX.out.size)); clear ho hb HC2))
        | (go_at_call 15; clear V2; go_must (refine (cellarerref12_Same.calls 300 Ar cr xs Ax cx xs true _ HCr.out HLr.out (Kd.C_below HCx.out HX.out) HLEx.out HSM.out).mono ?_; rintro e ws2 ⟨rfl, hd⟩; have hb := (by first | exact hd.below | exact hd : Below _ _ _); replace HOp := Lib.hid (Kd.R_below HOp.out hb); replace HX := Lib.hid (HX.out.trans (hb.mono HX.out.size)); clear HCr HLr hd hb))
        | (go_at_call 19; clear U6; go_must (refine (change_Count.calls Ap cp pa xs _ (Kd.R_reads' HOp.out).2.2 (Kd.R_reads' HOp.out).2.1 HX6.out).mono ?_; rintro e w25 ⟨vs, rfl, ho, hb⟩; obtain ⟨As, cs, rfl⟩ := Kd.R_slice ho; have HCs := Lib.hid (Kd.R_reads' ho).2.2; have HLs := Lib.hid (Kd.R_reads' ho).2.1; replace HOp := Lib.hid (Kd.R_below HOp.out hb); replace HX := Lib.hid (HX.out.trans (hb.mono HX.out.size)); clear ho hb))
        | (go_at_call 15; clear V3; go_must (refine (cellarerref12_Same.calls 300 As cs xs Ax cx xs true _ HCs.out HLs.out (Kd.C_below HCx.out HX.out) HLEx.out HSM.out).mono ?_; rintro e ws3 ⟨rfl, hd⟩; have hb := (by first | exact hd.below | exact hd : Below _ _ _); replace HOp := Lib.hid (Kd.R_below HOp.out hb); replace HX := Lib.hid (HX.out.trans (hb.mono HX.out.size)); clear HCs HLs hd hb))
        | (go_at_call 18;  go_must (refine (awake.walk _).mono ?_; rintro e w27 ⟨rfl, hb⟩; have HZ := Lib.hid (HB5.out.trans (((HL11.out.trans (HX.out.mono HL11.out.size)).trans (hb.mono (HL11.out.trans (HX.out.mono HL11.out.size)).size)).mono HB5.out.size)); clear hb)))
      go_ret
      exact ⟨rfl, HZ.out⟩
end Go.Proofs.Ytipahpkdddijmaa.Q

-- D5
namespace Go.Proofs.Ytipahpkdddijmaa.Q
open Go.RowKit Go.Proofs.YtipahpkdddijmaaW.PrintWords Go.Proofs.YtipahpkdddijmaaW.PrintLast Go.Proofs.YtipahpkdddijmaaW.PrintMore
set_option linter.unusedVariables false
set_option linter.unusedSimpArgs false

/-! ### what counts hangs on no order -/
theorem fresh_uniq {l : List S39} (h : freshS l l.length) : ∀ m ∈ l, ∀ n ∈ l, m.f0 = n.f0 → m.f1.f0 = n.f1.f0 → m = n := by
  have key : ∀ (i j : Nat) (hi : i < l.length) (hj : j < l.length), i < j → l[i].f0 = l[j].f0 → l[i].f1.f0 = l[j].f1.f0 → False := by
    intro i j hi hj hij e1 e2
    have h1 := h j l[j] hj (List.getElem?_eq_getElem hj)
    have h2 : seen (l.take j) l[j] = true := seen_iff.2 ⟨l[i], List.mem_take_iff_getElem.2 ⟨i, by omega, rfl⟩, e1, e2⟩
    rw [h1] at h2
    cases h2
  intro m hm n hn e1 e2
  obtain ⟨i, hi, rfl⟩ := List.getElem_of_mem hm
  obtain ⟨j, hj, rfl⟩ := List.getElem_of_mem hn
  rcases Nat.lt_trichotomy i j with h1 | h1 | h1
  · exact (key i j hi hj h1 e1 e2).elim
  · subst h1; rfl
  · exact (key j i hj hi h1 e1.symm e2.symm).elim
theorem cnt_max {l : List S39} {nm : ByteArray} {c : S39} (hc : c ∈ l) (hn : c.f1.f0 = nm) (hm : ∀ n ∈ l, n.f1.f0 = nm → n.f0 ≤ c.f0) (hu : ∀ n ∈ l, n.f1.f0 = nm → n.f0 = c.f0 → n = c) : cnt l nm = some c := by
  cases h : cnt l nm with
  | none => exact absurd hn (cnt_none' h c hc)
  | some d =>
    have h1 := cnt_ge h c hc hn
    have h2 := hm d (cnt_mem h) (cnt_name h)
    rw [hu d (cnt_mem h) (cnt_name h) (by omega)]
theorem cnt_sub {l L : List S39} (hu : ∀ m ∈ l, ∀ n ∈ l, m.f0 = n.f0 → m.f1.f0 = n.f1.f0 → m = n) (hs : ∀ n ∈ L, n ∈ l) (hc : ∀ nm c, cnt l nm = some c → c ∈ L) (nm : ByteArray) : cnt L nm = cnt l nm := by
  cases h : cnt l nm with
  | none => exact cnt_none (fun n hn => cnt_none' h n (hs n hn))
  | some c =>
    refine cnt_max (hc nm c h) (cnt_name h) (fun n hn e => cnt_ge h n (hs n hn) e) (fun n hn e e2 => ?_)
    exact hu n (hs n hn) c (cnt_mem h) e2 (e.trans (cnt_name h).symm)
theorem countL_mem {l : List S39} {n : S39} (h : n ∈ countL l) : n ∈ l := cnt_mem ((countL_is l).mem n |>.1 h)
theorem countL_sub {l L : List S39} (hu : ∀ m ∈ l, ∀ n ∈ l, m.f0 = n.f0 → m.f1.f0 = n.f1.f0 → m = n) (hs : ∀ n ∈ L, n ∈ l) (hc : ∀ nm c, cnt l nm = some c → c ∈ L) : countL L = countL l := (countL_is L).unique (countL_is l) (cnt_sub hu hs hc)
theorem okL_append {a b : List S39} (ha : okL a = true) (hb : okL b = true) (hl : a.length + b.length ≤ 1000000) : okL (a ++ b) = true := okL_mk (by rw [List.length_append]; exact hl) (fun n hn => by
  rcases List.mem_append.1 hn with hn | hn
  · exact okL_size ha n hn
  · exact okL_size hb n hn)
theorem turnsRow (A0 : Option Addr) (c0 : Nat) (l0 : List S39) (A1 : Option Addr) (c1 : Nat) (l1 : List S39) (w : World) (hr0 : Kd.C k39 w A0 l0.length l0) (hc0 : l0.length ≤ c0) (hr1 : Kd.C k39 w A1 l1.length l1) (hc1 : l1.length ≤ c1)
    (hw0 : ∀ n ∈ l0, wfN n) (hw1 : ∀ n ∈ l1, wfN n) :
    Calls Try.prog 4 #[.slice A0 l0.length c0, .slice A1 l1.length c1] w fun e w' => e = .returned (.bool true) ∧ Below w.heap.size w w' := by
  have wa := fewN_wf hw0
  have wb := fewN_wf hw1
  have ka := okL_few l0
  have kb := okL_few l1
  have na := fewN_len l0
  have nb := fewN_len l1
  have hfa : cellarerlaw12_Few.f l0 = some (fewN l0) := rfl
  have hfb : cellarerlaw12_Few.f l1 = some (fewN l1) := rfl
  generalize fewN l0 = la at *
  generalize fewN l1 = lb at *
  have kal : okL (la ++ lb) = true := okL_append ka kb (by omega)
  have ktu : okL (lb ++ la) = true := okL_append kb ka (by omega)
  have kt2 : okL (lb ++ la ++ (la ++ lb)) = true := okL_append ktu kal (by simp only [List.length_append]; omega)
  have ca := countL_len la
  have cb := countL_len lb
  have kpa : okL (countL lb ++ countL la) = true := okL_append (okL_count kb) (okL_count ka) (by omega)
  have cal := countL_len (la ++ lb)
  rw [List.length_append] at cal
  refine turns.walk A0 c0 l0 A1 c1 l1 w hr0 hc0 hr1 hc1 la lb (la ++ lb) (countL (la ++ lb)) (countL la) (countL lb) (lb ++ la) (lb ++ la ++ (la ++ lb)) (countL lb ++ countL la) (count_f kal) (count_f kb) (count_f ka) rfl rfl rfl (fun hf => ?_)
    ⟨by omega, by omega, by omega, by simp only [List.length_append]; omega, by simp only [List.length_append]; omega, na, nb⟩ hfa hfb rfl na nb (fun n hn => key_some n ?_ (okL_size kal n hn))
  · have hu := fresh_uniq hf
    have hcm : ∀ nm c, cnt (la ++ lb) nm = some c → c ∈ lb ++ la := fun nm c h => by
      have := cnt_mem h
      rw [List.mem_append] at this ⊢
      exact this.symm
    refine ⟨?_, ?_, ?_⟩
    · rw [count_f ktu, countL_sub hu (fun n hn => by rw [List.mem_append] at hn ⊢; exact hn.symm) hcm]
    · rw [count_f kt2, countL_sub hu (fun n hn => by simp only [List.mem_append] at hn ⊢; rcases hn with (h | h) | h; exact Or.inr h; exact Or.inl h; exact h) (fun nm c h => List.mem_append.2 (Or.inl (hcm nm c h)))]
    · rw [count_f kpa, countL_sub hu (fun n hn => by
        rcases List.mem_append.1 hn with hn | hn
        · exact List.mem_append.2 (Or.inr (countL_mem hn))
        · exact List.mem_append.2 (Or.inl (countL_mem hn))) (fun nm c h => by
        have hname := cnt_name h
        have part : ∀ L : List S39, (∀ n ∈ L, n ∈ la ++ lb) → c ∈ L → c ∈ countL L := fun L hL hc =>
          ((countL_is L).mem c).2 (cnt_max hc rfl (fun n hn e => cnt_ge h n (hL n hn) (e.trans hname)) (fun n hn e e2 => hu n (hL n hn) c (cnt_mem h) e2 e))
        rcases List.mem_append.1 (cnt_mem h) with hc | hc
        · exact List.mem_append.2 (Or.inr (part la (fun n hn => List.mem_append.2 (Or.inl hn)) hc))
        · exact List.mem_append.2 (Or.inl (part lb (fun n hn => List.mem_append.2 (Or.inr hn)) hc)))]
  · rcases List.mem_append.1 hn with hn | hn
    · exact wa n hn
    · exact wb n hn
end Go.Proofs.Ytipahpkdddijmaa.Q

-- U2
namespace Go.Proofs.Ytipahpkdddijmaa.Q
open Go.RowKit Go.Proofs.YtipahpkdddijmaaW.PrintWords Go.Proofs.YtipahpkdddijmaaW.PrintLast Go.Proofs.YtipahpkdddijmaaW.PrintMore
set_option linter.unusedVariables false
set_option linter.unusedSimpArgs false

/-! Openings that tell of each cell's own fitness, too. -/
def OpensQ {α : Type} (P : Program) (d : Kd α) (t : TypeId) (Q : α → Prop) : Prop :=
  ∀ (H : Type) (enc : TypeId × Value → H) (W : World) (n : Nat) (cs : List Value) (x : DataW H × List MemPlace), DataW.trod enc P W 0 (fun _ => true) true n t cs = some x → ∃ y : α, d.K W y cs ∧ Q y
set_option maxRecDepth 100000 in
theorem opensQ_C {α : Type} {P : Program} {d : Kd α} {t e : TypeId} (ht : P.underlying t = some (.slice e)) (hs : P.cellsOf e = d.sz) {Q : α → Prop} (he : OpensQ P d e Q) (z : α) (H : Type) (enc : TypeId × Value → H) (W : World) (n : Nat) (cs : List Value) (x : DataW H × List MemPlace)
    (h : DataW.trod enc P W 0 (fun _ => true) true n t cs = some x) : ∃ (l : List α) (A : Option Addr) (c : Nat), cs = [.slice A l.length c] ∧ l.length ≤ c ∧ d.C W A l.length l ∧ ∀ x ∈ l, Q x := by
  rcases DataW.trod_slice ht h with ⟨rfl, _⟩ | ⟨a, len, cap, elems, rest, m, _, rfl, _, _, hl, hm, hlen, hel, _, _⟩
  · exact ⟨[], none, 0, rfl, Nat.le_refl _, ⟨rfl, by simp, fun h0 => by simp at h0⟩, fun x hx => by cases hx⟩
  have each : ∀ i : Nat, ∃ p : α, i < len → Q p ∧ ∃ c : List Value, c.length = d.sz ∧ d.K W p c ∧ ∀ j u, c[j]? = some u → W.cell? (a.add (i * d.sz + j)) = some u := by
    intro i
    by_cases hi : i < len
    · have h1 := hel i hi
      rw [List.getElem?_eq_getElem (by omega), Option.bind_eq_some_iff] at h1
      obtain ⟨c, hc, ht'⟩ := h1
      obtain ⟨y, hy, hq⟩ := he H enc W m c _ ht'
      refine ⟨y, fun _ => ⟨hq, c, d.K_len hy, hy, fun j u hu => ?_⟩⟩
      obtain ⟨_, hcl, hcell⟩ := World.cells?_some hc
      have := hcell j (by have := (List.getElem?_eq_some_iff.1 hu).1; omega)
      rw [hs, add_add] at this
      rw [this, hu]
    · exact ⟨z, fun h => absurd h hi⟩
  obtain ⟨f, hf⟩ := Classical.skolem.1 each
  refine ⟨(List.range len).map f, some a, cap, by simp, by simpa using hl, ⟨by simp, by simp [maxLen] at hm ⊢; omega, fun _ => ⟨a, rfl, fun j p hj => ?_⟩⟩, fun x hx => by
    obtain ⟨j, hj, rfl⟩ := List.mem_map.1 hx
    exact (hf j (List.mem_range.1 hj)).1⟩
  rw [List.getElem?_map] at hj
  have hjl : j < len := by
    rcases Nat.lt_or_ge j len with h | h
    · exact h
    · rw [List.getElem?_eq_none (by simpa using h)] at hj; cases hj
  rw [List.getElem?_range hjl] at hj
  injection hj with hj
  subst hj
  exact (hf j hjl).2
theorem wf_u64 {n : Int} (h : (Lit.int .u64 n).wf = true) : 0 ≤ n ∧ n ≤ 18446744073709551615 := by
  have h2 : (decide ((IntKind.u64).min ≤ n) && decide (n ≤ (IntKind.u64).max)) = true := h
  rw [Bool.and_eq_true, decide_eq_true_eq, decide_eq_true_eq, show (IntKind.u64).min = 0 from rfl, show (IntKind.u64).max = 18446744073709551615 from rfl] at h2
  exact h2
set_option maxRecDepth 100000 in
theorem opensQ39 : OpensQ Try.prog k39 39 wfN := by
  intro H enc W n cs x h
  obtain ⟨y0, y1, m, rfl, hl, t0, t1⟩ := Go.ChangeShapes.trod_struct2 Try.underlying39 h
  rw [cells39] at hl
  match cs, hl with
  | [a, b, c, d], _ =>
    simp only [cells35, cells37, List.drop, List.take] at t0 t1
    obtain ⟨i, e0, _, wi⟩ := DataW.trod_int Try.underlying35 t0
    obtain ⟨y, hy⟩ := opens37 _ _ _ _ _ _ t1
    have e1 := k37_open hy
    injection e0 with e0; injection e1 with e1 e2; injection e2 with e2 e3; injection e3 with e3
    subst e0 e1 e2 e3
    exact ⟨⟨i, y⟩, k39_mk W ⟨i, y⟩, wf_u64 wi⟩
set_option maxRecDepth 100000 in
theorem openQ_row {α : Type} {d : Kd α} {t e : TypeId} (ht : Try.prog.underlying t = some (.slice e)) (hs : Try.prog.cellsOf e = d.sz) {Q : α → Prop} (he : OpensQ Try.prog d e Q) (z : α) {H : Type} {enc : TypeId × Value → H} {W : World} {base : Nat} {v : Value} {x : DataW H} {p : List MemPlace} (hv : Value.okWide Try.prog W .any base t v) (h : DataW.Trod enc Try.prog W 0 (fun _ => true) true t v x p) :
    ∃ (l : List α) (A : Option Addr) (c : Nat), v = .slice A l.length c ∧ l.length ≤ c ∧ d.C W A l.length l ∧ ∀ x ∈ l, Q x := by
  obtain ⟨a, n, c, rfl⟩ := Go.WideShapes.okWide_slice ht hv
  obtain ⟨m, hm⟩ := h
  obtain ⟨l, A, c', e, hle, hC, hQ⟩ := opensQ_C ht hs he z H enc W m _ _ hm
  refine ⟨l, A, c', ?_, hle, hC, hQ⟩
  simpa [Value.cells] using e
set_option maxRecDepth 100000 in
theorem openQ_notes {H : Type} {enc : TypeId × Value → H} {W : World} {base : Nat} {v : Value} {x : DataW H} {p : List MemPlace} (hv : Value.okWide Try.prog W .any base 22 v) (h : DataW.Trod enc Try.prog W 0 (fun _ => true) true 22 v x p) :
    ∃ (l : List S39) (A : Option Addr) (c : Nat), v = .slice A l.length c ∧ l.length ≤ c ∧ Kd.C k39 W A l.length l ∧ ∀ n ∈ l, wfN n := openQ_row Try.underlying22 cells39 opensQ39 z39 hv h
end Go.Proofs.Ytipahpkdddijmaa.Q

-- LawTurns
namespace Go.Proofs.Ytipahpkdddijmaa.changeTurns
open Go.ChangeShapes Go.WideShapes Go.ChangeAt Go.RowKit
open Go.ChangeMaps (open_string shut_string)
set_option linter.unusedVariables false

theorem ownChangeTurns : ownKnob Try.prog.godebug = none := by kernel_rfl
theorem laidOutChangeTurns : laidOutB Try.prog = true := by kernel_rfl
set_option maxRecDepth 100000 in
theorem lifted (os : Os) (started : os.Started) (H : Type) (enc : TypeId × Value → H) :
    ReturnsInHanded {} Try.checked os 4 .any (Rows.changeTurnsSpec.pre6 enc Try.prog Try.f4 Rows.changeTurnsRow.domain false) (Rows.changeTurnsSpec.post enc Try.prog Try.f4 false true false false) := by
  refine returnsInHanded_of_change_sized (C := Try.checked) ownChangeTurns started (by kernel_rfl) Try.func4
    (ChangeSpec.witness6 (enc := enc) (C := Try.checked) false ⟨#[], #[.slice none 0 0, .slice none 0 0], []⟩ 8 (by kernel_rfl) (by kernel_rfl) (by kernel_rfl) (by kernel_rfl)) ?_
  intro W base args ds gs before hval0 hW hcnd hsz0 _
  have hval : ∀ (j : Nat) t v, Try.f4.params[j]? = some t → args[j]? = some v → Value.okWide Try.prog W .any base t v := hval0
  have hW' := hW
  obtain ⟨p, q, hA0, hV, rfl, hfz, hnd⟩ := hW
  have hA : DataW.TrodAll enc Try.prog W 0 (fun _ => true) true Try.f4.params.toList args.toList ds p := hA0
  rw [Try.params4] at hA hval
  obtain ⟨v0, vs0, d0, ds0, p0, q0, hargs, rfl, rfl, h0, r0⟩ := trodAll_cons hA
  obtain ⟨v1, vs1, d1, ds1, p1, q1, rfl, rfl, rfl, h1, r1⟩ := trodAll_cons r0
  obtain ⟨rfl, rfl, rfl⟩ := trodAll_nil r1
  obtain rfl : args = #[v0, v1] := by cases args; simp_all
  obtain ⟨rfl, rfl⟩ := trodVars_none hV
  have k0 := h0
  have lt0 : ∀ x ∈ p0, x.block < W.heap.size := by obtain ⟨m, hm⟩ := k0; exact DataW.trod_lt m _ _ _ hm
  have k1 := h1
  have lt1 : ∀ x ∈ p1, x.block < W.heap.size := by obtain ⟨m, hm⟩ := k1; exact DataW.trod_lt m _ _ _ hm
  obtain ⟨l_0, A_0, c_0, rfl, hl_0, hC_0, hw_0⟩ := Q.openQ_notes (hval 0 22 v0 rfl rfl) h0
  obtain ⟨l_1, A_1, c_1, rfl, hl_1, hC_1, hw_1⟩ := Q.openQ_notes (hval 1 22 v1 rfl rfl) h1
  clear hA0 hval0 hsz0
  refine (Q.turnsRow A_0 c_0 l_0 A_1 c_1 l_1 W hC_0 hl_0 hC_1 hl_1 hw_0 hw_1).mono fun e W' ⟨he, bel⟩ => ?_
  subst he
  exact ⟨_, rfl, _, _, _, [], _, [], hW', trodAll_mk1 (shut_bool Try.underlying4 _), (trodAll_cons_mk (Below.trod laidOutChangeTurns (by kernel_rfl) (of_decide_eq_true (by kernel_rfl)) k0 bel lt0) (trodAll_cons_mk (Below.trod laidOutChangeTurns (by kernel_rfl) (of_decide_eq_true (by kernel_rfl)) k1 bel lt1) trodAll_mk0)), rfl, bel.frame _, fun h => by cases h⟩
theorem over : Rows.changeTurnsRow.holds Try.pinned (OpenSpec.ofChange Rows.changeTurnsSpec) :=
  OpenClaim.holds_of_wide 4 Try.f4 rfl rfl rfl rfl rfl rfl rfl ⟨rfl, rfl, rfl, rfl, rfl⟩ rfl rfl rfl rfl rfl (by kernel_rfl) Try.func4 (by kernel_rfl)
    (of_decide_eq_true (by kernel_rfl)) (by unfold Func.isWrapper; first | (rw [if_pos (by decide +kernel)]; kernel_rfl) | (rw [if_neg (by decide +kernel)]; exact ⟨rfl, rfl⟩))
    (fun os started H enc _ => lifted os started H enc)
end Go.Proofs.Ytipahpkdddijmaa.changeTurns
namespace Go.Proofs.Ytipahpkdddijmaa
open Go
/-- The row. -/
theorem changeTurns_holds : Rows.ChangeTurnsSaid := changeTurns.over
#print axioms changeTurns_holds
end Go.Proofs.Ytipahpkdddijmaa
