/- ItemsBack holds: what Diff gives brings one list to the other and back Part 1 of 1. -/
import Derived.Test.YtmckpkiodcmbeaaGreatCd4
import Derived.Test.YtmckpkiodcmbeaaGreatCb0
import Derived.Test.YtmckpkiodcmbeaaGreatProg
import Derived.Below
import Derived.Deep.Draws
import Derived.Deep.AppendLies
import Derived.Maps.AppendAt
import Derived.OwnWalk
import Derived.Laws.BytesArg
import Derived.Laws.MakeOwn
import Derived.Laws.OwnMore
import Derived.Deep.OwnRows
import Derived.Tactics
import Derived.Lib.ConvBytes
import Derived.Laws.Slices
import Derived.WalkKit
import Derived.KernelRfl
import Derived.RowKit3
import Derived.Deep.LoopGhost
import Derived.Deep.QuietTactic
import Derived.BigQuiet
import Derived.WideLaws
import Derived.Deep.DeepCutAuto
import Derived.Deep.CutBlock
import Derived.Deep.RegionHeld3
import Derived.Laws.Rows
import Derived.Lib.AppendStr
import Derived.ArgAppend
import Derived.Laws.IdiomCopy
import Derived.OrdersHeld
import Derived.Laws.BitsLemmas
import Derived.RowKit
import Derived.Laws.StructEq
import Derived.Maps.OwnSet
import Derived.Maps.RangeWalk
import Derived.Lib.BufferMore
import Derived.Lib.Bytealg
import Derived.Deep.DeepMust
import Derived.Shelf.SlSortCmp.WholeK
import Derived.Shelf.Strings.Builder1
import Derived.Shelf.Small.Bits
import Derived.Shelf.Small.Wraps
import Derived.Shelf.Strings.BuilderF
import Derived.Shelf.Strings.BuilderK
import Derived.Shelf.Strconv.Itoa0
import Derived.Shelf.Strings.Search1
import Derived.Shelf.Strings.Search2
import Derived.Shelf.Strings.Cut
import Derived.Shelf.LaysM
import Derived.Shelf.Strings.Shaped
import Derived.Shelf.Strings.Prefix
import Derived.Ground.Names2Prog
import Derived.Shelf.Slices.SearchI
import Derived.Lib.Builder
import Derived.Laws.Bits64b
import Derived.ProofKit
import Derived.Deep.Strs
import Derived.Test.YtmckpkiodcmbeaaGreatRows
import Derived.OpenShut
import Derived.ShutString
import Derived.ChangeOld
import Derived.SizedLaws
-- A2
namespace Go.Proofs.YtmckpkiodcmbeaaGreat.Q
open Go.RowKit Go.Proofs.YtmckpkiodcmbeaaGreatW.PrintWords Go.Proofs.YtmckpkiodcmbeaaGreatW.PrintLast Go.Proofs.YtmckpkiodcmbeaaGreatW.PrintMore
set_option linter.unusedVariables false
set_option linter.unusedSimpArgs false

/-! ### items as a function of names -/
theorem normFrom_self (x0 : List S35) (h : SI x0) : ∀ (n i : Nat), i + n = x0.length → normFrom (x0.take i) (x0.drop i) = x0
  | 0, i, e => by
    rw [List.drop_eq_nil_of_le (by omega), List.take_of_length_le (by omega)]; rfl
  | n + 1, i, e => by
    have hi : i < x0.length := by omega
    have hlt : ∀ a ∈ x0.take i, ltN a.f0 x0[i].f0 := by
      intro a ha
      obtain ⟨j, hj, rfl⟩ := List.getElem_of_mem ha
      rw [List.length_take] at hj
      rw [List.getElem_take]
      exact List.pairwise_iff_getElem.1 h j i (by omega) hi (by omega)
    have e2 : inL (x0.take i) x0[i] = x0.take (i + 1) := by
      unfold inL
      rw [List.filter_eq_self.2 (fun a ha => dnI_lt.2 (hlt a ha)), List.filter_eq_nil_iff.2 (fun a ha => by rw [upI_lt]; exact ltN_asymm (hlt a ha)), List.append_nil, take_snoc35 x0 i hi]
    rw [List.drop_eq_getElem_cons hi]
    show normFrom (inL (x0.take i) x0[i]) (x0.drop (i + 1)) = x0
    rw [e2]
    exact normFrom_self x0 h n (i + 1) (by omega)
theorem normL_self {x0 : List S35} (h : SI x0) : normL x0 = x0 := by
  have := normFrom_self x0 h x0.length 0 (by omega)
  rwa [List.take_zero, List.drop_zero] at this
theorem repF_self {x0 : List S35} (h : SI x0) : RepF x0 (valL x0) := by
  have := (normL_ok x0).2
  rwa [normL_self h] at this
/-! ### changes between -/
/-- A sorted run of changes, as a function. -/
theorem chgF_at : ∀ (C : List S33) (f : ByteArray → Option ByteArray) (nm : ByteArray), SC C → chgF f C nm = (match C.find? (fun c => decide (c.f0 = nm)) with | none => f nm | some c => if c.f2 = true then none else some c.f1)
  | [], f, nm, _ => rfl
  | c :: C, f, nm, h => by
    unfold SC at h
    rw [List.pairwise_cons] at h
    show chgF (stepF f c) C nm = _
    rw [chgF_at C (stepF f c) nm h.2]
    by_cases e : c.f0 = nm
    · rw [List.find?_cons_of_pos (by simpa using e)]
      have hn : C.find? (fun c => decide (c.f0 = nm)) = none := by
        rw [List.find?_eq_none]
        intro d hd
        simp only [decide_eq_true_eq]
        intro e2
        have := h.1 d hd
        rw [e, e2] at this
        exact ltN_irrefl _ this
      rw [hn]
      simp only
      unfold stepF delF putF
      split
      · simp [e]
      · simp [e]
    · rw [List.find?_cons_of_neg (by simpa using e)]
      cases C.find? (fun c => decide (c.f0 = nm)) with
      | some d => rfl
      | none =>
        simp only
        unfold stepF delF putF
        have e' : ¬ nm = c.f0 := fun h => e h.symm
        split <;> simp [e']
theorem chgF_diff (a b : List S35) : chgF (valL a) (diffL a b) = valL b := by
  funext nm
  rw [chgF_at _ _ _ (diffL_SC a b)]
  cases hf : (diffL a b).find? (fun c => decide (c.f0 = nm)) with
  | none =>
    simp only
    rw [List.find?_eq_none] at hf
    rw [← diffF_none]
    cases hd : diffF (valL a) (valL b) nm with
    | none => rfl
    | some c =>
      have hn := diffF_name hd
      have hm := (diffL_mem a b c).2 (by rw [hn]; exact hd)
      exact absurd (by simpa using hn) (hf c hm)
  | some c =>
    simp only
    have hm := List.mem_of_find?_eq_some hf
    have hn : c.f0 = nm := by simpa using List.find?_some hf
    have hd := (diffL_mem a b c).1 hm
    rw [hn] at hd
    unfold diffF at hd
    split at hd
    · rename_i h1 h2
      split at hd
      · cases hd
      · injection hd with hd; subst hd; rw [h1]; rfl
    · rename_i h1 h2
      injection hd with hd; subst hd; rw [h1]; rfl
    · rename_i h1 h2
      injection hd with hd; subst hd; rw [h1]; rfl
    · cases hd
/-- Items behind the changes to others are those. -/
theorem with_diff {x y : List S35} (hx : SI x) (hy : SI y) : withL (normL x) (diffL x y) = y := by
  rw [normL_self hx]
  obtain ⟨h1, h2⟩ := withL_ok (diffL x y) x _ hx (repF_self hx)
  rw [chgF_diff] at h2
  exact repF_unique h1 hy h2 (repF_self hy)
def SN (xs : List ByteArray) : Prop := xs.Pairwise ltN
theorem sortedN_ext : ∀ {xs ys : List ByteArray}, SN xs → SN ys → (∀ n, n ∈ xs ↔ n ∈ ys) → xs = ys
  | [], [], _, _, _ => rfl
  | [], y :: ys, _, _, h => by exact absurd ((h y).2 List.mem_cons_self) (by simp)
  | x :: xs, [], _, _, h => by exact absurd ((h x).1 List.mem_cons_self) (by simp)
  | x :: xs, y :: ys, hx, hy, h => by
    unfold SN at hx hy
    rw [List.pairwise_cons] at hx hy
    have e : x = y := by
      rcases List.mem_cons.1 ((h x).1 List.mem_cons_self) with e | h1
      · exact e
      · rcases List.mem_cons.1 ((h y).2 List.mem_cons_self) with e | h2
        · exact e.symm
        · exact absurd (hx.1 y h2) (ltN_asymm (hy.1 x h1))
    subst e
    rw [sortedN_ext (xs := xs) (ys := ys) hx.2 hy.2 (fun n => ?_)]
    constructor
    · intro hn
      rcases List.mem_cons.1 ((h n).1 (List.mem_cons_of_mem _ hn)) with rfl | h1
      · exact absurd (hx.1 n hn) (ltN_irrefl _)
      · exact h1
    · intro hn
      rcases List.mem_cons.1 ((h n).2 (List.mem_cons_of_mem _ hn)) with rfl | h1
      · exact absurd (hy.1 n hn) (ltN_irrefl _)
      · exact h1
theorem diffL_names (x y : List S35) : (diffL x y).map (·.f0) = (diffL y x).map (·.f0) := by
  have hs : ∀ a b, SN ((diffL a b).map (·.f0)) := fun a b => by unfold SN; rw [List.pairwise_map]; exact diffL_SC a b
  have hm : ∀ a b nm, nm ∈ (diffL a b).map (·.f0) ↔ valL a nm ≠ valL b nm := by
    intro a b nm
    rw [List.mem_map]
    constructor
    · rintro ⟨c, hc, rfl⟩ e
      have := (diffL_mem a b c).1 hc
      rw [diffF_none.2 e] at this
      cases this
    · intro h
      cases hd : diffF (valL a) (valL b) nm with
      | none => exact absurd (diffF_none.1 hd) h
      | some c =>
        have hn := diffF_name hd
        exact ⟨c, (diffL_mem a b c).2 (by rw [hn]; exact hd), hn⟩
  refine sortedN_ext (hs x y) (hs y x) (fun nm => ?_)
  rw [hm, hm]
  exact ⟨fun h e => h e.symm, fun h e => h e.symm⟩
end Go.Proofs.YtmckpkiodcmbeaaGreat.Q

-- K4
namespace Go.Proofs.YtmckpkiodcmbeaaGreat.Q
open Go.WideMaps Go.RowKit Go.Proofs.YtmckpkiodcmbeaaGreatW.PrintWords Go.Proofs.YtmckpkiodcmbeaaGreatW.PrintLast Go.Proofs.YtmckpkiodcmbeaaGreatW.PrintMore Go.Maps
set_option linter.unusedVariables false
set_option linter.unusedSimpArgs false

/-! ### law11.ItemsBack, by hand -/
theorem binOp_string_geq2 (t : TypeId) (a b : ByteArray) : binOp .geq t (.string a) (.string b) = pure (.bool (!(Op.bytesLess a.toList b.toList))) := by
  simp [binOp, Op.stringOp]
attribute [local go_sem] binOp_string_geq2
theorem at33 {w : World} {A : Option Addr} {l : List S33} (h : Kd.C k33 w A l.length l) (k : Nat) (hk : k < l.length) : ∃ ad, A = some ad ∧ w.cell? (ad.add (k * 3)) = some (.string l[k].f0) ∧ w.cell? ⟨(ad.add (k * 3)).block, (ad.add (k * 3)).off + 1, none⟩ = some (.string l[k].f1) ∧ w.cell? ⟨(ad.add (k * 3)).block, (ad.add (k * 3)).off + 2, none⟩ = some (.bool l[k].f2) := by
  obtain ⟨ad, e, c0, c1, c2⟩ := at_T33 h (k : Int) (by omega) (by omega)
  have er : rd_T33 l (k : Int) = l[k] := by unfold rd_T33; simp [hk]
  rw [er] at c0 c1 c2
  exact ⟨ad, e, c0, c1, c2⟩
structure LB {α : Type} (d : Kd α) (t : TypeId) (B : Nat) (l : List α) (A : Option Addr) (c : Nat) (w : World) : Prop where
  le : l.length ≤ c
  C : Kd.C d w A l.length l
theorem LB.of {α : Type} {d : Kd α} {t : TypeId} {B : Nat} {l : List α} {A : Option Addr} {c : Nat} {w : World} {ok : Nat → Prop} (h : Kd.R d t w B ok (.slice A l.length c) l) : LB d t B l A c w := ⟨(Kd.R_reads' h).2.1, (Kd.R_reads' h).2.2⟩
theorem LB.step {α : Type} {d : Kd α} {t : TypeId} {B : Nat} {l : List α} {A : Option Addr} {c : Nat} {w w1 : World} (h : LB d t B l A c w) (hb : Below w.heap.size w w1) : LB d t B l A c w1 := ⟨h.le, Kd.C_below h.C hb⟩
attribute [local go_sem] Oper.semAt_some
set_option maxHeartbeats 16000000 in
set_option maxRecDepth 100000 in
theorem back.walk (A0 : Option Addr) (c0 : Nat) (l0 : List S35) (A1 : Option Addr) (c1 : Nat) (l1 : List S35) (w : World) (hr0 : Kd.C k35 w A0 l0.length l0) (hc0 : l0.length ≤ c0) (hr1 : Kd.C k35 w A1 l1.length l1) (hc1 : l1.length ≤ c1)
    (f g a b : List S35) (d e : List S33) (q0 : cellarerlaw11_Few.f l0 = some f) (q1 : cellarerlaw11_Few.f l1 = some g) (q2 : items_With.f f [] = some a) (q3 : items_With.f g [] = some b) (q4 : items_Diff.f a b = some d) (q5 : items_Diff.f b a = some e) (hlen : d.length = e.length) (q6 : items_With.f a d = some b) (q7 : items_With.f b e = some a) (q8 : cellarerref11_Same.f 200000 a a = some true) (hbig : d.length ≤ 100000)
    (hn : ∀ (i : Nat) (h1 : i < d.length) (h2 : i < e.length), e[i].f0 = d[i].f0) (hs : ∀ (i : Nat) (h1 : i < d.length) (h2 : i + 1 < d.length), Op.bytesLess d[i].f0.toList d[i + 1].f0.toList = true) (hg : ∀ (i : Nat) (h1 : i < d.length) (h2 : i < e.length), (d[i].f2 && e[i].f2) = false) :
    Calls Tryz.prog 4 #[.slice A0 l0.length c0, .slice A1 l1.length c1] w fun e w' => e = .returned (.bool true) ∧ Below w.heap.size w w' := by
  have X0 : Hid (LB k35 35 0 l0 A0 c0 w) := ⟨hc0, hr0⟩
  have X1 : Hid (LB k35 35 0 l1 A1 c1 w) := ⟨hc1, hr1⟩
  have QQ := Lib.hid (And.intro q0 (And.intro q1 (And.intro q2 (And.intro q3 (And.intro q4 (And.intro q5 (And.intro q6 (And.intro q7 q8))))))))
  have HL := Lib.hid hlen
  have hlenI : (d.length : Int) = (e.length : Int) := by omega
  have HN := Lib.hid hn
  have HS := Lib.hid hs
  have HG := Lib.hid hg
  have HBIG := Lib.hid hbig
  clear hr0 hc0 hr1 hc1 q0 q1 q2 q3 q4 q5 q6 q7 q8 hlen hn hs hg hbig
  have T0 : True := trivial
  have T1 : True := trivial
  have T2 : True := trivial
  have T3 : True := trivial
  have T4 : True := trivial
  have T5 : True := trivial
  have T6 : True := trivial
  have T7 : True := trivial
  have T8 : True := trivial
  go_enter Tryz.func4, Tryz.ntmps4
  go_wp2_with (first
    | (go_at_call 5; clear T0; go_must (refine (cellarerlaw11_Few.calls A0 c0 l0 f _ X0.out.C X0.out.le QQ.out.1).mono ?_; rintro e_ w1 ⟨v1, rfl, ho, hb⟩; obtain ⟨Af, cf, rfl⟩ := Kd.R_slice ho; have YF := Lib.hid (LB.of ho); have BB := Lib.hid hb; replace X1 := Lib.hid (X1.out.step hb); clear ho hb))
    | (go_at_call 8; clear T1; go_must (refine (items_With.calls Af cf f none 0 [] a _ YF.out.C YF.out.le (Kd.C_nil _ _) (Nat.le_refl _) QQ.out.2.2.1).mono ?_; rintro e_ w2 ⟨v2, rfl, ho, hb⟩; obtain ⟨Aa, ca, rfl⟩ := Kd.R_slice ho; have YA := Lib.hid (LB.of ho); replace BB := Lib.hid (BB.out.trans (hb.mono BB.out.size)); replace X1 := Lib.hid (X1.out.step hb); clear ho hb))
    | (go_at_call 5; clear T2; go_must (refine (cellarerlaw11_Few.calls A1 c1 l1 g _ X1.out.C X1.out.le QQ.out.2.1).mono ?_; rintro e_ w3 ⟨v3, rfl, ho, hb⟩; obtain ⟨Ag, cg, rfl⟩ := Kd.R_slice ho; have YG := Lib.hid (LB.of ho); replace BB := Lib.hid (BB.out.trans (hb.mono BB.out.size)); replace YA := Lib.hid (YA.out.step hb); clear ho hb))
    | (go_at_call 8; clear T3; go_must (refine (items_With.calls Ag cg g none 0 [] b _ YG.out.C YG.out.le (Kd.C_nil _ _) (Nat.le_refl _) QQ.out.2.2.2.1).mono ?_; rintro e_ w4 ⟨v4, rfl, ho, hb⟩; obtain ⟨Ab, cb, rfl⟩ := Kd.R_slice ho; have YB := Lib.hid (LB.of ho); replace BB := Lib.hid (BB.out.trans (hb.mono BB.out.size)); replace YA := Lib.hid (YA.out.step hb); clear ho hb))
    | (go_at_call 11; clear T4; go_must (refine (items_Diff.calls Aa ca a Ab cb b d _ YA.out.C YA.out.le YB.out.C YB.out.le QQ.out.2.2.2.2.1).mono ?_; rintro e_ w5 ⟨v5, rfl, ho, hb⟩; obtain ⟨Ad, cd, rfl⟩ := Kd.R_slice ho; have YD := Lib.hid (LB.of ho); replace BB := Lib.hid (BB.out.trans (hb.mono BB.out.size)); replace YA := Lib.hid (YA.out.step hb); replace YB := Lib.hid (YB.out.step hb); clear ho hb))
    | (go_at_call 11; clear T5; go_must (refine (items_Diff.calls Ab cb b Aa ca a e _ YB.out.C YB.out.le YA.out.C YA.out.le QQ.out.2.2.2.2.2.1).mono ?_; rintro e_ w6 ⟨v6, rfl, ho, hb⟩; obtain ⟨Ae, ce, rfl⟩ := Kd.R_slice ho; have YE := Lib.hid (LB.of ho); replace BB := Lib.hid (BB.out.trans (hb.mono BB.out.size)); replace YA := Lib.hid (YA.out.step hb); replace YB := Lib.hid (YB.out.step hb); replace YD := Lib.hid (YD.out.step hb); clear ho hb))
    | (go_at_call 8; clear T6; go_must (refine (items_With.calls Aa ca a Ad cd d b _ YA.out.C YA.out.le YD.out.C YD.out.le QQ.out.2.2.2.2.2.2.1).mono ?_; rintro e_ w7 ⟨v7, rfl, ho, hb⟩; obtain ⟨Ax, cx, rfl⟩ := Kd.R_slice ho; have YX := Lib.hid (LB.of ho); replace BB := Lib.hid (BB.out.trans (hb.mono BB.out.size)); replace YA := Lib.hid (YA.out.step hb); replace YD := Lib.hid (YD.out.step hb); replace YE := Lib.hid (YE.out.step hb); clear ho hb))
    | (go_at_call 8; clear T7; go_must (refine (items_With.calls Ax cx b Ae ce e a _ YX.out.C YX.out.le YE.out.C YE.out.le QQ.out.2.2.2.2.2.2.2.1).mono ?_; rintro e_ w8 ⟨v8, rfl, ho, hb⟩; obtain ⟨Ay, cy, rfl⟩ := Kd.R_slice ho; have YY := Lib.hid (LB.of ho); replace BB := Lib.hid (BB.out.trans (hb.mono BB.out.size)); replace YA := Lib.hid (YA.out.step hb); replace YD := Lib.hid (YD.out.step hb); replace YE := Lib.hid (YE.out.step hb); clear ho hb))
    | (go_at_call 7; clear T8; go_must (refine (cellarerref11_Same.calls 200000 Ay cy a Aa ca a true _ YY.out.C YY.out.le YA.out.C YA.out.le QQ.out.2.2.2.2.2.2.2.2).mono ?_; rintro e_ w9 ⟨rfl, hd⟩; have hb := hd.below; replace BB := Lib.hid (BB.out.trans (hb.mono BB.out.size)); replace YD := Lib.hid (YD.out.step hb); replace YE := Lib.hid (YE.out.step hb); clear hd hb)))
  go_loopw [9] (fun i wr => ∃ (k : Nat), i = .int .i64 k ∧ k ≤ d.length ∧ Hid (LB k33 33 w4.heap.size d Ad cd wr) ∧ Hid (LB k33 33 w5.heap.size e Ae ce wr) ∧ Hid (Below w.heap.size w wr)) (fun i _ => d.length - (intOf i).toNat)
  case atStart => exact ⟨0, rfl, Nat.zero_le _, YD, YE, BB⟩
  case round =>
    clear YD YE BB YX YY YA YB YF YG X0 X1
    obtain ⟨k, rfl, hk, HD, HE, HBB⟩ := hrel
    have hbg := HBIG.out
    by_cases hlt : k < d.length
    · have hlt2 : k < e.length := by rw [← HL.out]; exact hlt
      obtain ⟨ad, e', c0, c1, c2⟩ := at33 HD.out.C k hlt
      obtain ⟨ae, e'', d0, d1, d2⟩ := at33 HE.out.C k hlt2
      subst e' e''
      have p0 : (0 : Int) ≤ (k : Int) := by omega
      have p1 : (k : Int) < (d.length : Int) := by omega
      have p2 : (k : Int) < (e.length : Int) := by omega
      have n1 := HN.out k hlt hlt2
      have g1 := HG.out k hlt hlt2
      rw [n1] at d0
      clear n1 c1 d1
      by_cases h0 : (k : Int) > 0
      · obtain ⟨j, rfl⟩ : ∃ j, k = j + 1 := ⟨k - 1, by omega⟩
        have hj : j < d.length := by omega
        obtain ⟨ad', e3, b0, b1, b2⟩ := at33 HD.out.C j hj
        injection e3 with e3
        subst e3
        have hb := HS.out j hj hlt
        have e1 : IntKind.i64.wrap (((j + 1 : Nat) : Int) - 1) = (j : Int) := by simp [IntKind.wrap, IntKind.bits, IntKind.signed]; omega
        have p3 : (0 : Int) ≤ (j : Int) := by omega
        have p4 : (j : Int) < (d.length : Int) := by omega
        have p5 : (j : Int) < (e.length : Int) := by omega
        generalize d[j].f0 = pn at *
        generalize d[j + 1].f0 = nn at *
        generalize d[j + 1].f2 = nb at *
        generalize e[j + 1].f2 = mb at *
        generalize hk1 : j + 1 = k at *
        clear b1 b2
        have h0n : 0 < k := by omega
        have h0i : (0 : Int) < (k : Int) := h0
        have h0d : decide (0 < k) = true := decide_eq_true h0n
        cases nb
        · skip
          clear g1
          go_wp2
          refine wp_region_held_drew (S := fun W => W.cell? (ad.add (k * 3)) = some (.string nn) ∧ W.cell? ⟨(ad.add (k * 3)).block, (ad.add (k * 3)).off + 2, none⟩ = some (.bool false) ∧ W.cell? (ae.add (k * 3)) = some (.string nn) ∧ W.cell? ⟨(ae.add (k * 3)).block, (ae.add (k * 3)).off + 2, none⟩ = some (.bool mb) ∧ W.cell? (ad.add (j * 3)) = some (.string pn)) (by kernel_rfl) ?_ (fun hHeld => ?_)
          · exact ⟨c0, c2, d0, d2, b0⟩
          refine wpAnyH_take (i := 0) (oi := { dst := some 43, op := Go.Op.move (Go.Operand.tmp 7), type := 23, pos := "law.go:164", after := #[], guard := none }) (v := ?v0r) rfl (by kernel_rfl) (by kernel_rfl) (by kernel_rfl) (fun _ _ _ h => h) (Or.inl ⟨by rfl, ?y0r⟩) (by assumption) ?r0r
          case y0r => (intro w hSw; obtain ⟨s0, s1, s2, s3, s4⟩ := hSw; go_simp; try with_reducible rfl)
          try simp only [Act.put, List.setIfInBounds_toArray, List.set_cons_zero, List.set_cons_succ]
          refine wpAnyH_take (i := 1) (oi := { dst := some 44, op := Go.Op.move (Go.Operand.tmp 9), type := 3, pos := "law.go:164", after := #[], guard := none }) (v := ?v1r) rfl (by kernel_rfl) (by kernel_rfl) (by kernel_rfl) (fun _ _ _ h => h) (Or.inl ⟨by rfl, ?y1r⟩) (by assumption) ?r1r
          case y1r => (intro w hSw; obtain ⟨s0, s1, s2, s3, s4⟩ := hSw; go_simp; try with_reducible rfl)
          try simp only [Act.put, List.setIfInBounds_toArray, List.set_cons_zero, List.set_cons_succ]
          refine wpAnyH_take (i := 2) (oi := { dst := some 45, op := Go.Op.indexAddr 23 (Go.Operand.tmp 43) (Go.Operand.tmp 44), type := 0, pos := "law.go:164", after := #[{ on := 0, ground := Go.Ground.data }, { on := 1, ground := Go.Ground.data }], guard := none }) (v := ?v2r) rfl (by kernel_rfl) (by kernel_rfl) (by kernel_rfl) (fun _ _ _ h => h) (Or.inl ⟨by rfl, ?y2r⟩) (by assumption) ?r2r
          case y2r => (intro w hSw; obtain ⟨s0, s1, s2, s3, s4⟩ := hSw; go_simp; try with_reducible rfl)
          try simp only [Act.put, List.setIfInBounds_toArray, List.set_cons_zero, List.set_cons_succ]
          refine wpAnyH_take (i := 3) (oi := { dst := some 46, op := Go.Op.fieldAddr 33 (Go.Operand.tmp 45) 0, type := 0, pos := "law.go:164", after := #[{ on := 2, ground := Go.Ground.data }], guard := none }) (v := ?v3r) rfl (by kernel_rfl) (by kernel_rfl) (by kernel_rfl) (fun _ _ _ h => h) (Or.inl ⟨by rfl, ?y3r⟩) (by assumption) ?r3r
          case y3r => (intro w hSw; obtain ⟨s0, s1, s2, s3, s4⟩ := hSw; go_simp; try with_reducible rfl)
          try simp only [Act.put, List.setIfInBounds_toArray, List.set_cons_zero, List.set_cons_succ]
          refine wpAnyH_take (i := 4) (oi := { dst := some 47, op := Go.Op.load 9 (Go.Operand.tmp 46), type := 9, pos := "law.go:164", after := #[{ on := 3, ground := Go.Ground.data }], guard := none }) (v := ?v4r) rfl (by kernel_rfl) (by kernel_rfl) (by kernel_rfl) (fun _ _ _ h => h) (Or.inl ⟨by rfl, ?y4r⟩) (by assumption) ?r4r
          case y4r => (intro w hSw; obtain ⟨s0, s1, s2, s3, s4⟩ := hSw; go_simp; try with_reducible rfl)
          try simp only [Act.put, List.setIfInBounds_toArray, List.set_cons_zero, List.set_cons_succ]
          refine wpAnyH_take (i := 5) (oi := { dst := some 48, op := Go.Op.move (Go.Operand.tmp 8), type := 23, pos := "law.go:164", after := #[], guard := none }) (v := ?v5r) rfl (by kernel_rfl) (by kernel_rfl) (by kernel_rfl) (fun _ _ _ h => h) (Or.inl ⟨by rfl, ?y5r⟩) (by assumption) ?r5r
          case y5r => (intro w hSw; obtain ⟨s0, s1, s2, s3, s4⟩ := hSw; go_simp; try with_reducible rfl)
          try simp only [Act.put, List.setIfInBounds_toArray, List.set_cons_zero, List.set_cons_succ]
          refine wpAnyH_take (i := 6) (oi := { dst := some 49, op := Go.Op.move (Go.Operand.tmp 9), type := 3, pos := "law.go:164", after := #[], guard := none }) (v := ?v6r) rfl (by kernel_rfl) (by kernel_rfl) (by kernel_rfl) (fun _ _ _ h => h) (Or.inl ⟨by rfl, ?y6r⟩) (by assumption) ?r6r
          case y6r => (intro w hSw; obtain ⟨s0, s1, s2, s3, s4⟩ := hSw; go_simp; try with_reducible rfl)
          try simp only [Act.put, List.setIfInBounds_toArray, List.set_cons_zero, List.set_cons_succ]
          refine wpAnyH_take (i := 7) (oi := { dst := some 50, op := Go.Op.indexAddr 23 (Go.Operand.tmp 48) (Go.Operand.tmp 49), type := 0, pos := "law.go:164", after := #[{ on := 5, ground := Go.Ground.data }, { on := 6, ground := Go.Ground.data }], guard := none }) (v := ?v7r) rfl (by kernel_rfl) (by kernel_rfl) (by kernel_rfl) (fun _ _ _ h => h) (Or.inl ⟨by rfl, ?y7r⟩) (by assumption) ?r7r
          case y7r => (intro w hSw; obtain ⟨s0, s1, s2, s3, s4⟩ := hSw; go_simp; try with_reducible rfl)
          try simp only [Act.put, List.setIfInBounds_toArray, List.set_cons_zero, List.set_cons_succ]
          refine wpAnyH_take (i := 8) (oi := { dst := some 51, op := Go.Op.fieldAddr 33 (Go.Operand.tmp 50) 0, type := 0, pos := "law.go:164", after := #[{ on := 7, ground := Go.Ground.data }], guard := none }) (v := ?v8r) rfl (by kernel_rfl) (by kernel_rfl) (by kernel_rfl) (fun _ _ _ h => h) (Or.inl ⟨by rfl, ?y8r⟩) (by assumption) ?r8r
          case y8r => (intro w hSw; obtain ⟨s0, s1, s2, s3, s4⟩ := hSw; go_simp; try with_reducible rfl)
          try simp only [Act.put, List.setIfInBounds_toArray, List.set_cons_zero, List.set_cons_succ]
          refine wpAnyH_take (i := 9) (oi := { dst := some 52, op := Go.Op.load 9 (Go.Operand.tmp 51), type := 9, pos := "law.go:164", after := #[{ on := 8, ground := Go.Ground.data }], guard := none }) (v := ?v9r) rfl (by kernel_rfl) (by kernel_rfl) (by kernel_rfl) (fun _ _ _ h => h) (Or.inl ⟨by rfl, ?y9r⟩) (by assumption) ?r9r
          case y9r => (intro w hSw; obtain ⟨s0, s1, s2, s3, s4⟩ := hSw; go_simp; try with_reducible rfl)
          try simp only [Act.put, List.setIfInBounds_toArray, List.set_cons_zero, List.set_cons_succ]
          refine wpAnyH_take (i := 10) (oi := { dst := some 53, op := Go.Op.binOp Go.BinOp.neq 9 (Go.Operand.tmp 47) (Go.Operand.tmp 52) 9, type := 4, pos := "law.go:164", after := #[{ on := 4, ground := Go.Ground.data }, { on := 9, ground := Go.Ground.data }], guard := none }) (v := ?v10r) rfl (by kernel_rfl) (by kernel_rfl) (by kernel_rfl) (fun _ _ _ h => h) (Or.inl ⟨by rfl, ?y10r⟩) (by assumption) ?r10r
          case y10r => (intro w hSw; obtain ⟨s0, s1, s2, s3, s4⟩ := hSw; go_simp; try with_reducible rfl)
          try simp only [Act.put, List.setIfInBounds_toArray, List.set_cons_zero, List.set_cons_succ]
          refine wpAnyH_take (i := 11) (oi := { dst := some 54, op := Go.Op.move (Go.Operand.tmp 53), type := 4, pos := "law.go:164", after := #[{ on := 10, ground := Go.Ground.data }], guard := none }) (v := ?v11r) rfl (by kernel_rfl) (by kernel_rfl) (by kernel_rfl) (fun _ _ _ h => h) (Or.inl ⟨by rfl, ?y11r⟩) (by assumption) ?r11r
          case y11r => (intro w hSw; obtain ⟨s0, s1, s2, s3, s4⟩ := hSw; go_simp; try with_reducible rfl)
          try simp only [Act.put, List.setIfInBounds_toArray, List.set_cons_zero, List.set_cons_succ]
          refine wpAnyH_take (i := 12) (oi := { dst := some 55, op := Go.Op.move (Go.Operand.tmp 9), type := 3, pos := "law.go:164", after := #[{ on := 11, ground := Go.Ground.guard }], guard := some (11, false) }) (v := ?v12r) rfl (by kernel_rfl) (by kernel_rfl) (by kernel_rfl) (fun _ _ _ h => h) (Or.inl ⟨by rfl, ?y12r⟩) (by assumption) ?r12r
          case y12r => (intro w hSw; obtain ⟨s0, s1, s2, s3, s4⟩ := hSw; go_simp; try with_reducible rfl)
          try simp only [Act.put, List.setIfInBounds_toArray, List.set_cons_zero, List.set_cons_succ]
          refine wpAnyH_take (i := 13) (oi := { dst := some 56, op := Go.Op.binOp Go.BinOp.gtr 3 (Go.Operand.tmp 55) (Go.Operand.const (Go.Value.int Go.IntKind.i64 0)) 3, type := 4, pos := "law.go:164", after := #[{ on := 12, ground := Go.Ground.data }, { on := 11, ground := Go.Ground.guard }], guard := some (11, false) }) (v := ?v13r) rfl (by kernel_rfl) (by kernel_rfl) (by kernel_rfl) (fun _ _ _ h => h) (Or.inl ⟨by rfl, ?y13r⟩) (by assumption) ?r13r
          case y13r => (intro w hSw; obtain ⟨s0, s1, s2, s3, s4⟩ := hSw; go_simp; try with_reducible rfl)
          try simp only [Act.put, List.setIfInBounds_toArray, List.set_cons_zero, List.set_cons_succ]
          refine wpAnyH_take (i := 14) (oi := { dst := some 57, op := Go.Op.move (Go.Operand.tmp 56), type := 4, pos := "law.go:164", after := #[{ on := 13, ground := Go.Ground.data }, { on := 11, ground := Go.Ground.chain }, { on := 11, ground := Go.Ground.guard }], guard := some (11, false) }) (v := ?v14r) rfl (by kernel_rfl) (by kernel_rfl) (by kernel_rfl) (fun _ _ _ h => h) (Or.inl ⟨by rfl, ?y14r⟩) (by assumption) ?r14r
          case y14r => (intro w hSw; obtain ⟨s0, s1, s2, s3, s4⟩ := hSw; go_simp; try with_reducible rfl)
          try simp only [Act.put, List.setIfInBounds_toArray, List.set_cons_zero, List.set_cons_succ]
          refine wpAnyH_take (i := 15) (oi := { dst := some 58, op := Go.Op.move (Go.Operand.tmp 7), type := 23, pos := "law.go:164", after := #[{ on := 14, ground := Go.Ground.guard }], guard := some (14, true) }) (v := ?v15r) rfl (by kernel_rfl) (by kernel_rfl) (by kernel_rfl) (fun _ _ _ h => h) (Or.inl ⟨by rfl, ?y15r⟩) (by assumption) ?r15r
          case y15r => (intro w hSw; obtain ⟨s0, s1, s2, s3, s4⟩ := hSw; go_simp; try with_reducible rfl)
          try simp only [Act.put, List.setIfInBounds_toArray, List.set_cons_zero, List.set_cons_succ]
          refine wpAnyH_take (i := 16) (oi := { dst := some 59, op := Go.Op.move (Go.Operand.tmp 9), type := 3, pos := "law.go:164", after := #[{ on := 14, ground := Go.Ground.guard }], guard := some (14, true) }) (v := ?v16r) rfl (by kernel_rfl) (by kernel_rfl) (by kernel_rfl) (fun _ _ _ h => h) (Or.inl ⟨by rfl, ?y16r⟩) (by assumption) ?r16r
          case y16r => (intro w hSw; obtain ⟨s0, s1, s2, s3, s4⟩ := hSw; go_simp; try with_reducible rfl)
          try simp only [Act.put, List.setIfInBounds_toArray, List.set_cons_zero, List.set_cons_succ]
          refine wpAnyH_take (i := 17) (oi := { dst := some 60, op := Go.Op.binOp Go.BinOp.sub 3 (Go.Operand.tmp 59) (Go.Operand.const (Go.Value.int Go.IntKind.i64 1)) 3, type := 3, pos := "law.go:164", after := #[{ on := 16, ground := Go.Ground.data }, { on := 14, ground := Go.Ground.guard }], guard := some (14, true) }) (v := ?v17r) rfl (by kernel_rfl) (by kernel_rfl) (by kernel_rfl) (fun _ _ _ h => h) (Or.inl ⟨by rfl, ?y17r⟩) (by assumption) ?r17r
          case y17r => (intro w hSw; obtain ⟨s0, s1, s2, s3, s4⟩ := hSw; go_simp; try with_reducible rfl)
          try simp only [Act.put, List.setIfInBounds_toArray, List.set_cons_zero, List.set_cons_succ]
          refine wpAnyH_take (i := 18) (oi := { dst := some 61, op := Go.Op.indexAddr 23 (Go.Operand.tmp 58) (Go.Operand.tmp 60), type := 0, pos := "law.go:164", after := #[{ on := 15, ground := Go.Ground.data }, { on := 17, ground := Go.Ground.data }, { on := 14, ground := Go.Ground.guard }], guard := some (14, true) }) (v := ?v18r) rfl (by kernel_rfl) (by kernel_rfl) (by kernel_rfl) (fun _ _ _ h => h) (Or.inl ⟨by rfl, ?y18r⟩) (by assumption) ?r18r
          case y18r => (intro w hSw; obtain ⟨s0, s1, s2, s3, s4⟩ := hSw; go_simp; try with_reducible rfl)
          try simp only [Act.put, List.setIfInBounds_toArray, List.set_cons_zero, List.set_cons_succ]
          refine wpAnyH_take (i := 19) (oi := { dst := some 62, op := Go.Op.fieldAddr 33 (Go.Operand.tmp 61) 0, type := 0, pos := "law.go:164", after := #[{ on := 18, ground := Go.Ground.data }, { on := 14, ground := Go.Ground.guard }], guard := some (14, true) }) (v := ?v19r) rfl (by kernel_rfl) (by kernel_rfl) (by kernel_rfl) (fun _ _ _ h => h) (Or.inl ⟨by rfl, ?y19r⟩) (by assumption) ?r19r
          case y19r => (intro w hSw; obtain ⟨s0, s1, s2, s3, s4⟩ := hSw; go_simp; try with_reducible rfl)
          try simp only [Act.put, List.setIfInBounds_toArray, List.set_cons_zero, List.set_cons_succ]
          refine wpAnyH_take (i := 20) (oi := { dst := some 63, op := Go.Op.load 9 (Go.Operand.tmp 62), type := 9, pos := "law.go:164", after := #[{ on := 19, ground := Go.Ground.data }, { on := 14, ground := Go.Ground.guard }], guard := some (14, true) }) (v := ?v20r) rfl (by kernel_rfl) (by kernel_rfl) (by kernel_rfl) (fun _ _ _ h => h) (Or.inl ⟨by rfl, ?y20r⟩) (by assumption) ?r20r
          case y20r => (intro w hSw; obtain ⟨s0, s1, s2, s3, s4⟩ := hSw; go_simp; try with_reducible rfl)
          try simp only [Act.put, List.setIfInBounds_toArray, List.set_cons_zero, List.set_cons_succ]
          refine wpAnyH_take (i := 21) (oi := { dst := some 64, op := Go.Op.move (Go.Operand.tmp 7), type := 23, pos := "law.go:164", after := #[{ on := 14, ground := Go.Ground.guard }], guard := some (14, true) }) (v := ?v21r) rfl (by kernel_rfl) (by kernel_rfl) (by kernel_rfl) (fun _ _ _ h => h) (Or.inl ⟨by rfl, ?y21r⟩) (by assumption) ?r21r
          case y21r => (intro w hSw; obtain ⟨s0, s1, s2, s3, s4⟩ := hSw; go_simp; try with_reducible rfl)
          try simp only [Act.put, List.setIfInBounds_toArray, List.set_cons_zero, List.set_cons_succ]
          refine wpAnyH_take (i := 22) (oi := { dst := some 65, op := Go.Op.move (Go.Operand.tmp 9), type := 3, pos := "law.go:164", after := #[{ on := 14, ground := Go.Ground.guard }], guard := some (14, true) }) (v := ?v22r) rfl (by kernel_rfl) (by kernel_rfl) (by kernel_rfl) (fun _ _ _ h => h) (Or.inl ⟨by rfl, ?y22r⟩) (by assumption) ?r22r
          case y22r => (intro w hSw; obtain ⟨s0, s1, s2, s3, s4⟩ := hSw; go_simp; try with_reducible rfl)
          try simp only [Act.put, List.setIfInBounds_toArray, List.set_cons_zero, List.set_cons_succ]
          refine wpAnyH_take (i := 23) (oi := { dst := some 66, op := Go.Op.indexAddr 23 (Go.Operand.tmp 64) (Go.Operand.tmp 65), type := 0, pos := "law.go:164", after := #[{ on := 21, ground := Go.Ground.data }, { on := 22, ground := Go.Ground.data }, { on := 14, ground := Go.Ground.guard }], guard := some (14, true) }) (v := ?v23r) rfl (by kernel_rfl) (by kernel_rfl) (by kernel_rfl) (fun _ _ _ h => h) (Or.inl ⟨by rfl, ?y23r⟩) (by assumption) ?r23r
          case y23r => (intro w hSw; obtain ⟨s0, s1, s2, s3, s4⟩ := hSw; go_simp; try with_reducible rfl)
          try simp only [Act.put, List.setIfInBounds_toArray, List.set_cons_zero, List.set_cons_succ]
          refine wpAnyH_take (i := 24) (oi := { dst := some 67, op := Go.Op.fieldAddr 33 (Go.Operand.tmp 66) 0, type := 0, pos := "law.go:164", after := #[{ on := 23, ground := Go.Ground.data }, { on := 14, ground := Go.Ground.guard }], guard := some (14, true) }) (v := ?v24r) rfl (by kernel_rfl) (by kernel_rfl) (by kernel_rfl) (fun _ _ _ h => h) (Or.inl ⟨by rfl, ?y24r⟩) (by assumption) ?r24r
          case y24r => (intro w hSw; obtain ⟨s0, s1, s2, s3, s4⟩ := hSw; go_simp; try with_reducible rfl)
          try simp only [Act.put, List.setIfInBounds_toArray, List.set_cons_zero, List.set_cons_succ]
          refine wpAnyH_take (i := 25) (oi := { dst := some 68, op := Go.Op.load 9 (Go.Operand.tmp 67), type := 9, pos := "law.go:164", after := #[{ on := 24, ground := Go.Ground.data }, { on := 14, ground := Go.Ground.guard }], guard := some (14, true) }) (v := ?v25r) rfl (by kernel_rfl) (by kernel_rfl) (by kernel_rfl) (fun _ _ _ h => h) (Or.inl ⟨by rfl, ?y25r⟩) (by assumption) ?r25r
          case y25r => (intro w hSw; obtain ⟨s0, s1, s2, s3, s4⟩ := hSw; go_simp; try with_reducible rfl)
          try simp only [Act.put, List.setIfInBounds_toArray, List.set_cons_zero, List.set_cons_succ]
          refine wpAnyH_take (i := 26) (oi := { dst := some 69, op := Go.Op.binOp Go.BinOp.geq 9 (Go.Operand.tmp 63) (Go.Operand.tmp 68) 9, type := 4, pos := "law.go:164", after := #[{ on := 20, ground := Go.Ground.data }, { on := 25, ground := Go.Ground.data }, { on := 14, ground := Go.Ground.guard }], guard := some (14, true) }) (v := ?v26r) rfl (by kernel_rfl) (by kernel_rfl) (by kernel_rfl) (fun _ _ _ h => h) (Or.inl ⟨by rfl, ?y26r⟩) (by assumption) ?r26r
          case y26r => (intro w hSw; obtain ⟨s0, s1, s2, s3, s4⟩ := hSw; go_simp; try with_reducible rfl)
          try simp only [Act.put, List.setIfInBounds_toArray, List.set_cons_zero, List.set_cons_succ]
          refine wpAnyH_take (i := 27) (oi := { dst := some 70, op := Go.Op.pick (Go.Operand.tmp 57) (Go.Operand.tmp 69) (Go.Operand.const (Go.Value.bool false)), type := 4, pos := "law.go:164", after := #[{ on := 14, ground := Go.Ground.data }, { on := 26, ground := Go.Ground.data }, { on := 11, ground := Go.Ground.guard }], guard := some (11, false) }) (v := ?v27r) rfl (by kernel_rfl) (by kernel_rfl) (by kernel_rfl) (fun _ _ _ h => h) (Or.inl ⟨by rfl, ?y27r⟩) (by assumption) ?r27r
          case y27r => (intro w hSw; obtain ⟨s0, s1, s2, s3, s4⟩ := hSw; go_simp; try with_reducible rfl)
          try simp only [Act.put, List.setIfInBounds_toArray, List.set_cons_zero, List.set_cons_succ]
          refine wpAnyH_take (i := 28) (oi := { dst := some 71, op := Go.Op.pick (Go.Operand.tmp 54) (Go.Operand.const (Go.Value.bool true)) (Go.Operand.tmp 70), type := 4, pos := "law.go:164", after := #[{ on := 11, ground := Go.Ground.data }, { on := 27, ground := Go.Ground.data }], guard := none }) (v := ?v28r) rfl (by kernel_rfl) (by kernel_rfl) (by kernel_rfl) (fun _ _ _ h => h) (Or.inl ⟨by rfl, ?y28r⟩) (by assumption) ?r28r
          case y28r => (intro w hSw; obtain ⟨s0, s1, s2, s3, s4⟩ := hSw; go_simp; try with_reducible rfl)
          try simp only [Act.put, List.setIfInBounds_toArray, List.set_cons_zero, List.set_cons_succ]
          refine wpAnyH_take (i := 29) (oi := { dst := some 72, op := Go.Op.move (Go.Operand.tmp 71), type := 4, pos := "law.go:164", after := #[{ on := 28, ground := Go.Ground.data }, { on := 14, ground := Go.Ground.chain }], guard := none }) (v := ?v29r) rfl (by kernel_rfl) (by kernel_rfl) (by kernel_rfl) (fun _ _ _ h => h) (Or.inl ⟨by rfl, ?y29r⟩) (by assumption) ?r29r
          case y29r => (intro w hSw; obtain ⟨s0, s1, s2, s3, s4⟩ := hSw; go_simp; try with_reducible rfl)
          try simp only [Act.put, List.setIfInBounds_toArray, List.set_cons_zero, List.set_cons_succ]
          refine wpAnyH_take (i := 30) (oi := { dst := some 73, op := Go.Op.move (Go.Operand.tmp 7), type := 23, pos := "law.go:164", after := #[{ on := 29, ground := Go.Ground.guard }], guard := some (29, false) }) (v := ?v30r) rfl (by kernel_rfl) (by kernel_rfl) (by kernel_rfl) (fun _ _ _ h => h) (Or.inl ⟨by rfl, ?y30r⟩) (by assumption) ?r30r
          case y30r => (intro w hSw; obtain ⟨s0, s1, s2, s3, s4⟩ := hSw; go_simp; try with_reducible rfl)
          try simp only [Act.put, List.setIfInBounds_toArray, List.set_cons_zero, List.set_cons_succ]
          refine wpAnyH_take (i := 31) (oi := { dst := some 74, op := Go.Op.move (Go.Operand.tmp 9), type := 3, pos := "law.go:164", after := #[{ on := 29, ground := Go.Ground.guard }], guard := some (29, false) }) (v := ?v31r) rfl (by kernel_rfl) (by kernel_rfl) (by kernel_rfl) (fun _ _ _ h => h) (Or.inl ⟨by rfl, ?y31r⟩) (by assumption) ?r31r
          case y31r => (intro w hSw; obtain ⟨s0, s1, s2, s3, s4⟩ := hSw; go_simp; try with_reducible rfl)
          try simp only [Act.put, List.setIfInBounds_toArray, List.set_cons_zero, List.set_cons_succ]
          refine wpAnyH_take (i := 32) (oi := { dst := some 75, op := Go.Op.indexAddr 23 (Go.Operand.tmp 73) (Go.Operand.tmp 74), type := 0, pos := "law.go:164", after := #[{ on := 30, ground := Go.Ground.data }, { on := 31, ground := Go.Ground.data }, { on := 29, ground := Go.Ground.guard }], guard := some (29, false) }) (v := ?v32r) rfl (by kernel_rfl) (by kernel_rfl) (by kernel_rfl) (fun _ _ _ h => h) (Or.inl ⟨by rfl, ?y32r⟩) (by assumption) ?r32r
          case y32r => (intro w hSw; obtain ⟨s0, s1, s2, s3, s4⟩ := hSw; go_simp; try with_reducible rfl)
          try simp only [Act.put, List.setIfInBounds_toArray, List.set_cons_zero, List.set_cons_succ]
          refine wpAnyH_take (i := 33) (oi := { dst := some 76, op := Go.Op.fieldAddr 33 (Go.Operand.tmp 75) 2, type := 0, pos := "law.go:164", after := #[{ on := 32, ground := Go.Ground.data }, { on := 29, ground := Go.Ground.guard }], guard := some (29, false) }) (v := ?v33r) rfl (by kernel_rfl) (by kernel_rfl) (by kernel_rfl) (fun _ _ _ h => h) (Or.inl ⟨by rfl, ?y33r⟩) (by assumption) ?r33r
          case y33r => (intro w hSw; obtain ⟨s0, s1, s2, s3, s4⟩ := hSw; go_simp; try with_reducible rfl)
          try simp only [Act.put, List.setIfInBounds_toArray, List.set_cons_zero, List.set_cons_succ]
          refine wpAnyH_take (i := 34) (oi := { dst := some 77, op := Go.Op.load 4 (Go.Operand.tmp 76), type := 4, pos := "law.go:164", after := #[{ on := 33, ground := Go.Ground.data }, { on := 29, ground := Go.Ground.guard }], guard := some (29, false) }) (v := ?v34r) rfl (by kernel_rfl) (by kernel_rfl) (by kernel_rfl) (fun _ _ _ h => h) (Or.inl ⟨by rfl, ?y34r⟩) (by assumption) ?r34r
          case y34r => (intro w hSw; obtain ⟨s0, s1, s2, s3, s4⟩ := hSw; go_simp; try with_reducible rfl)
          try simp only [Act.put, List.setIfInBounds_toArray, List.set_cons_zero, List.set_cons_succ]
          refine wpAnyH_take (i := 35) (oi := { dst := some 78, op := Go.Op.move (Go.Operand.tmp 77), type := 4, pos := "law.go:164", after := #[{ on := 34, ground := Go.Ground.data }, { on := 29, ground := Go.Ground.chain }, { on := 29, ground := Go.Ground.guard }], guard := some (29, false) }) (v := ?v35r) rfl (by kernel_rfl) (by kernel_rfl) (by kernel_rfl) (fun _ _ _ h => h) (Or.inl ⟨by rfl, ?y35r⟩) (by assumption) ?r35r
          case y35r => (intro w hSw; obtain ⟨s0, s1, s2, s3, s4⟩ := hSw; go_simp; try with_reducible rfl)
          try simp only [Act.put, List.setIfInBounds_toArray, List.set_cons_zero, List.set_cons_succ]
          refine wpAnyH_take (i := 36) (oi := { dst := some 79, op := Go.Op.move (Go.Operand.tmp 8), type := 23, pos := "law.go:164", after := #[{ on := 35, ground := Go.Ground.guard }], guard := some (35, true) }) (v := undef) rfl (by kernel_rfl) (by kernel_rfl) (by kernel_rfl) (fun _ _ _ h => h) (Or.inr ⟨by rfl, rfl⟩) (by assumption) ?_
          try simp only [Act.put, List.setIfInBounds_toArray, List.set_cons_zero, List.set_cons_succ]
          refine wpAnyH_take (i := 37) (oi := { dst := some 80, op := Go.Op.move (Go.Operand.tmp 9), type := 3, pos := "law.go:164", after := #[{ on := 35, ground := Go.Ground.guard }], guard := some (35, true) }) (v := undef) rfl (by kernel_rfl) (by kernel_rfl) (by kernel_rfl) (fun _ _ _ h => h) (Or.inr ⟨by rfl, rfl⟩) (by assumption) ?_
          try simp only [Act.put, List.setIfInBounds_toArray, List.set_cons_zero, List.set_cons_succ]
          refine wpAnyH_take (i := 38) (oi := { dst := some 81, op := Go.Op.indexAddr 23 (Go.Operand.tmp 79) (Go.Operand.tmp 80), type := 0, pos := "law.go:164", after := #[{ on := 36, ground := Go.Ground.data }, { on := 37, ground := Go.Ground.data }, { on := 35, ground := Go.Ground.guard }], guard := some (35, true) }) (v := undef) rfl (by kernel_rfl) (by kernel_rfl) (by kernel_rfl) (fun _ _ _ h => h) (Or.inr ⟨by rfl, rfl⟩) (by assumption) ?_
          try simp only [Act.put, List.setIfInBounds_toArray, List.set_cons_zero, List.set_cons_succ]
          refine wpAnyH_take (i := 39) (oi := { dst := some 82, op := Go.Op.fieldAddr 33 (Go.Operand.tmp 81) 2, type := 0, pos := "law.go:164", after := #[{ on := 38, ground := Go.Ground.data }, { on := 35, ground := Go.Ground.guard }], guard := some (35, true) }) (v := undef) rfl (by kernel_rfl) (by kernel_rfl) (by kernel_rfl) (fun _ _ _ h => h) (Or.inr ⟨by rfl, rfl⟩) (by assumption) ?_
          try simp only [Act.put, List.setIfInBounds_toArray, List.set_cons_zero, List.set_cons_succ]
          refine wpAnyH_take (i := 40) (oi := { dst := some 83, op := Go.Op.load 4 (Go.Operand.tmp 82), type := 4, pos := "law.go:164", after := #[{ on := 39, ground := Go.Ground.data }, { on := 35, ground := Go.Ground.guard }], guard := some (35, true) }) (v := undef) rfl (by kernel_rfl) (by kernel_rfl) (by kernel_rfl) (fun _ _ _ h => h) (Or.inr ⟨by rfl, rfl⟩) (by assumption) ?_
          try simp only [Act.put, List.setIfInBounds_toArray, List.set_cons_zero, List.set_cons_succ]
          refine wpAnyH_take (i := 41) (oi := { dst := some 84, op := Go.Op.pick (Go.Operand.tmp 78) (Go.Operand.tmp 83) (Go.Operand.const (Go.Value.bool false)), type := 4, pos := "law.go:164", after := #[{ on := 35, ground := Go.Ground.data }, { on := 40, ground := Go.Ground.data }, { on := 29, ground := Go.Ground.guard }], guard := some (29, false) }) (v := ?v41r) rfl (by kernel_rfl) (by kernel_rfl) (by kernel_rfl) (fun _ _ _ h => h) (Or.inl ⟨by rfl, ?y41r⟩) (by assumption) ?r41r
          case y41r => (intro w hSw; obtain ⟨s0, s1, s2, s3, s4⟩ := hSw; go_simp; try with_reducible rfl)
          try simp only [Act.put, List.setIfInBounds_toArray, List.set_cons_zero, List.set_cons_succ]
          refine wpAnyH_take (i := 42) (oi := { dst := some 85, op := Go.Op.pick (Go.Operand.tmp 72) (Go.Operand.const (Go.Value.bool true)) (Go.Operand.tmp 84), type := 4, pos := "law.go:164", after := #[{ on := 29, ground := Go.Ground.data }, { on := 41, ground := Go.Ground.data }], guard := none }) (v := ?v42r) rfl (by kernel_rfl) (by kernel_rfl) (by kernel_rfl) (fun _ _ _ h => h) (Or.inl ⟨by rfl, ?y42r⟩) (by assumption) ?r42r
          case y42r => (intro w hSw; obtain ⟨s0, s1, s2, s3, s4⟩ := hSw; go_simp; try with_reducible rfl)
          try simp only [Act.put, List.setIfInBounds_toArray, List.set_cons_zero, List.set_cons_succ]
          refine wpAnyH_done (by kernel_rfl) ?_ _
          clear hHeld
          go_wp2
          go_roundw
          case rel => exact ⟨k + 1, by go_num, hlt, Lib.hid (HD.out.step ((Below.refl _ _).drew)), Lib.hid (HE.out.step ((Below.refl _ _).drew)), Lib.hid (HBB.out.drew)⟩
          case measure => simp [intOf]; omega
        · skip
          obtain rfl : mb = false := by simpa using g1
          clear g1
          go_wp2
          refine wp_region_held_drew (S := fun W => W.cell? (ad.add (k * 3)) = some (.string nn) ∧ W.cell? ⟨(ad.add (k * 3)).block, (ad.add (k * 3)).off + 2, none⟩ = some (.bool true) ∧ W.cell? (ae.add (k * 3)) = some (.string nn) ∧ W.cell? ⟨(ae.add (k * 3)).block, (ae.add (k * 3)).off + 2, none⟩ = some (.bool false) ∧ W.cell? (ad.add (j * 3)) = some (.string pn)) (by kernel_rfl) ?_ (fun hHeld => ?_)
          · exact ⟨c0, c2, d0, d2, b0⟩
          refine wpAnyH_take (i := 0) (oi := { dst := some 43, op := Go.Op.move (Go.Operand.tmp 7), type := 23, pos := "law.go:164", after := #[], guard := none }) (v := ?v0s) rfl (by kernel_rfl) (by kernel_rfl) (by kernel_rfl) (fun _ _ _ h => h) (Or.inl ⟨by rfl, ?y0s⟩) (by assumption) ?r0s
          case y0s => (intro w hSw; obtain ⟨s0, s1, s2, s3, s4⟩ := hSw; go_simp; try with_reducible rfl)
          try simp only [Act.put, List.setIfInBounds_toArray, List.set_cons_zero, List.set_cons_succ]
          refine wpAnyH_take (i := 1) (oi := { dst := some 44, op := Go.Op.move (Go.Operand.tmp 9), type := 3, pos := "law.go:164", after := #[], guard := none }) (v := ?v1s) rfl (by kernel_rfl) (by kernel_rfl) (by kernel_rfl) (fun _ _ _ h => h) (Or.inl ⟨by rfl, ?y1s⟩) (by assumption) ?r1s
          case y1s => (intro w hSw; obtain ⟨s0, s1, s2, s3, s4⟩ := hSw; go_simp; try with_reducible rfl)
          try simp only [Act.put, List.setIfInBounds_toArray, List.set_cons_zero, List.set_cons_succ]
          refine wpAnyH_take (i := 2) (oi := { dst := some 45, op := Go.Op.indexAddr 23 (Go.Operand.tmp 43) (Go.Operand.tmp 44), type := 0, pos := "law.go:164", after := #[{ on := 0, ground := Go.Ground.data }, { on := 1, ground := Go.Ground.data }], guard := none }) (v := ?v2s) rfl (by kernel_rfl) (by kernel_rfl) (by kernel_rfl) (fun _ _ _ h => h) (Or.inl ⟨by rfl, ?y2s⟩) (by assumption) ?r2s
          case y2s => (intro w hSw; obtain ⟨s0, s1, s2, s3, s4⟩ := hSw; go_simp; try with_reducible rfl)
          try simp only [Act.put, List.setIfInBounds_toArray, List.set_cons_zero, List.set_cons_succ]
          refine wpAnyH_take (i := 3) (oi := { dst := some 46, op := Go.Op.fieldAddr 33 (Go.Operand.tmp 45) 0, type := 0, pos := "law.go:164", after := #[{ on := 2, ground := Go.Ground.data }], guard := none }) (v := ?v3s) rfl (by kernel_rfl) (by kernel_rfl) (by kernel_rfl) (fun _ _ _ h => h) (Or.inl ⟨by rfl, ?y3s⟩) (by assumption) ?r3s
          case y3s => (intro w hSw; obtain ⟨s0, s1, s2, s3, s4⟩ := hSw; go_simp; try with_reducible rfl)
          try simp only [Act.put, List.setIfInBounds_toArray, List.set_cons_zero, List.set_cons_succ]
          refine wpAnyH_take (i := 4) (oi := { dst := some 47, op := Go.Op.load 9 (Go.Operand.tmp 46), type := 9, pos := "law.go:164", after := #[{ on := 3, ground := Go.Ground.data }], guard := none }) (v := ?v4s) rfl (by kernel_rfl) (by kernel_rfl) (by kernel_rfl) (fun _ _ _ h => h) (Or.inl ⟨by rfl, ?y4s⟩) (by assumption) ?r4s
          case y4s => (intro w hSw; obtain ⟨s0, s1, s2, s3, s4⟩ := hSw; go_simp; try with_reducible rfl)
          try simp only [Act.put, List.setIfInBounds_toArray, List.set_cons_zero, List.set_cons_succ]
          refine wpAnyH_take (i := 5) (oi := { dst := some 48, op := Go.Op.move (Go.Operand.tmp 8), type := 23, pos := "law.go:164", after := #[], guard := none }) (v := ?v5s) rfl (by kernel_rfl) (by kernel_rfl) (by kernel_rfl) (fun _ _ _ h => h) (Or.inl ⟨by rfl, ?y5s⟩) (by assumption) ?r5s
          case y5s => (intro w hSw; obtain ⟨s0, s1, s2, s3, s4⟩ := hSw; go_simp; try with_reducible rfl)
          try simp only [Act.put, List.setIfInBounds_toArray, List.set_cons_zero, List.set_cons_succ]
          refine wpAnyH_take (i := 6) (oi := { dst := some 49, op := Go.Op.move (Go.Operand.tmp 9), type := 3, pos := "law.go:164", after := #[], guard := none }) (v := ?v6s) rfl (by kernel_rfl) (by kernel_rfl) (by kernel_rfl) (fun _ _ _ h => h) (Or.inl ⟨by rfl, ?y6s⟩) (by assumption) ?r6s
          case y6s => (intro w hSw; obtain ⟨s0, s1, s2, s3, s4⟩ := hSw; go_simp; try with_reducible rfl)
          try simp only [Act.put, List.setIfInBounds_toArray, List.set_cons_zero, List.set_cons_succ]
          refine wpAnyH_take (i := 7) (oi := { dst := some 50, op := Go.Op.indexAddr 23 (Go.Operand.tmp 48) (Go.Operand.tmp 49), type := 0, pos := "law.go:164", after := #[{ on := 5, ground := Go.Ground.data }, { on := 6, ground := Go.Ground.data }], guard := none }) (v := ?v7s) rfl (by kernel_rfl) (by kernel_rfl) (by kernel_rfl) (fun _ _ _ h => h) (Or.inl ⟨by rfl, ?y7s⟩) (by assumption) ?r7s
          case y7s => (intro w hSw; obtain ⟨s0, s1, s2, s3, s4⟩ := hSw; go_simp; try with_reducible rfl)
          try simp only [Act.put, List.setIfInBounds_toArray, List.set_cons_zero, List.set_cons_succ]
          refine wpAnyH_take (i := 8) (oi := { dst := some 51, op := Go.Op.fieldAddr 33 (Go.Operand.tmp 50) 0, type := 0, pos := "law.go:164", after := #[{ on := 7, ground := Go.Ground.data }], guard := none }) (v := ?v8s) rfl (by kernel_rfl) (by kernel_rfl) (by kernel_rfl) (fun _ _ _ h => h) (Or.inl ⟨by rfl, ?y8s⟩) (by assumption) ?r8s
          case y8s => (intro w hSw; obtain ⟨s0, s1, s2, s3, s4⟩ := hSw; go_simp; try with_reducible rfl)
          try simp only [Act.put, List.setIfInBounds_toArray, List.set_cons_zero, List.set_cons_succ]
          refine wpAnyH_take (i := 9) (oi := { dst := some 52, op := Go.Op.load 9 (Go.Operand.tmp 51), type := 9, pos := "law.go:164", after := #[{ on := 8, ground := Go.Ground.data }], guard := none }) (v := ?v9s) rfl (by kernel_rfl) (by kernel_rfl) (by kernel_rfl) (fun _ _ _ h => h) (Or.inl ⟨by rfl, ?y9s⟩) (by assumption) ?r9s
          case y9s => (intro w hSw; obtain ⟨s0, s1, s2, s3, s4⟩ := hSw; go_simp; try with_reducible rfl)
          try simp only [Act.put, List.setIfInBounds_toArray, List.set_cons_zero, List.set_cons_succ]
          refine wpAnyH_take (i := 10) (oi := { dst := some 53, op := Go.Op.binOp Go.BinOp.neq 9 (Go.Operand.tmp 47) (Go.Operand.tmp 52) 9, type := 4, pos := "law.go:164", after := #[{ on := 4, ground := Go.Ground.data }, { on := 9, ground := Go.Ground.data }], guard := none }) (v := ?v10s) rfl (by kernel_rfl) (by kernel_rfl) (by kernel_rfl) (fun _ _ _ h => h) (Or.inl ⟨by rfl, ?y10s⟩) (by assumption) ?r10s
          case y10s => (intro w hSw; obtain ⟨s0, s1, s2, s3, s4⟩ := hSw; go_simp; try with_reducible rfl)
          try simp only [Act.put, List.setIfInBounds_toArray, List.set_cons_zero, List.set_cons_succ]
          refine wpAnyH_take (i := 11) (oi := { dst := some 54, op := Go.Op.move (Go.Operand.tmp 53), type := 4, pos := "law.go:164", after := #[{ on := 10, ground := Go.Ground.data }], guard := none }) (v := ?v11s) rfl (by kernel_rfl) (by kernel_rfl) (by kernel_rfl) (fun _ _ _ h => h) (Or.inl ⟨by rfl, ?y11s⟩) (by assumption) ?r11s
          case y11s => (intro w hSw; obtain ⟨s0, s1, s2, s3, s4⟩ := hSw; go_simp; try with_reducible rfl)
          try simp only [Act.put, List.setIfInBounds_toArray, List.set_cons_zero, List.set_cons_succ]
          refine wpAnyH_take (i := 12) (oi := { dst := some 55, op := Go.Op.move (Go.Operand.tmp 9), type := 3, pos := "law.go:164", after := #[{ on := 11, ground := Go.Ground.guard }], guard := some (11, false) }) (v := ?v12s) rfl (by kernel_rfl) (by kernel_rfl) (by kernel_rfl) (fun _ _ _ h => h) (Or.inl ⟨by rfl, ?y12s⟩) (by assumption) ?r12s
          case y12s => (intro w hSw; obtain ⟨s0, s1, s2, s3, s4⟩ := hSw; go_simp; try with_reducible rfl)
          try simp only [Act.put, List.setIfInBounds_toArray, List.set_cons_zero, List.set_cons_succ]
          refine wpAnyH_take (i := 13) (oi := { dst := some 56, op := Go.Op.binOp Go.BinOp.gtr 3 (Go.Operand.tmp 55) (Go.Operand.const (Go.Value.int Go.IntKind.i64 0)) 3, type := 4, pos := "law.go:164", after := #[{ on := 12, ground := Go.Ground.data }, { on := 11, ground := Go.Ground.guard }], guard := some (11, false) }) (v := ?v13s) rfl (by kernel_rfl) (by kernel_rfl) (by kernel_rfl) (fun _ _ _ h => h) (Or.inl ⟨by rfl, ?y13s⟩) (by assumption) ?r13s
          case y13s => (intro w hSw; obtain ⟨s0, s1, s2, s3, s4⟩ := hSw; go_simp; try with_reducible rfl)
          try simp only [Act.put, List.setIfInBounds_toArray, List.set_cons_zero, List.set_cons_succ]
          refine wpAnyH_take (i := 14) (oi := { dst := some 57, op := Go.Op.move (Go.Operand.tmp 56), type := 4, pos := "law.go:164", after := #[{ on := 13, ground := Go.Ground.data }, { on := 11, ground := Go.Ground.chain }, { on := 11, ground := Go.Ground.guard }], guard := some (11, false) }) (v := ?v14s) rfl (by kernel_rfl) (by kernel_rfl) (by kernel_rfl) (fun _ _ _ h => h) (Or.inl ⟨by rfl, ?y14s⟩) (by assumption) ?r14s
          case y14s => (intro w hSw; obtain ⟨s0, s1, s2, s3, s4⟩ := hSw; go_simp; try with_reducible rfl)
          try simp only [Act.put, List.setIfInBounds_toArray, List.set_cons_zero, List.set_cons_succ]
          refine wpAnyH_take (i := 15) (oi := { dst := some 58, op := Go.Op.move (Go.Operand.tmp 7), type := 23, pos := "law.go:164", after := #[{ on := 14, ground := Go.Ground.guard }], guard := some (14, true) }) (v := ?v15s) rfl (by kernel_rfl) (by kernel_rfl) (by kernel_rfl) (fun _ _ _ h => h) (Or.inl ⟨by rfl, ?y15s⟩) (by assumption) ?r15s
          case y15s => (intro w hSw; obtain ⟨s0, s1, s2, s3, s4⟩ := hSw; go_simp; try with_reducible rfl)
          try simp only [Act.put, List.setIfInBounds_toArray, List.set_cons_zero, List.set_cons_succ]
          refine wpAnyH_take (i := 16) (oi := { dst := some 59, op := Go.Op.move (Go.Operand.tmp 9), type := 3, pos := "law.go:164", after := #[{ on := 14, ground := Go.Ground.guard }], guard := some (14, true) }) (v := ?v16s) rfl (by kernel_rfl) (by kernel_rfl) (by kernel_rfl) (fun _ _ _ h => h) (Or.inl ⟨by rfl, ?y16s⟩) (by assumption) ?r16s
          case y16s => (intro w hSw; obtain ⟨s0, s1, s2, s3, s4⟩ := hSw; go_simp; try with_reducible rfl)
          try simp only [Act.put, List.setIfInBounds_toArray, List.set_cons_zero, List.set_cons_succ]
          refine wpAnyH_take (i := 17) (oi := { dst := some 60, op := Go.Op.binOp Go.BinOp.sub 3 (Go.Operand.tmp 59) (Go.Operand.const (Go.Value.int Go.IntKind.i64 1)) 3, type := 3, pos := "law.go:164", after := #[{ on := 16, ground := Go.Ground.data }, { on := 14, ground := Go.Ground.guard }], guard := some (14, true) }) (v := ?v17s) rfl (by kernel_rfl) (by kernel_rfl) (by kernel_rfl) (fun _ _ _ h => h) (Or.inl ⟨by rfl, ?y17s⟩) (by assumption) ?r17s
          case y17s => (intro w hSw; obtain ⟨s0, s1, s2, s3, s4⟩ := hSw; go_simp; try with_reducible rfl)
          try simp only [Act.put, List.setIfInBounds_toArray, List.set_cons_zero, List.set_cons_succ]
          refine wpAnyH_take (i := 18) (oi := { dst := some 61, op := Go.Op.indexAddr 23 (Go.Operand.tmp 58) (Go.Operand.tmp 60), type := 0, pos := "law.go:164", after := #[{ on := 15, ground := Go.Ground.data }, { on := 17, ground := Go.Ground.data }, { on := 14, ground := Go.Ground.guard }], guard := some (14, true) }) (v := ?v18s) rfl (by kernel_rfl) (by kernel_rfl) (by kernel_rfl) (fun _ _ _ h => h) (Or.inl ⟨by rfl, ?y18s⟩) (by assumption) ?r18s
          case y18s => (intro w hSw; obtain ⟨s0, s1, s2, s3, s4⟩ := hSw; go_simp; try with_reducible rfl)
          try simp only [Act.put, List.setIfInBounds_toArray, List.set_cons_zero, List.set_cons_succ]
          refine wpAnyH_take (i := 19) (oi := { dst := some 62, op := Go.Op.fieldAddr 33 (Go.Operand.tmp 61) 0, type := 0, pos := "law.go:164", after := #[{ on := 18, ground := Go.Ground.data }, { on := 14, ground := Go.Ground.guard }], guard := some (14, true) }) (v := ?v19s) rfl (by kernel_rfl) (by kernel_rfl) (by kernel_rfl) (fun _ _ _ h => h) (Or.inl ⟨by rfl, ?y19s⟩) (by assumption) ?r19s
          case y19s => (intro w hSw; obtain ⟨s0, s1, s2, s3, s4⟩ := hSw; go_simp; try with_reducible rfl)
          try simp only [Act.put, List.setIfInBounds_toArray, List.set_cons_zero, List.set_cons_succ]
          refine wpAnyH_take (i := 20) (oi := { dst := some 63, op := Go.Op.load 9 (Go.Operand.tmp 62), type := 9, pos := "law.go:164", after := #[{ on := 19, ground := Go.Ground.data }, { on := 14, ground := Go.Ground.guard }], guard := some (14, true) }) (v := ?v20s) rfl (by kernel_rfl) (by kernel_rfl) (by kernel_rfl) (fun _ _ _ h => h) (Or.inl ⟨by rfl, ?y20s⟩) (by assumption) ?r20s
          case y20s => (intro w hSw; obtain ⟨s0, s1, s2, s3, s4⟩ := hSw; go_simp; try with_reducible rfl)
          try simp only [Act.put, List.setIfInBounds_toArray, List.set_cons_zero, List.set_cons_succ]
          refine wpAnyH_take (i := 21) (oi := { dst := some 64, op := Go.Op.move (Go.Operand.tmp 7), type := 23, pos := "law.go:164", after := #[{ on := 14, ground := Go.Ground.guard }], guard := some (14, true) }) (v := ?v21s) rfl (by kernel_rfl) (by kernel_rfl) (by kernel_rfl) (fun _ _ _ h => h) (Or.inl ⟨by rfl, ?y21s⟩) (by assumption) ?r21s
          case y21s => (intro w hSw; obtain ⟨s0, s1, s2, s3, s4⟩ := hSw; go_simp; try with_reducible rfl)
          try simp only [Act.put, List.setIfInBounds_toArray, List.set_cons_zero, List.set_cons_succ]
          refine wpAnyH_take (i := 22) (oi := { dst := some 65, op := Go.Op.move (Go.Operand.tmp 9), type := 3, pos := "law.go:164", after := #[{ on := 14, ground := Go.Ground.guard }], guard := some (14, true) }) (v := ?v22s) rfl (by kernel_rfl) (by kernel_rfl) (by kernel_rfl) (fun _ _ _ h => h) (Or.inl ⟨by rfl, ?y22s⟩) (by assumption) ?r22s
          case y22s => (intro w hSw; obtain ⟨s0, s1, s2, s3, s4⟩ := hSw; go_simp; try with_reducible rfl)
          try simp only [Act.put, List.setIfInBounds_toArray, List.set_cons_zero, List.set_cons_succ]
          refine wpAnyH_take (i := 23) (oi := { dst := some 66, op := Go.Op.indexAddr 23 (Go.Operand.tmp 64) (Go.Operand.tmp 65), type := 0, pos := "law.go:164", after := #[{ on := 21, ground := Go.Ground.data }, { on := 22, ground := Go.Ground.data }, { on := 14, ground := Go.Ground.guard }], guard := some (14, true) }) (v := ?v23s) rfl (by kernel_rfl) (by kernel_rfl) (by kernel_rfl) (fun _ _ _ h => h) (Or.inl ⟨by rfl, ?y23s⟩) (by assumption) ?r23s
          case y23s => (intro w hSw; obtain ⟨s0, s1, s2, s3, s4⟩ := hSw; go_simp; try with_reducible rfl)
          try simp only [Act.put, List.setIfInBounds_toArray, List.set_cons_zero, List.set_cons_succ]
          refine wpAnyH_take (i := 24) (oi := { dst := some 67, op := Go.Op.fieldAddr 33 (Go.Operand.tmp 66) 0, type := 0, pos := "law.go:164", after := #[{ on := 23, ground := Go.Ground.data }, { on := 14, ground := Go.Ground.guard }], guard := some (14, true) }) (v := ?v24s) rfl (by kernel_rfl) (by kernel_rfl) (by kernel_rfl) (fun _ _ _ h => h) (Or.inl ⟨by rfl, ?y24s⟩) (by assumption) ?r24s
          case y24s => (intro w hSw; obtain ⟨s0, s1, s2, s3, s4⟩ := hSw; go_simp; try with_reducible rfl)
          try simp only [Act.put, List.setIfInBounds_toArray, List.set_cons_zero, List.set_cons_succ]
          refine wpAnyH_take (i := 25) (oi := { dst := some 68, op := Go.Op.load 9 (Go.Operand.tmp 67), type := 9, pos := "law.go:164", after := #[{ on := 24, ground := Go.Ground.data }, { on := 14, ground := Go.Ground.guard }], guard := some (14, true) }) (v := ?v25s) rfl (by kernel_rfl) (by kernel_rfl) (by kernel_rfl) (fun _ _ _ h => h) (Or.inl ⟨by rfl, ?y25s⟩) (by assumption) ?r25s
          case y25s => (intro w hSw; obtain ⟨s0, s1, s2, s3, s4⟩ := hSw; go_simp; try with_reducible rfl)
          try simp only [Act.put, List.setIfInBounds_toArray, List.set_cons_zero, List.set_cons_succ]
          refine wpAnyH_take (i := 26) (oi := { dst := some 69, op := Go.Op.binOp Go.BinOp.geq 9 (Go.Operand.tmp 63) (Go.Operand.tmp 68) 9, type := 4, pos := "law.go:164", after := #[{ on := 20, ground := Go.Ground.data }, { on := 25, ground := Go.Ground.data }, { on := 14, ground := Go.Ground.guard }], guard := some (14, true) }) (v := ?v26s) rfl (by kernel_rfl) (by kernel_rfl) (by kernel_rfl) (fun _ _ _ h => h) (Or.inl ⟨by rfl, ?y26s⟩) (by assumption) ?r26s
          case y26s => (intro w hSw; obtain ⟨s0, s1, s2, s3, s4⟩ := hSw; go_simp; try with_reducible rfl)
          try simp only [Act.put, List.setIfInBounds_toArray, List.set_cons_zero, List.set_cons_succ]
          refine wpAnyH_take (i := 27) (oi := { dst := some 70, op := Go.Op.pick (Go.Operand.tmp 57) (Go.Operand.tmp 69) (Go.Operand.const (Go.Value.bool false)), type := 4, pos := "law.go:164", after := #[{ on := 14, ground := Go.Ground.data }, { on := 26, ground := Go.Ground.data }, { on := 11, ground := Go.Ground.guard }], guard := some (11, false) }) (v := ?v27s) rfl (by kernel_rfl) (by kernel_rfl) (by kernel_rfl) (fun _ _ _ h => h) (Or.inl ⟨by rfl, ?y27s⟩) (by assumption) ?r27s
          case y27s => (intro w hSw; obtain ⟨s0, s1, s2, s3, s4⟩ := hSw; go_simp; try with_reducible rfl)
          try simp only [Act.put, List.setIfInBounds_toArray, List.set_cons_zero, List.set_cons_succ]
          refine wpAnyH_take (i := 28) (oi := { dst := some 71, op := Go.Op.pick (Go.Operand.tmp 54) (Go.Operand.const (Go.Value.bool true)) (Go.Operand.tmp 70), type := 4, pos := "law.go:164", after := #[{ on := 11, ground := Go.Ground.data }, { on := 27, ground := Go.Ground.data }], guard := none }) (v := ?v28s) rfl (by kernel_rfl) (by kernel_rfl) (by kernel_rfl) (fun _ _ _ h => h) (Or.inl ⟨by rfl, ?y28s⟩) (by assumption) ?r28s
          case y28s => (intro w hSw; obtain ⟨s0, s1, s2, s3, s4⟩ := hSw; go_simp; try with_reducible rfl)
          try simp only [Act.put, List.setIfInBounds_toArray, List.set_cons_zero, List.set_cons_succ]
          refine wpAnyH_take (i := 29) (oi := { dst := some 72, op := Go.Op.move (Go.Operand.tmp 71), type := 4, pos := "law.go:164", after := #[{ on := 28, ground := Go.Ground.data }, { on := 14, ground := Go.Ground.chain }], guard := none }) (v := ?v29s) rfl (by kernel_rfl) (by kernel_rfl) (by kernel_rfl) (fun _ _ _ h => h) (Or.inl ⟨by rfl, ?y29s⟩) (by assumption) ?r29s
          case y29s => (intro w hSw; obtain ⟨s0, s1, s2, s3, s4⟩ := hSw; go_simp; try with_reducible rfl)
          try simp only [Act.put, List.setIfInBounds_toArray, List.set_cons_zero, List.set_cons_succ]
          refine wpAnyH_take (i := 30) (oi := { dst := some 73, op := Go.Op.move (Go.Operand.tmp 7), type := 23, pos := "law.go:164", after := #[{ on := 29, ground := Go.Ground.guard }], guard := some (29, false) }) (v := ?v30s) rfl (by kernel_rfl) (by kernel_rfl) (by kernel_rfl) (fun _ _ _ h => h) (Or.inl ⟨by rfl, ?y30s⟩) (by assumption) ?r30s
          case y30s => (intro w hSw; obtain ⟨s0, s1, s2, s3, s4⟩ := hSw; go_simp; try with_reducible rfl)
          try simp only [Act.put, List.setIfInBounds_toArray, List.set_cons_zero, List.set_cons_succ]
          refine wpAnyH_take (i := 31) (oi := { dst := some 74, op := Go.Op.move (Go.Operand.tmp 9), type := 3, pos := "law.go:164", after := #[{ on := 29, ground := Go.Ground.guard }], guard := some (29, false) }) (v := ?v31s) rfl (by kernel_rfl) (by kernel_rfl) (by kernel_rfl) (fun _ _ _ h => h) (Or.inl ⟨by rfl, ?y31s⟩) (by assumption) ?r31s
          case y31s => (intro w hSw; obtain ⟨s0, s1, s2, s3, s4⟩ := hSw; go_simp; try with_reducible rfl)
          try simp only [Act.put, List.setIfInBounds_toArray, List.set_cons_zero, List.set_cons_succ]
          refine wpAnyH_take (i := 32) (oi := { dst := some 75, op := Go.Op.indexAddr 23 (Go.Operand.tmp 73) (Go.Operand.tmp 74), type := 0, pos := "law.go:164", after := #[{ on := 30, ground := Go.Ground.data }, { on := 31, ground := Go.Ground.data }, { on := 29, ground := Go.Ground.guard }], guard := some (29, false) }) (v := ?v32s) rfl (by kernel_rfl) (by kernel_rfl) (by kernel_rfl) (fun _ _ _ h => h) (Or.inl ⟨by rfl, ?y32s⟩) (by assumption) ?r32s
          case y32s => (intro w hSw; obtain ⟨s0, s1, s2, s3, s4⟩ := hSw; go_simp; try with_reducible rfl)
          try simp only [Act.put, List.setIfInBounds_toArray, List.set_cons_zero, List.set_cons_succ]
          refine wpAnyH_take (i := 33) (oi := { dst := some 76, op := Go.Op.fieldAddr 33 (Go.Operand.tmp 75) 2, type := 0, pos := "law.go:164", after := #[{ on := 32, ground := Go.Ground.data }, { on := 29, ground := Go.Ground.guard }], guard := some (29, false) }) (v := ?v33s) rfl (by kernel_rfl) (by kernel_rfl) (by kernel_rfl) (fun _ _ _ h => h) (Or.inl ⟨by rfl, ?y33s⟩) (by assumption) ?r33s
          case y33s => (intro w hSw; obtain ⟨s0, s1, s2, s3, s4⟩ := hSw; go_simp; try with_reducible rfl)
          try simp only [Act.put, List.setIfInBounds_toArray, List.set_cons_zero, List.set_cons_succ]
          refine wpAnyH_take (i := 34) (oi := { dst := some 77, op := Go.Op.load 4 (Go.Operand.tmp 76), type := 4, pos := "law.go:164", after := #[{ on := 33, ground := Go.Ground.data }, { on := 29, ground := Go.Ground.guard }], guard := some (29, false) }) (v := ?v34s) rfl (by kernel_rfl) (by kernel_rfl) (by kernel_rfl) (fun _ _ _ h => h) (Or.inl ⟨by rfl, ?y34s⟩) (by assumption) ?r34s
          case y34s => (intro w hSw; obtain ⟨s0, s1, s2, s3, s4⟩ := hSw; go_simp; try with_reducible rfl)
          try simp only [Act.put, List.setIfInBounds_toArray, List.set_cons_zero, List.set_cons_succ]
          refine wpAnyH_take (i := 35) (oi := { dst := some 78, op := Go.Op.move (Go.Operand.tmp 77), type := 4, pos := "law.go:164", after := #[{ on := 34, ground := Go.Ground.data }, { on := 29, ground := Go.Ground.chain }, { on := 29, ground := Go.Ground.guard }], guard := some (29, false) }) (v := ?v35s) rfl (by kernel_rfl) (by kernel_rfl) (by kernel_rfl) (fun _ _ _ h => h) (Or.inl ⟨by rfl, ?y35s⟩) (by assumption) ?r35s
          case y35s => (intro w hSw; obtain ⟨s0, s1, s2, s3, s4⟩ := hSw; go_simp; try with_reducible rfl)
          try simp only [Act.put, List.setIfInBounds_toArray, List.set_cons_zero, List.set_cons_succ]
          refine wpAnyH_take (i := 36) (oi := { dst := some 79, op := Go.Op.move (Go.Operand.tmp 8), type := 23, pos := "law.go:164", after := #[{ on := 35, ground := Go.Ground.guard }], guard := some (35, true) }) (v := ?v36s) rfl (by kernel_rfl) (by kernel_rfl) (by kernel_rfl) (fun _ _ _ h => h) (Or.inl ⟨by rfl, ?y36s⟩) (by assumption) ?r36s
          case y36s => (intro w hSw; obtain ⟨s0, s1, s2, s3, s4⟩ := hSw; go_simp; try with_reducible rfl)
          try simp only [Act.put, List.setIfInBounds_toArray, List.set_cons_zero, List.set_cons_succ]
          refine wpAnyH_take (i := 37) (oi := { dst := some 80, op := Go.Op.move (Go.Operand.tmp 9), type := 3, pos := "law.go:164", after := #[{ on := 35, ground := Go.Ground.guard }], guard := some (35, true) }) (v := ?v37s) rfl (by kernel_rfl) (by kernel_rfl) (by kernel_rfl) (fun _ _ _ h => h) (Or.inl ⟨by rfl, ?y37s⟩) (by assumption) ?r37s
          case y37s => (intro w hSw; obtain ⟨s0, s1, s2, s3, s4⟩ := hSw; go_simp; try with_reducible rfl)
          try simp only [Act.put, List.setIfInBounds_toArray, List.set_cons_zero, List.set_cons_succ]
          refine wpAnyH_take (i := 38) (oi := { dst := some 81, op := Go.Op.indexAddr 23 (Go.Operand.tmp 79) (Go.Operand.tmp 80), type := 0, pos := "law.go:164", after := #[{ on := 36, ground := Go.Ground.data }, { on := 37, ground := Go.Ground.data }, { on := 35, ground := Go.Ground.guard }], guard := some (35, true) }) (v := ?v38s) rfl (by kernel_rfl) (by kernel_rfl) (by kernel_rfl) (fun _ _ _ h => h) (Or.inl ⟨by rfl, ?y38s⟩) (by assumption) ?r38s
          case y38s => (intro w hSw; obtain ⟨s0, s1, s2, s3, s4⟩ := hSw; go_simp; try with_reducible rfl)
          try simp only [Act.put, List.setIfInBounds_toArray, List.set_cons_zero, List.set_cons_succ]
          refine wpAnyH_take (i := 39) (oi := { dst := some 82, op := Go.Op.fieldAddr 33 (Go.Operand.tmp 81) 2, type := 0, pos := "law.go:164", after := #[{ on := 38, ground := Go.Ground.data }, { on := 35, ground := Go.Ground.guard }], guard := some (35, true) }) (v := ?v39s) rfl (by kernel_rfl) (by kernel_rfl) (by kernel_rfl) (fun _ _ _ h => h) (Or.inl ⟨by rfl, ?y39s⟩) (by assumption) ?r39s
          case y39s => (intro w hSw; obtain ⟨s0, s1, s2, s3, s4⟩ := hSw; go_simp; try with_reducible rfl)
          try simp only [Act.put, List.setIfInBounds_toArray, List.set_cons_zero, List.set_cons_succ]
          refine wpAnyH_take (i := 40) (oi := { dst := some 83, op := Go.Op.load 4 (Go.Operand.tmp 82), type := 4, pos := "law.go:164", after := #[{ on := 39, ground := Go.Ground.data }, { on := 35, ground := Go.Ground.guard }], guard := some (35, true) }) (v := ?v40s) rfl (by kernel_rfl) (by kernel_rfl) (by kernel_rfl) (fun _ _ _ h => h) (Or.inl ⟨by rfl, ?y40s⟩) (by assumption) ?r40s
          case y40s => (intro w hSw; obtain ⟨s0, s1, s2, s3, s4⟩ := hSw; go_simp; try with_reducible rfl)
          try simp only [Act.put, List.setIfInBounds_toArray, List.set_cons_zero, List.set_cons_succ]
          refine wpAnyH_take (i := 41) (oi := { dst := some 84, op := Go.Op.pick (Go.Operand.tmp 78) (Go.Operand.tmp 83) (Go.Operand.const (Go.Value.bool false)), type := 4, pos := "law.go:164", after := #[{ on := 35, ground := Go.Ground.data }, { on := 40, ground := Go.Ground.data }, { on := 29, ground := Go.Ground.guard }], guard := some (29, false) }) (v := ?v41s) rfl (by kernel_rfl) (by kernel_rfl) (by kernel_rfl) (fun _ _ _ h => h) (Or.inl ⟨by rfl, ?y41s⟩) (by assumption) ?r41s
          case y41s => (intro w hSw; obtain ⟨s0, s1, s2, s3, s4⟩ := hSw; go_simp; try with_reducible rfl)
          try simp only [Act.put, List.setIfInBounds_toArray, List.set_cons_zero, List.set_cons_succ]
          refine wpAnyH_take (i := 42) (oi := { dst := some 85, op := Go.Op.pick (Go.Operand.tmp 72) (Go.Operand.const (Go.Value.bool true)) (Go.Operand.tmp 84), type := 4, pos := "law.go:164", after := #[{ on := 29, ground := Go.Ground.data }, { on := 41, ground := Go.Ground.data }], guard := none }) (v := ?v42s) rfl (by kernel_rfl) (by kernel_rfl) (by kernel_rfl) (fun _ _ _ h => h) (Or.inl ⟨by rfl, ?y42s⟩) (by assumption) ?r42s
          case y42s => (intro w hSw; obtain ⟨s0, s1, s2, s3, s4⟩ := hSw; go_simp; try with_reducible rfl)
          try simp only [Act.put, List.setIfInBounds_toArray, List.set_cons_zero, List.set_cons_succ]
          refine wpAnyH_done (by kernel_rfl) ?_ _
          clear hHeld
          go_wp2
          go_roundw
          case rel => exact ⟨k + 1, by go_num, hlt, Lib.hid (HD.out.step ((Below.refl _ _).drew)), Lib.hid (HE.out.step ((Below.refl _ _).drew)), Lib.hid (HBB.out.drew)⟩
          case measure => simp [intOf]; omega
      · generalize d[k].f0 = nn at *
        generalize d[k].f2 = nb at *
        generalize e[k].f2 = mb at *
        have h0n : ¬ 0 < k := by omega
        have h0i : ¬ (0 : Int) < (k : Int) := h0
        have h0d : decide (0 < k) = false := decide_eq_false h0n
        cases nb
        · skip
          clear g1
          go_wp2
          refine wp_region_held_drew (S := fun W => W.cell? (ad.add (k * 3)) = some (.string nn) ∧ W.cell? ⟨(ad.add (k * 3)).block, (ad.add (k * 3)).off + 2, none⟩ = some (.bool false) ∧ W.cell? (ae.add (k * 3)) = some (.string nn) ∧ W.cell? ⟨(ae.add (k * 3)).block, (ae.add (k * 3)).off + 2, none⟩ = some (.bool mb)) (by kernel_rfl) ?_ (fun hHeld => ?_)
          · exact ⟨c0, c2, d0, d2⟩
          refine wpAnyH_take (i := 0) (oi := { dst := some 43, op := Go.Op.move (Go.Operand.tmp 7), type := 23, pos := "law.go:164", after := #[], guard := none }) (v := ?v0p) rfl (by kernel_rfl) (by kernel_rfl) (by kernel_rfl) (fun _ _ _ h => h) (Or.inl ⟨by rfl, ?y0p⟩) (by assumption) ?r0p
          case y0p => (intro w hSw; obtain ⟨s0, s1, s2, s3⟩ := hSw; go_simp; try with_reducible rfl)
          try simp only [Act.put, List.setIfInBounds_toArray, List.set_cons_zero, List.set_cons_succ]
          refine wpAnyH_take (i := 1) (oi := { dst := some 44, op := Go.Op.move (Go.Operand.tmp 9), type := 3, pos := "law.go:164", after := #[], guard := none }) (v := ?v1p) rfl (by kernel_rfl) (by kernel_rfl) (by kernel_rfl) (fun _ _ _ h => h) (Or.inl ⟨by rfl, ?y1p⟩) (by assumption) ?r1p
          case y1p => (intro w hSw; obtain ⟨s0, s1, s2, s3⟩ := hSw; go_simp; try with_reducible rfl)
          try simp only [Act.put, List.setIfInBounds_toArray, List.set_cons_zero, List.set_cons_succ]
          refine wpAnyH_take (i := 2) (oi := { dst := some 45, op := Go.Op.indexAddr 23 (Go.Operand.tmp 43) (Go.Operand.tmp 44), type := 0, pos := "law.go:164", after := #[{ on := 0, ground := Go.Ground.data }, { on := 1, ground := Go.Ground.data }], guard := none }) (v := ?v2p) rfl (by kernel_rfl) (by kernel_rfl) (by kernel_rfl) (fun _ _ _ h => h) (Or.inl ⟨by rfl, ?y2p⟩) (by assumption) ?r2p
          case y2p => (intro w hSw; obtain ⟨s0, s1, s2, s3⟩ := hSw; go_simp; try with_reducible rfl)
          try simp only [Act.put, List.setIfInBounds_toArray, List.set_cons_zero, List.set_cons_succ]
          refine wpAnyH_take (i := 3) (oi := { dst := some 46, op := Go.Op.fieldAddr 33 (Go.Operand.tmp 45) 0, type := 0, pos := "law.go:164", after := #[{ on := 2, ground := Go.Ground.data }], guard := none }) (v := ?v3p) rfl (by kernel_rfl) (by kernel_rfl) (by kernel_rfl) (fun _ _ _ h => h) (Or.inl ⟨by rfl, ?y3p⟩) (by assumption) ?r3p
          case y3p => (intro w hSw; obtain ⟨s0, s1, s2, s3⟩ := hSw; go_simp; try with_reducible rfl)
          try simp only [Act.put, List.setIfInBounds_toArray, List.set_cons_zero, List.set_cons_succ]
          refine wpAnyH_take (i := 4) (oi := { dst := some 47, op := Go.Op.load 9 (Go.Operand.tmp 46), type := 9, pos := "law.go:164", after := #[{ on := 3, ground := Go.Ground.data }], guard := none }) (v := ?v4p) rfl (by kernel_rfl) (by kernel_rfl) (by kernel_rfl) (fun _ _ _ h => h) (Or.inl ⟨by rfl, ?y4p⟩) (by assumption) ?r4p
          case y4p => (intro w hSw; obtain ⟨s0, s1, s2, s3⟩ := hSw; go_simp; try with_reducible rfl)
          try simp only [Act.put, List.setIfInBounds_toArray, List.set_cons_zero, List.set_cons_succ]
          refine wpAnyH_take (i := 5) (oi := { dst := some 48, op := Go.Op.move (Go.Operand.tmp 8), type := 23, pos := "law.go:164", after := #[], guard := none }) (v := ?v5p) rfl (by kernel_rfl) (by kernel_rfl) (by kernel_rfl) (fun _ _ _ h => h) (Or.inl ⟨by rfl, ?y5p⟩) (by assumption) ?r5p
          case y5p => (intro w hSw; obtain ⟨s0, s1, s2, s3⟩ := hSw; go_simp; try with_reducible rfl)
          try simp only [Act.put, List.setIfInBounds_toArray, List.set_cons_zero, List.set_cons_succ]
          refine wpAnyH_take (i := 6) (oi := { dst := some 49, op := Go.Op.move (Go.Operand.tmp 9), type := 3, pos := "law.go:164", after := #[], guard := none }) (v := ?v6p) rfl (by kernel_rfl) (by kernel_rfl) (by kernel_rfl) (fun _ _ _ h => h) (Or.inl ⟨by rfl, ?y6p⟩) (by assumption) ?r6p
          case y6p => (intro w hSw; obtain ⟨s0, s1, s2, s3⟩ := hSw; go_simp; try with_reducible rfl)
          try simp only [Act.put, List.setIfInBounds_toArray, List.set_cons_zero, List.set_cons_succ]
          refine wpAnyH_take (i := 7) (oi := { dst := some 50, op := Go.Op.indexAddr 23 (Go.Operand.tmp 48) (Go.Operand.tmp 49), type := 0, pos := "law.go:164", after := #[{ on := 5, ground := Go.Ground.data }, { on := 6, ground := Go.Ground.data }], guard := none }) (v := ?v7p) rfl (by kernel_rfl) (by kernel_rfl) (by kernel_rfl) (fun _ _ _ h => h) (Or.inl ⟨by rfl, ?y7p⟩) (by assumption) ?r7p
          case y7p => (intro w hSw; obtain ⟨s0, s1, s2, s3⟩ := hSw; go_simp; try with_reducible rfl)
          try simp only [Act.put, List.setIfInBounds_toArray, List.set_cons_zero, List.set_cons_succ]
          refine wpAnyH_take (i := 8) (oi := { dst := some 51, op := Go.Op.fieldAddr 33 (Go.Operand.tmp 50) 0, type := 0, pos := "law.go:164", after := #[{ on := 7, ground := Go.Ground.data }], guard := none }) (v := ?v8p) rfl (by kernel_rfl) (by kernel_rfl) (by kernel_rfl) (fun _ _ _ h => h) (Or.inl ⟨by rfl, ?y8p⟩) (by assumption) ?r8p
          case y8p => (intro w hSw; obtain ⟨s0, s1, s2, s3⟩ := hSw; go_simp; try with_reducible rfl)
          try simp only [Act.put, List.setIfInBounds_toArray, List.set_cons_zero, List.set_cons_succ]
          refine wpAnyH_take (i := 9) (oi := { dst := some 52, op := Go.Op.load 9 (Go.Operand.tmp 51), type := 9, pos := "law.go:164", after := #[{ on := 8, ground := Go.Ground.data }], guard := none }) (v := ?v9p) rfl (by kernel_rfl) (by kernel_rfl) (by kernel_rfl) (fun _ _ _ h => h) (Or.inl ⟨by rfl, ?y9p⟩) (by assumption) ?r9p
          case y9p => (intro w hSw; obtain ⟨s0, s1, s2, s3⟩ := hSw; go_simp; try with_reducible rfl)
          try simp only [Act.put, List.setIfInBounds_toArray, List.set_cons_zero, List.set_cons_succ]
          refine wpAnyH_take (i := 10) (oi := { dst := some 53, op := Go.Op.binOp Go.BinOp.neq 9 (Go.Operand.tmp 47) (Go.Operand.tmp 52) 9, type := 4, pos := "law.go:164", after := #[{ on := 4, ground := Go.Ground.data }, { on := 9, ground := Go.Ground.data }], guard := none }) (v := ?v10p) rfl (by kernel_rfl) (by kernel_rfl) (by kernel_rfl) (fun _ _ _ h => h) (Or.inl ⟨by rfl, ?y10p⟩) (by assumption) ?r10p
          case y10p => (intro w hSw; obtain ⟨s0, s1, s2, s3⟩ := hSw; go_simp; try with_reducible rfl)
          try simp only [Act.put, List.setIfInBounds_toArray, List.set_cons_zero, List.set_cons_succ]
          refine wpAnyH_take (i := 11) (oi := { dst := some 54, op := Go.Op.move (Go.Operand.tmp 53), type := 4, pos := "law.go:164", after := #[{ on := 10, ground := Go.Ground.data }], guard := none }) (v := ?v11p) rfl (by kernel_rfl) (by kernel_rfl) (by kernel_rfl) (fun _ _ _ h => h) (Or.inl ⟨by rfl, ?y11p⟩) (by assumption) ?r11p
          case y11p => (intro w hSw; obtain ⟨s0, s1, s2, s3⟩ := hSw; go_simp; try with_reducible rfl)
          try simp only [Act.put, List.setIfInBounds_toArray, List.set_cons_zero, List.set_cons_succ]
          refine wpAnyH_take (i := 12) (oi := { dst := some 55, op := Go.Op.move (Go.Operand.tmp 9), type := 3, pos := "law.go:164", after := #[{ on := 11, ground := Go.Ground.guard }], guard := some (11, false) }) (v := ?v12p) rfl (by kernel_rfl) (by kernel_rfl) (by kernel_rfl) (fun _ _ _ h => h) (Or.inl ⟨by rfl, ?y12p⟩) (by assumption) ?r12p
          case y12p => (intro w hSw; obtain ⟨s0, s1, s2, s3⟩ := hSw; go_simp; try with_reducible rfl)
          try simp only [Act.put, List.setIfInBounds_toArray, List.set_cons_zero, List.set_cons_succ]
          refine wpAnyH_take (i := 13) (oi := { dst := some 56, op := Go.Op.binOp Go.BinOp.gtr 3 (Go.Operand.tmp 55) (Go.Operand.const (Go.Value.int Go.IntKind.i64 0)) 3, type := 4, pos := "law.go:164", after := #[{ on := 12, ground := Go.Ground.data }, { on := 11, ground := Go.Ground.guard }], guard := some (11, false) }) (v := ?v13p) rfl (by kernel_rfl) (by kernel_rfl) (by kernel_rfl) (fun _ _ _ h => h) (Or.inl ⟨by rfl, ?y13p⟩) (by assumption) ?r13p
          case y13p => (intro w hSw; obtain ⟨s0, s1, s2, s3⟩ := hSw; go_simp; try with_reducible rfl)
          try simp only [Act.put, List.setIfInBounds_toArray, List.set_cons_zero, List.set_cons_succ]
          refine wpAnyH_take (i := 14) (oi := { dst := some 57, op := Go.Op.move (Go.Operand.tmp 56), type := 4, pos := "law.go:164", after := #[{ on := 13, ground := Go.Ground.data }, { on := 11, ground := Go.Ground.chain }, { on := 11, ground := Go.Ground.guard }], guard := some (11, false) }) (v := ?v14p) rfl (by kernel_rfl) (by kernel_rfl) (by kernel_rfl) (fun _ _ _ h => h) (Or.inl ⟨by rfl, ?y14p⟩) (by assumption) ?r14p
          case y14p => (intro w hSw; obtain ⟨s0, s1, s2, s3⟩ := hSw; go_simp; try with_reducible rfl)
          try simp only [Act.put, List.setIfInBounds_toArray, List.set_cons_zero, List.set_cons_succ]
          refine wpAnyH_take (i := 15) (oi := { dst := some 58, op := Go.Op.move (Go.Operand.tmp 7), type := 23, pos := "law.go:164", after := #[{ on := 14, ground := Go.Ground.guard }], guard := some (14, true) }) (v := undef) rfl (by kernel_rfl) (by kernel_rfl) (by kernel_rfl) (fun _ _ _ h => h) (Or.inr ⟨by rfl, rfl⟩) (by assumption) ?_
          try simp only [Act.put, List.setIfInBounds_toArray, List.set_cons_zero, List.set_cons_succ]
          refine wpAnyH_take (i := 16) (oi := { dst := some 59, op := Go.Op.move (Go.Operand.tmp 9), type := 3, pos := "law.go:164", after := #[{ on := 14, ground := Go.Ground.guard }], guard := some (14, true) }) (v := undef) rfl (by kernel_rfl) (by kernel_rfl) (by kernel_rfl) (fun _ _ _ h => h) (Or.inr ⟨by rfl, rfl⟩) (by assumption) ?_
          try simp only [Act.put, List.setIfInBounds_toArray, List.set_cons_zero, List.set_cons_succ]
          refine wpAnyH_take (i := 17) (oi := { dst := some 60, op := Go.Op.binOp Go.BinOp.sub 3 (Go.Operand.tmp 59) (Go.Operand.const (Go.Value.int Go.IntKind.i64 1)) 3, type := 3, pos := "law.go:164", after := #[{ on := 16, ground := Go.Ground.data }, { on := 14, ground := Go.Ground.guard }], guard := some (14, true) }) (v := undef) rfl (by kernel_rfl) (by kernel_rfl) (by kernel_rfl) (fun _ _ _ h => h) (Or.inr ⟨by rfl, rfl⟩) (by assumption) ?_
          try simp only [Act.put, List.setIfInBounds_toArray, List.set_cons_zero, List.set_cons_succ]
          refine wpAnyH_take (i := 18) (oi := { dst := some 61, op := Go.Op.indexAddr 23 (Go.Operand.tmp 58) (Go.Operand.tmp 60), type := 0, pos := "law.go:164", after := #[{ on := 15, ground := Go.Ground.data }, { on := 17, ground := Go.Ground.data }, { on := 14, ground := Go.Ground.guard }], guard := some (14, true) }) (v := undef) rfl (by kernel_rfl) (by kernel_rfl) (by kernel_rfl) (fun _ _ _ h => h) (Or.inr ⟨by rfl, rfl⟩) (by assumption) ?_
          try simp only [Act.put, List.setIfInBounds_toArray, List.set_cons_zero, List.set_cons_succ]
          refine wpAnyH_take (i := 19) (oi := { dst := some 62, op := Go.Op.fieldAddr 33 (Go.Operand.tmp 61) 0, type := 0, pos := "law.go:164", after := #[{ on := 18, ground := Go.Ground.data }, { on := 14, ground := Go.Ground.guard }], guard := some (14, true) }) (v := undef) rfl (by kernel_rfl) (by kernel_rfl) (by kernel_rfl) (fun _ _ _ h => h) (Or.inr ⟨by rfl, rfl⟩) (by assumption) ?_
          try simp only [Act.put, List.setIfInBounds_toArray, List.set_cons_zero, List.set_cons_succ]
          refine wpAnyH_take (i := 20) (oi := { dst := some 63, op := Go.Op.load 9 (Go.Operand.tmp 62), type := 9, pos := "law.go:164", after := #[{ on := 19, ground := Go.Ground.data }, { on := 14, ground := Go.Ground.guard }], guard := some (14, true) }) (v := undef) rfl (by kernel_rfl) (by kernel_rfl) (by kernel_rfl) (fun _ _ _ h => h) (Or.inr ⟨by rfl, rfl⟩) (by assumption) ?_
          try simp only [Act.put, List.setIfInBounds_toArray, List.set_cons_zero, List.set_cons_succ]
          refine wpAnyH_take (i := 21) (oi := { dst := some 64, op := Go.Op.move (Go.Operand.tmp 7), type := 23, pos := "law.go:164", after := #[{ on := 14, ground := Go.Ground.guard }], guard := some (14, true) }) (v := undef) rfl (by kernel_rfl) (by kernel_rfl) (by kernel_rfl) (fun _ _ _ h => h) (Or.inr ⟨by rfl, rfl⟩) (by assumption) ?_
          try simp only [Act.put, List.setIfInBounds_toArray, List.set_cons_zero, List.set_cons_succ]
          refine wpAnyH_take (i := 22) (oi := { dst := some 65, op := Go.Op.move (Go.Operand.tmp 9), type := 3, pos := "law.go:164", after := #[{ on := 14, ground := Go.Ground.guard }], guard := some (14, true) }) (v := undef) rfl (by kernel_rfl) (by kernel_rfl) (by kernel_rfl) (fun _ _ _ h => h) (Or.inr ⟨by rfl, rfl⟩) (by assumption) ?_
          try simp only [Act.put, List.setIfInBounds_toArray, List.set_cons_zero, List.set_cons_succ]
          refine wpAnyH_take (i := 23) (oi := { dst := some 66, op := Go.Op.indexAddr 23 (Go.Operand.tmp 64) (Go.Operand.tmp 65), type := 0, pos := "law.go:164", after := #[{ on := 21, ground := Go.Ground.data }, { on := 22, ground := Go.Ground.data }, { on := 14, ground := Go.Ground.guard }], guard := some (14, true) }) (v := undef) rfl (by kernel_rfl) (by kernel_rfl) (by kernel_rfl) (fun _ _ _ h => h) (Or.inr ⟨by rfl, rfl⟩) (by assumption) ?_
          try simp only [Act.put, List.setIfInBounds_toArray, List.set_cons_zero, List.set_cons_succ]
          refine wpAnyH_take (i := 24) (oi := { dst := some 67, op := Go.Op.fieldAddr 33 (Go.Operand.tmp 66) 0, type := 0, pos := "law.go:164", after := #[{ on := 23, ground := Go.Ground.data }, { on := 14, ground := Go.Ground.guard }], guard := some (14, true) }) (v := undef) rfl (by kernel_rfl) (by kernel_rfl) (by kernel_rfl) (fun _ _ _ h => h) (Or.inr ⟨by rfl, rfl⟩) (by assumption) ?_
          try simp only [Act.put, List.setIfInBounds_toArray, List.set_cons_zero, List.set_cons_succ]
          refine wpAnyH_take (i := 25) (oi := { dst := some 68, op := Go.Op.load 9 (Go.Operand.tmp 67), type := 9, pos := "law.go:164", after := #[{ on := 24, ground := Go.Ground.data }, { on := 14, ground := Go.Ground.guard }], guard := some (14, true) }) (v := undef) rfl (by kernel_rfl) (by kernel_rfl) (by kernel_rfl) (fun _ _ _ h => h) (Or.inr ⟨by rfl, rfl⟩) (by assumption) ?_
          try simp only [Act.put, List.setIfInBounds_toArray, List.set_cons_zero, List.set_cons_succ]
          refine wpAnyH_take (i := 26) (oi := { dst := some 69, op := Go.Op.binOp Go.BinOp.geq 9 (Go.Operand.tmp 63) (Go.Operand.tmp 68) 9, type := 4, pos := "law.go:164", after := #[{ on := 20, ground := Go.Ground.data }, { on := 25, ground := Go.Ground.data }, { on := 14, ground := Go.Ground.guard }], guard := some (14, true) }) (v := undef) rfl (by kernel_rfl) (by kernel_rfl) (by kernel_rfl) (fun _ _ _ h => h) (Or.inr ⟨by rfl, rfl⟩) (by assumption) ?_
          try simp only [Act.put, List.setIfInBounds_toArray, List.set_cons_zero, List.set_cons_succ]
          refine wpAnyH_take (i := 27) (oi := { dst := some 70, op := Go.Op.pick (Go.Operand.tmp 57) (Go.Operand.tmp 69) (Go.Operand.const (Go.Value.bool false)), type := 4, pos := "law.go:164", after := #[{ on := 14, ground := Go.Ground.data }, { on := 26, ground := Go.Ground.data }, { on := 11, ground := Go.Ground.guard }], guard := some (11, false) }) (v := ?v27p) rfl (by kernel_rfl) (by kernel_rfl) (by kernel_rfl) (fun _ _ _ h => h) (Or.inl ⟨by rfl, ?y27p⟩) (by assumption) ?r27p
          case y27p => (intro w hSw; obtain ⟨s0, s1, s2, s3⟩ := hSw; go_simp; try with_reducible rfl)
          try simp only [Act.put, List.setIfInBounds_toArray, List.set_cons_zero, List.set_cons_succ]
          refine wpAnyH_take (i := 28) (oi := { dst := some 71, op := Go.Op.pick (Go.Operand.tmp 54) (Go.Operand.const (Go.Value.bool true)) (Go.Operand.tmp 70), type := 4, pos := "law.go:164", after := #[{ on := 11, ground := Go.Ground.data }, { on := 27, ground := Go.Ground.data }], guard := none }) (v := ?v28p) rfl (by kernel_rfl) (by kernel_rfl) (by kernel_rfl) (fun _ _ _ h => h) (Or.inl ⟨by rfl, ?y28p⟩) (by assumption) ?r28p
          case y28p => (intro w hSw; obtain ⟨s0, s1, s2, s3⟩ := hSw; go_simp; try with_reducible rfl)
          try simp only [Act.put, List.setIfInBounds_toArray, List.set_cons_zero, List.set_cons_succ]
          refine wpAnyH_take (i := 29) (oi := { dst := some 72, op := Go.Op.move (Go.Operand.tmp 71), type := 4, pos := "law.go:164", after := #[{ on := 28, ground := Go.Ground.data }, { on := 14, ground := Go.Ground.chain }], guard := none }) (v := ?v29p) rfl (by kernel_rfl) (by kernel_rfl) (by kernel_rfl) (fun _ _ _ h => h) (Or.inl ⟨by rfl, ?y29p⟩) (by assumption) ?r29p
          case y29p => (intro w hSw; obtain ⟨s0, s1, s2, s3⟩ := hSw; go_simp; try with_reducible rfl)
          try simp only [Act.put, List.setIfInBounds_toArray, List.set_cons_zero, List.set_cons_succ]
          refine wpAnyH_take (i := 30) (oi := { dst := some 73, op := Go.Op.move (Go.Operand.tmp 7), type := 23, pos := "law.go:164", after := #[{ on := 29, ground := Go.Ground.guard }], guard := some (29, false) }) (v := ?v30p) rfl (by kernel_rfl) (by kernel_rfl) (by kernel_rfl) (fun _ _ _ h => h) (Or.inl ⟨by rfl, ?y30p⟩) (by assumption) ?r30p
          case y30p => (intro w hSw; obtain ⟨s0, s1, s2, s3⟩ := hSw; go_simp; try with_reducible rfl)
          try simp only [Act.put, List.setIfInBounds_toArray, List.set_cons_zero, List.set_cons_succ]
          refine wpAnyH_take (i := 31) (oi := { dst := some 74, op := Go.Op.move (Go.Operand.tmp 9), type := 3, pos := "law.go:164", after := #[{ on := 29, ground := Go.Ground.guard }], guard := some (29, false) }) (v := ?v31p) rfl (by kernel_rfl) (by kernel_rfl) (by kernel_rfl) (fun _ _ _ h => h) (Or.inl ⟨by rfl, ?y31p⟩) (by assumption) ?r31p
          case y31p => (intro w hSw; obtain ⟨s0, s1, s2, s3⟩ := hSw; go_simp; try with_reducible rfl)
          try simp only [Act.put, List.setIfInBounds_toArray, List.set_cons_zero, List.set_cons_succ]
          refine wpAnyH_take (i := 32) (oi := { dst := some 75, op := Go.Op.indexAddr 23 (Go.Operand.tmp 73) (Go.Operand.tmp 74), type := 0, pos := "law.go:164", after := #[{ on := 30, ground := Go.Ground.data }, { on := 31, ground := Go.Ground.data }, { on := 29, ground := Go.Ground.guard }], guard := some (29, false) }) (v := ?v32p) rfl (by kernel_rfl) (by kernel_rfl) (by kernel_rfl) (fun _ _ _ h => h) (Or.inl ⟨by rfl, ?y32p⟩) (by assumption) ?r32p
          case y32p => (intro w hSw; obtain ⟨s0, s1, s2, s3⟩ := hSw; go_simp; try with_reducible rfl)
          try simp only [Act.put, List.setIfInBounds_toArray, List.set_cons_zero, List.set_cons_succ]
          refine wpAnyH_take (i := 33) (oi := { dst := some 76, op := Go.Op.fieldAddr 33 (Go.Operand.tmp 75) 2, type := 0, pos := "law.go:164", after := #[{ on := 32, ground := Go.Ground.data }, { on := 29, ground := Go.Ground.guard }], guard := some (29, false) }) (v := ?v33p) rfl (by kernel_rfl) (by kernel_rfl) (by kernel_rfl) (fun _ _ _ h => h) (Or.inl ⟨by rfl, ?y33p⟩) (by assumption) ?r33p
          case y33p => (intro w hSw; obtain ⟨s0, s1, s2, s3⟩ := hSw; go_simp; try with_reducible rfl)
          try simp only [Act.put, List.setIfInBounds_toArray, List.set_cons_zero, List.set_cons_succ]
          refine wpAnyH_take (i := 34) (oi := { dst := some 77, op := Go.Op.load 4 (Go.Operand.tmp 76), type := 4, pos := "law.go:164", after := #[{ on := 33, ground := Go.Ground.data }, { on := 29, ground := Go.Ground.guard }], guard := some (29, false) }) (v := ?v34p) rfl (by kernel_rfl) (by kernel_rfl) (by kernel_rfl) (fun _ _ _ h => h) (Or.inl ⟨by rfl, ?y34p⟩) (by assumption) ?r34p
          case y34p => (intro w hSw; obtain ⟨s0, s1, s2, s3⟩ := hSw; go_simp; try with_reducible rfl)
          try simp only [Act.put, List.setIfInBounds_toArray, List.set_cons_zero, List.set_cons_succ]
          refine wpAnyH_take (i := 35) (oi := { dst := some 78, op := Go.Op.move (Go.Operand.tmp 77), type := 4, pos := "law.go:164", after := #[{ on := 34, ground := Go.Ground.data }, { on := 29, ground := Go.Ground.chain }, { on := 29, ground := Go.Ground.guard }], guard := some (29, false) }) (v := ?v35p) rfl (by kernel_rfl) (by kernel_rfl) (by kernel_rfl) (fun _ _ _ h => h) (Or.inl ⟨by rfl, ?y35p⟩) (by assumption) ?r35p
          case y35p => (intro w hSw; obtain ⟨s0, s1, s2, s3⟩ := hSw; go_simp; try with_reducible rfl)
          try simp only [Act.put, List.setIfInBounds_toArray, List.set_cons_zero, List.set_cons_succ]
          refine wpAnyH_take (i := 36) (oi := { dst := some 79, op := Go.Op.move (Go.Operand.tmp 8), type := 23, pos := "law.go:164", after := #[{ on := 35, ground := Go.Ground.guard }], guard := some (35, true) }) (v := undef) rfl (by kernel_rfl) (by kernel_rfl) (by kernel_rfl) (fun _ _ _ h => h) (Or.inr ⟨by rfl, rfl⟩) (by assumption) ?_
          try simp only [Act.put, List.setIfInBounds_toArray, List.set_cons_zero, List.set_cons_succ]
          refine wpAnyH_take (i := 37) (oi := { dst := some 80, op := Go.Op.move (Go.Operand.tmp 9), type := 3, pos := "law.go:164", after := #[{ on := 35, ground := Go.Ground.guard }], guard := some (35, true) }) (v := undef) rfl (by kernel_rfl) (by kernel_rfl) (by kernel_rfl) (fun _ _ _ h => h) (Or.inr ⟨by rfl, rfl⟩) (by assumption) ?_
          try simp only [Act.put, List.setIfInBounds_toArray, List.set_cons_zero, List.set_cons_succ]
          refine wpAnyH_take (i := 38) (oi := { dst := some 81, op := Go.Op.indexAddr 23 (Go.Operand.tmp 79) (Go.Operand.tmp 80), type := 0, pos := "law.go:164", after := #[{ on := 36, ground := Go.Ground.data }, { on := 37, ground := Go.Ground.data }, { on := 35, ground := Go.Ground.guard }], guard := some (35, true) }) (v := undef) rfl (by kernel_rfl) (by kernel_rfl) (by kernel_rfl) (fun _ _ _ h => h) (Or.inr ⟨by rfl, rfl⟩) (by assumption) ?_
          try simp only [Act.put, List.setIfInBounds_toArray, List.set_cons_zero, List.set_cons_succ]
          refine wpAnyH_take (i := 39) (oi := { dst := some 82, op := Go.Op.fieldAddr 33 (Go.Operand.tmp 81) 2, type := 0, pos := "law.go:164", after := #[{ on := 38, ground := Go.Ground.data }, { on := 35, ground := Go.Ground.guard }], guard := some (35, true) }) (v := undef) rfl (by kernel_rfl) (by kernel_rfl) (by kernel_rfl) (fun _ _ _ h => h) (Or.inr ⟨by rfl, rfl⟩) (by assumption) ?_
          try simp only [Act.put, List.setIfInBounds_toArray, List.set_cons_zero, List.set_cons_succ]
          refine wpAnyH_take (i := 40) (oi := { dst := some 83, op := Go.Op.load 4 (Go.Operand.tmp 82), type := 4, pos := "law.go:164", after := #[{ on := 39, ground := Go.Ground.data }, { on := 35, ground := Go.Ground.guard }], guard := some (35, true) }) (v := undef) rfl (by kernel_rfl) (by kernel_rfl) (by kernel_rfl) (fun _ _ _ h => h) (Or.inr ⟨by rfl, rfl⟩) (by assumption) ?_
          try simp only [Act.put, List.setIfInBounds_toArray, List.set_cons_zero, List.set_cons_succ]
          refine wpAnyH_take (i := 41) (oi := { dst := some 84, op := Go.Op.pick (Go.Operand.tmp 78) (Go.Operand.tmp 83) (Go.Operand.const (Go.Value.bool false)), type := 4, pos := "law.go:164", after := #[{ on := 35, ground := Go.Ground.data }, { on := 40, ground := Go.Ground.data }, { on := 29, ground := Go.Ground.guard }], guard := some (29, false) }) (v := ?v41p) rfl (by kernel_rfl) (by kernel_rfl) (by kernel_rfl) (fun _ _ _ h => h) (Or.inl ⟨by rfl, ?y41p⟩) (by assumption) ?r41p
          case y41p => (intro w hSw; obtain ⟨s0, s1, s2, s3⟩ := hSw; go_simp; try with_reducible rfl)
          try simp only [Act.put, List.setIfInBounds_toArray, List.set_cons_zero, List.set_cons_succ]
          refine wpAnyH_take (i := 42) (oi := { dst := some 85, op := Go.Op.pick (Go.Operand.tmp 72) (Go.Operand.const (Go.Value.bool true)) (Go.Operand.tmp 84), type := 4, pos := "law.go:164", after := #[{ on := 29, ground := Go.Ground.data }, { on := 41, ground := Go.Ground.data }], guard := none }) (v := ?v42p) rfl (by kernel_rfl) (by kernel_rfl) (by kernel_rfl) (fun _ _ _ h => h) (Or.inl ⟨by rfl, ?y42p⟩) (by assumption) ?r42p
          case y42p => (intro w hSw; obtain ⟨s0, s1, s2, s3⟩ := hSw; go_simp; try with_reducible rfl)
          try simp only [Act.put, List.setIfInBounds_toArray, List.set_cons_zero, List.set_cons_succ]
          refine wpAnyH_done (by kernel_rfl) ?_ _
          clear hHeld
          go_wp2
          go_roundw
          case rel => exact ⟨k + 1, by go_num, hlt, Lib.hid (HD.out.step ((Below.refl _ _).drew)), Lib.hid (HE.out.step ((Below.refl _ _).drew)), Lib.hid (HBB.out.drew)⟩
          case measure => simp [intOf]; omega
        · skip
          obtain rfl : mb = false := by simpa using g1
          clear g1
          go_wp2
          refine wp_region_held_drew (S := fun W => W.cell? (ad.add (k * 3)) = some (.string nn) ∧ W.cell? ⟨(ad.add (k * 3)).block, (ad.add (k * 3)).off + 2, none⟩ = some (.bool true) ∧ W.cell? (ae.add (k * 3)) = some (.string nn) ∧ W.cell? ⟨(ae.add (k * 3)).block, (ae.add (k * 3)).off + 2, none⟩ = some (.bool false)) (by kernel_rfl) ?_ (fun hHeld => ?_)
          · exact ⟨c0, c2, d0, d2⟩
          refine wpAnyH_take (i := 0) (oi := { dst := some 43, op := Go.Op.move (Go.Operand.tmp 7), type := 23, pos := "law.go:164", after := #[], guard := none }) (v := ?v0q) rfl (by kernel_rfl) (by kernel_rfl) (by kernel_rfl) (fun _ _ _ h => h) (Or.inl ⟨by rfl, ?y0q⟩) (by assumption) ?r0q
          case y0q => (intro w hSw; obtain ⟨s0, s1, s2, s3⟩ := hSw; go_simp; try with_reducible rfl)
          try simp only [Act.put, List.setIfInBounds_toArray, List.set_cons_zero, List.set_cons_succ]
          refine wpAnyH_take (i := 1) (oi := { dst := some 44, op := Go.Op.move (Go.Operand.tmp 9), type := 3, pos := "law.go:164", after := #[], guard := none }) (v := ?v1q) rfl (by kernel_rfl) (by kernel_rfl) (by kernel_rfl) (fun _ _ _ h => h) (Or.inl ⟨by rfl, ?y1q⟩) (by assumption) ?r1q
          case y1q => (intro w hSw; obtain ⟨s0, s1, s2, s3⟩ := hSw; go_simp; try with_reducible rfl)
          try simp only [Act.put, List.setIfInBounds_toArray, List.set_cons_zero, List.set_cons_succ]
          refine wpAnyH_take (i := 2) (oi := { dst := some 45, op := Go.Op.indexAddr 23 (Go.Operand.tmp 43) (Go.Operand.tmp 44), type := 0, pos := "law.go:164", after := #[{ on := 0, ground := Go.Ground.data }, { on := 1, ground := Go.Ground.data }], guard := none }) (v := ?v2q) rfl (by kernel_rfl) (by kernel_rfl) (by kernel_rfl) (fun _ _ _ h => h) (Or.inl ⟨by rfl, ?y2q⟩) (by assumption) ?r2q
          case y2q => (intro w hSw; obtain ⟨s0, s1, s2, s3⟩ := hSw; go_simp; try with_reducible rfl)
          try simp only [Act.put, List.setIfInBounds_toArray, List.set_cons_zero, List.set_cons_succ]
          refine wpAnyH_take (i := 3) (oi := { dst := some 46, op := Go.Op.fieldAddr 33 (Go.Operand.tmp 45) 0, type := 0, pos := "law.go:164", after := #[{ on := 2, ground := Go.Ground.data }], guard := none }) (v := ?v3q) rfl (by kernel_rfl) (by kernel_rfl) (by kernel_rfl) (fun _ _ _ h => h) (Or.inl ⟨by rfl, ?y3q⟩) (by assumption) ?r3q
          case y3q => (intro w hSw; obtain ⟨s0, s1, s2, s3⟩ := hSw; go_simp; try with_reducible rfl)
          try simp only [Act.put, List.setIfInBounds_toArray, List.set_cons_zero, List.set_cons_succ]
          refine wpAnyH_take (i := 4) (oi := { dst := some 47, op := Go.Op.load 9 (Go.Operand.tmp 46), type := 9, pos := "law.go:164", after := #[{ on := 3, ground := Go.Ground.data }], guard := none }) (v := ?v4q) rfl (by kernel_rfl) (by kernel_rfl) (by kernel_rfl) (fun _ _ _ h => h) (Or.inl ⟨by rfl, ?y4q⟩) (by assumption) ?r4q
          case y4q => (intro w hSw; obtain ⟨s0, s1, s2, s3⟩ := hSw; go_simp; try with_reducible rfl)
          try simp only [Act.put, List.setIfInBounds_toArray, List.set_cons_zero, List.set_cons_succ]
          refine wpAnyH_take (i := 5) (oi := { dst := some 48, op := Go.Op.move (Go.Operand.tmp 8), type := 23, pos := "law.go:164", after := #[], guard := none }) (v := ?v5q) rfl (by kernel_rfl) (by kernel_rfl) (by kernel_rfl) (fun _ _ _ h => h) (Or.inl ⟨by rfl, ?y5q⟩) (by assumption) ?r5q
          case y5q => (intro w hSw; obtain ⟨s0, s1, s2, s3⟩ := hSw; go_simp; try with_reducible rfl)
          try simp only [Act.put, List.setIfInBounds_toArray, List.set_cons_zero, List.set_cons_succ]
          refine wpAnyH_take (i := 6) (oi := { dst := some 49, op := Go.Op.move (Go.Operand.tmp 9), type := 3, pos := "law.go:164", after := #[], guard := none }) (v := ?v6q) rfl (by kernel_rfl) (by kernel_rfl) (by kernel_rfl) (fun _ _ _ h => h) (Or.inl ⟨by rfl, ?y6q⟩) (by assumption) ?r6q
          case y6q => (intro w hSw; obtain ⟨s0, s1, s2, s3⟩ := hSw; go_simp; try with_reducible rfl)
          try simp only [Act.put, List.setIfInBounds_toArray, List.set_cons_zero, List.set_cons_succ]
          refine wpAnyH_take (i := 7) (oi := { dst := some 50, op := Go.Op.indexAddr 23 (Go.Operand.tmp 48) (Go.Operand.tmp 49), type := 0, pos := "law.go:164", after := #[{ on := 5, ground := Go.Ground.data }, { on := 6, ground := Go.Ground.data }], guard := none }) (v := ?v7q) rfl (by kernel_rfl) (by kernel_rfl) (by kernel_rfl) (fun _ _ _ h => h) (Or.inl ⟨by rfl, ?y7q⟩) (by assumption) ?r7q
          case y7q => (intro w hSw; obtain ⟨s0, s1, s2, s3⟩ := hSw; go_simp; try with_reducible rfl)
          try simp only [Act.put, List.setIfInBounds_toArray, List.set_cons_zero, List.set_cons_succ]
          refine wpAnyH_take (i := 8) (oi := { dst := some 51, op := Go.Op.fieldAddr 33 (Go.Operand.tmp 50) 0, type := 0, pos := "law.go:164", after := #[{ on := 7, ground := Go.Ground.data }], guard := none }) (v := ?v8q) rfl (by kernel_rfl) (by kernel_rfl) (by kernel_rfl) (fun _ _ _ h => h) (Or.inl ⟨by rfl, ?y8q⟩) (by assumption) ?r8q
          case y8q => (intro w hSw; obtain ⟨s0, s1, s2, s3⟩ := hSw; go_simp; try with_reducible rfl)
          try simp only [Act.put, List.setIfInBounds_toArray, List.set_cons_zero, List.set_cons_succ]
          refine wpAnyH_take (i := 9) (oi := { dst := some 52, op := Go.Op.load 9 (Go.Operand.tmp 51), type := 9, pos := "law.go:164", after := #[{ on := 8, ground := Go.Ground.data }], guard := none }) (v := ?v9q) rfl (by kernel_rfl) (by kernel_rfl) (by kernel_rfl) (fun _ _ _ h => h) (Or.inl ⟨by rfl, ?y9q⟩) (by assumption) ?r9q
          case y9q => (intro w hSw; obtain ⟨s0, s1, s2, s3⟩ := hSw; go_simp; try with_reducible rfl)
          try simp only [Act.put, List.setIfInBounds_toArray, List.set_cons_zero, List.set_cons_succ]
          refine wpAnyH_take (i := 10) (oi := { dst := some 53, op := Go.Op.binOp Go.BinOp.neq 9 (Go.Operand.tmp 47) (Go.Operand.tmp 52) 9, type := 4, pos := "law.go:164", after := #[{ on := 4, ground := Go.Ground.data }, { on := 9, ground := Go.Ground.data }], guard := none }) (v := ?v10q) rfl (by kernel_rfl) (by kernel_rfl) (by kernel_rfl) (fun _ _ _ h => h) (Or.inl ⟨by rfl, ?y10q⟩) (by assumption) ?r10q
          case y10q => (intro w hSw; obtain ⟨s0, s1, s2, s3⟩ := hSw; go_simp; try with_reducible rfl)
          try simp only [Act.put, List.setIfInBounds_toArray, List.set_cons_zero, List.set_cons_succ]
          refine wpAnyH_take (i := 11) (oi := { dst := some 54, op := Go.Op.move (Go.Operand.tmp 53), type := 4, pos := "law.go:164", after := #[{ on := 10, ground := Go.Ground.data }], guard := none }) (v := ?v11q) rfl (by kernel_rfl) (by kernel_rfl) (by kernel_rfl) (fun _ _ _ h => h) (Or.inl ⟨by rfl, ?y11q⟩) (by assumption) ?r11q
          case y11q => (intro w hSw; obtain ⟨s0, s1, s2, s3⟩ := hSw; go_simp; try with_reducible rfl)
          try simp only [Act.put, List.setIfInBounds_toArray, List.set_cons_zero, List.set_cons_succ]
          refine wpAnyH_take (i := 12) (oi := { dst := some 55, op := Go.Op.move (Go.Operand.tmp 9), type := 3, pos := "law.go:164", after := #[{ on := 11, ground := Go.Ground.guard }], guard := some (11, false) }) (v := ?v12q) rfl (by kernel_rfl) (by kernel_rfl) (by kernel_rfl) (fun _ _ _ h => h) (Or.inl ⟨by rfl, ?y12q⟩) (by assumption) ?r12q
          case y12q => (intro w hSw; obtain ⟨s0, s1, s2, s3⟩ := hSw; go_simp; try with_reducible rfl)
          try simp only [Act.put, List.setIfInBounds_toArray, List.set_cons_zero, List.set_cons_succ]
          refine wpAnyH_take (i := 13) (oi := { dst := some 56, op := Go.Op.binOp Go.BinOp.gtr 3 (Go.Operand.tmp 55) (Go.Operand.const (Go.Value.int Go.IntKind.i64 0)) 3, type := 4, pos := "law.go:164", after := #[{ on := 12, ground := Go.Ground.data }, { on := 11, ground := Go.Ground.guard }], guard := some (11, false) }) (v := ?v13q) rfl (by kernel_rfl) (by kernel_rfl) (by kernel_rfl) (fun _ _ _ h => h) (Or.inl ⟨by rfl, ?y13q⟩) (by assumption) ?r13q
          case y13q => (intro w hSw; obtain ⟨s0, s1, s2, s3⟩ := hSw; go_simp; try with_reducible rfl)
          try simp only [Act.put, List.setIfInBounds_toArray, List.set_cons_zero, List.set_cons_succ]
          refine wpAnyH_take (i := 14) (oi := { dst := some 57, op := Go.Op.move (Go.Operand.tmp 56), type := 4, pos := "law.go:164", after := #[{ on := 13, ground := Go.Ground.data }, { on := 11, ground := Go.Ground.chain }, { on := 11, ground := Go.Ground.guard }], guard := some (11, false) }) (v := ?v14q) rfl (by kernel_rfl) (by kernel_rfl) (by kernel_rfl) (fun _ _ _ h => h) (Or.inl ⟨by rfl, ?y14q⟩) (by assumption) ?r14q
          case y14q => (intro w hSw; obtain ⟨s0, s1, s2, s3⟩ := hSw; go_simp; try with_reducible rfl)
          try simp only [Act.put, List.setIfInBounds_toArray, List.set_cons_zero, List.set_cons_succ]
          refine wpAnyH_take (i := 15) (oi := { dst := some 58, op := Go.Op.move (Go.Operand.tmp 7), type := 23, pos := "law.go:164", after := #[{ on := 14, ground := Go.Ground.guard }], guard := some (14, true) }) (v := undef) rfl (by kernel_rfl) (by kernel_rfl) (by kernel_rfl) (fun _ _ _ h => h) (Or.inr ⟨by rfl, rfl⟩) (by assumption) ?_
          try simp only [Act.put, List.setIfInBounds_toArray, List.set_cons_zero, List.set_cons_succ]
          refine wpAnyH_take (i := 16) (oi := { dst := some 59, op := Go.Op.move (Go.Operand.tmp 9), type := 3, pos := "law.go:164", after := #[{ on := 14, ground := Go.Ground.guard }], guard := some (14, true) }) (v := undef) rfl (by kernel_rfl) (by kernel_rfl) (by kernel_rfl) (fun _ _ _ h => h) (Or.inr ⟨by rfl, rfl⟩) (by assumption) ?_
          try simp only [Act.put, List.setIfInBounds_toArray, List.set_cons_zero, List.set_cons_succ]
          refine wpAnyH_take (i := 17) (oi := { dst := some 60, op := Go.Op.binOp Go.BinOp.sub 3 (Go.Operand.tmp 59) (Go.Operand.const (Go.Value.int Go.IntKind.i64 1)) 3, type := 3, pos := "law.go:164", after := #[{ on := 16, ground := Go.Ground.data }, { on := 14, ground := Go.Ground.guard }], guard := some (14, true) }) (v := undef) rfl (by kernel_rfl) (by kernel_rfl) (by kernel_rfl) (fun _ _ _ h => h) (Or.inr ⟨by rfl, rfl⟩) (by assumption) ?_
          try simp only [Act.put, List.setIfInBounds_toArray, List.set_cons_zero, List.set_cons_succ]
          refine wpAnyH_take (i := 18) (oi := { dst := some 61, op := Go.Op.indexAddr 23 (Go.Operand.tmp 58) (Go.Operand.tmp 60), type := 0, pos := "law.go:164", after := #[{ on := 15, ground := Go.Ground.data }, { on := 17, ground := Go.Ground.data }, { on := 14, ground := Go.Ground.guard }], guard := some (14, true) }) (v := undef) rfl (by kernel_rfl) (by kernel_rfl) (by kernel_rfl) (fun _ _ _ h => h) (Or.inr ⟨by rfl, rfl⟩) (by assumption) ?_
          try simp only [Act.put, List.setIfInBounds_toArray, List.set_cons_zero, List.set_cons_succ]
          refine wpAnyH_take (i := 19) (oi := { dst := some 62, op := Go.Op.fieldAddr 33 (Go.Operand.tmp 61) 0, type := 0, pos := "law.go:164", after := #[{ on := 18, ground := Go.Ground.data }, { on := 14, ground := Go.Ground.guard }], guard := some (14, true) }) (v := undef) rfl (by kernel_rfl) (by kernel_rfl) (by kernel_rfl) (fun _ _ _ h => h) (Or.inr ⟨by rfl, rfl⟩) (by assumption) ?_
          try simp only [Act.put, List.setIfInBounds_toArray, List.set_cons_zero, List.set_cons_succ]
          refine wpAnyH_take (i := 20) (oi := { dst := some 63, op := Go.Op.load 9 (Go.Operand.tmp 62), type := 9, pos := "law.go:164", after := #[{ on := 19, ground := Go.Ground.data }, { on := 14, ground := Go.Ground.guard }], guard := some (14, true) }) (v := undef) rfl (by kernel_rfl) (by kernel_rfl) (by kernel_rfl) (fun _ _ _ h => h) (Or.inr ⟨by rfl, rfl⟩) (by assumption) ?_
          try simp only [Act.put, List.setIfInBounds_toArray, List.set_cons_zero, List.set_cons_succ]
          refine wpAnyH_take (i := 21) (oi := { dst := some 64, op := Go.Op.move (Go.Operand.tmp 7), type := 23, pos := "law.go:164", after := #[{ on := 14, ground := Go.Ground.guard }], guard := some (14, true) }) (v := undef) rfl (by kernel_rfl) (by kernel_rfl) (by kernel_rfl) (fun _ _ _ h => h) (Or.inr ⟨by rfl, rfl⟩) (by assumption) ?_
          try simp only [Act.put, List.setIfInBounds_toArray, List.set_cons_zero, List.set_cons_succ]
          refine wpAnyH_take (i := 22) (oi := { dst := some 65, op := Go.Op.move (Go.Operand.tmp 9), type := 3, pos := "law.go:164", after := #[{ on := 14, ground := Go.Ground.guard }], guard := some (14, true) }) (v := undef) rfl (by kernel_rfl) (by kernel_rfl) (by kernel_rfl) (fun _ _ _ h => h) (Or.inr ⟨by rfl, rfl⟩) (by assumption) ?_
          try simp only [Act.put, List.setIfInBounds_toArray, List.set_cons_zero, List.set_cons_succ]
          refine wpAnyH_take (i := 23) (oi := { dst := some 66, op := Go.Op.indexAddr 23 (Go.Operand.tmp 64) (Go.Operand.tmp 65), type := 0, pos := "law.go:164", after := #[{ on := 21, ground := Go.Ground.data }, { on := 22, ground := Go.Ground.data }, { on := 14, ground := Go.Ground.guard }], guard := some (14, true) }) (v := undef) rfl (by kernel_rfl) (by kernel_rfl) (by kernel_rfl) (fun _ _ _ h => h) (Or.inr ⟨by rfl, rfl⟩) (by assumption) ?_
          try simp only [Act.put, List.setIfInBounds_toArray, List.set_cons_zero, List.set_cons_succ]
          refine wpAnyH_take (i := 24) (oi := { dst := some 67, op := Go.Op.fieldAddr 33 (Go.Operand.tmp 66) 0, type := 0, pos := "law.go:164", after := #[{ on := 23, ground := Go.Ground.data }, { on := 14, ground := Go.Ground.guard }], guard := some (14, true) }) (v := undef) rfl (by kernel_rfl) (by kernel_rfl) (by kernel_rfl) (fun _ _ _ h => h) (Or.inr ⟨by rfl, rfl⟩) (by assumption) ?_
          try simp only [Act.put, List.setIfInBounds_toArray, List.set_cons_zero, List.set_cons_succ]
          refine wpAnyH_take (i := 25) (oi := { dst := some 68, op := Go.Op.load 9 (Go.Operand.tmp 67), type := 9, pos := "law.go:164", after := #[{ on := 24, ground := Go.Ground.data }, { on := 14, ground := Go.Ground.guard }], guard := some (14, true) }) (v := undef) rfl (by kernel_rfl) (by kernel_rfl) (by kernel_rfl) (fun _ _ _ h => h) (Or.inr ⟨by rfl, rfl⟩) (by assumption) ?_
          try simp only [Act.put, List.setIfInBounds_toArray, List.set_cons_zero, List.set_cons_succ]
          refine wpAnyH_take (i := 26) (oi := { dst := some 69, op := Go.Op.binOp Go.BinOp.geq 9 (Go.Operand.tmp 63) (Go.Operand.tmp 68) 9, type := 4, pos := "law.go:164", after := #[{ on := 20, ground := Go.Ground.data }, { on := 25, ground := Go.Ground.data }, { on := 14, ground := Go.Ground.guard }], guard := some (14, true) }) (v := undef) rfl (by kernel_rfl) (by kernel_rfl) (by kernel_rfl) (fun _ _ _ h => h) (Or.inr ⟨by rfl, rfl⟩) (by assumption) ?_
          try simp only [Act.put, List.setIfInBounds_toArray, List.set_cons_zero, List.set_cons_succ]
          refine wpAnyH_take (i := 27) (oi := { dst := some 70, op := Go.Op.pick (Go.Operand.tmp 57) (Go.Operand.tmp 69) (Go.Operand.const (Go.Value.bool false)), type := 4, pos := "law.go:164", after := #[{ on := 14, ground := Go.Ground.data }, { on := 26, ground := Go.Ground.data }, { on := 11, ground := Go.Ground.guard }], guard := some (11, false) }) (v := ?v27q) rfl (by kernel_rfl) (by kernel_rfl) (by kernel_rfl) (fun _ _ _ h => h) (Or.inl ⟨by rfl, ?y27q⟩) (by assumption) ?r27q
          case y27q => (intro w hSw; obtain ⟨s0, s1, s2, s3⟩ := hSw; go_simp; try with_reducible rfl)
          try simp only [Act.put, List.setIfInBounds_toArray, List.set_cons_zero, List.set_cons_succ]
          refine wpAnyH_take (i := 28) (oi := { dst := some 71, op := Go.Op.pick (Go.Operand.tmp 54) (Go.Operand.const (Go.Value.bool true)) (Go.Operand.tmp 70), type := 4, pos := "law.go:164", after := #[{ on := 11, ground := Go.Ground.data }, { on := 27, ground := Go.Ground.data }], guard := none }) (v := ?v28q) rfl (by kernel_rfl) (by kernel_rfl) (by kernel_rfl) (fun _ _ _ h => h) (Or.inl ⟨by rfl, ?y28q⟩) (by assumption) ?r28q
          case y28q => (intro w hSw; obtain ⟨s0, s1, s2, s3⟩ := hSw; go_simp; try with_reducible rfl)
          try simp only [Act.put, List.setIfInBounds_toArray, List.set_cons_zero, List.set_cons_succ]
          refine wpAnyH_take (i := 29) (oi := { dst := some 72, op := Go.Op.move (Go.Operand.tmp 71), type := 4, pos := "law.go:164", after := #[{ on := 28, ground := Go.Ground.data }, { on := 14, ground := Go.Ground.chain }], guard := none }) (v := ?v29q) rfl (by kernel_rfl) (by kernel_rfl) (by kernel_rfl) (fun _ _ _ h => h) (Or.inl ⟨by rfl, ?y29q⟩) (by assumption) ?r29q
          case y29q => (intro w hSw; obtain ⟨s0, s1, s2, s3⟩ := hSw; go_simp; try with_reducible rfl)
          try simp only [Act.put, List.setIfInBounds_toArray, List.set_cons_zero, List.set_cons_succ]
          refine wpAnyH_take (i := 30) (oi := { dst := some 73, op := Go.Op.move (Go.Operand.tmp 7), type := 23, pos := "law.go:164", after := #[{ on := 29, ground := Go.Ground.guard }], guard := some (29, false) }) (v := ?v30q) rfl (by kernel_rfl) (by kernel_rfl) (by kernel_rfl) (fun _ _ _ h => h) (Or.inl ⟨by rfl, ?y30q⟩) (by assumption) ?r30q
          case y30q => (intro w hSw; obtain ⟨s0, s1, s2, s3⟩ := hSw; go_simp; try with_reducible rfl)
          try simp only [Act.put, List.setIfInBounds_toArray, List.set_cons_zero, List.set_cons_succ]
          refine wpAnyH_take (i := 31) (oi := { dst := some 74, op := Go.Op.move (Go.Operand.tmp 9), type := 3, pos := "law.go:164", after := #[{ on := 29, ground := Go.Ground.guard }], guard := some (29, false) }) (v := ?v31q) rfl (by kernel_rfl) (by kernel_rfl) (by kernel_rfl) (fun _ _ _ h => h) (Or.inl ⟨by rfl, ?y31q⟩) (by assumption) ?r31q
          case y31q => (intro w hSw; obtain ⟨s0, s1, s2, s3⟩ := hSw; go_simp; try with_reducible rfl)
          try simp only [Act.put, List.setIfInBounds_toArray, List.set_cons_zero, List.set_cons_succ]
          refine wpAnyH_take (i := 32) (oi := { dst := some 75, op := Go.Op.indexAddr 23 (Go.Operand.tmp 73) (Go.Operand.tmp 74), type := 0, pos := "law.go:164", after := #[{ on := 30, ground := Go.Ground.data }, { on := 31, ground := Go.Ground.data }, { on := 29, ground := Go.Ground.guard }], guard := some (29, false) }) (v := ?v32q) rfl (by kernel_rfl) (by kernel_rfl) (by kernel_rfl) (fun _ _ _ h => h) (Or.inl ⟨by rfl, ?y32q⟩) (by assumption) ?r32q
          case y32q => (intro w hSw; obtain ⟨s0, s1, s2, s3⟩ := hSw; go_simp; try with_reducible rfl)
          try simp only [Act.put, List.setIfInBounds_toArray, List.set_cons_zero, List.set_cons_succ]
          refine wpAnyH_take (i := 33) (oi := { dst := some 76, op := Go.Op.fieldAddr 33 (Go.Operand.tmp 75) 2, type := 0, pos := "law.go:164", after := #[{ on := 32, ground := Go.Ground.data }, { on := 29, ground := Go.Ground.guard }], guard := some (29, false) }) (v := ?v33q) rfl (by kernel_rfl) (by kernel_rfl) (by kernel_rfl) (fun _ _ _ h => h) (Or.inl ⟨by rfl, ?y33q⟩) (by assumption) ?r33q
          case y33q => (intro w hSw; obtain ⟨s0, s1, s2, s3⟩ := hSw; go_simp; try with_reducible rfl)
          try simp only [Act.put, List.setIfInBounds_toArray, List.set_cons_zero, List.set_cons_succ]
          refine wpAnyH_take (i := 34) (oi := { dst := some 77, op := Go.Op.load 4 (Go.Operand.tmp 76), type := 4, pos := "law.go:164", after := #[{ on := 33, ground := Go.Ground.data }, { on := 29, ground := Go.Ground.guard }], guard := some (29, false) }) (v := ?v34q) rfl (by kernel_rfl) (by kernel_rfl) (by kernel_rfl) (fun _ _ _ h => h) (Or.inl ⟨by rfl, ?y34q⟩) (by assumption) ?r34q
          case y34q => (intro w hSw; obtain ⟨s0, s1, s2, s3⟩ := hSw; go_simp; try with_reducible rfl)
          try simp only [Act.put, List.setIfInBounds_toArray, List.set_cons_zero, List.set_cons_succ]
          refine wpAnyH_take (i := 35) (oi := { dst := some 78, op := Go.Op.move (Go.Operand.tmp 77), type := 4, pos := "law.go:164", after := #[{ on := 34, ground := Go.Ground.data }, { on := 29, ground := Go.Ground.chain }, { on := 29, ground := Go.Ground.guard }], guard := some (29, false) }) (v := ?v35q) rfl (by kernel_rfl) (by kernel_rfl) (by kernel_rfl) (fun _ _ _ h => h) (Or.inl ⟨by rfl, ?y35q⟩) (by assumption) ?r35q
          case y35q => (intro w hSw; obtain ⟨s0, s1, s2, s3⟩ := hSw; go_simp; try with_reducible rfl)
          try simp only [Act.put, List.setIfInBounds_toArray, List.set_cons_zero, List.set_cons_succ]
          refine wpAnyH_take (i := 36) (oi := { dst := some 79, op := Go.Op.move (Go.Operand.tmp 8), type := 23, pos := "law.go:164", after := #[{ on := 35, ground := Go.Ground.guard }], guard := some (35, true) }) (v := ?v36q) rfl (by kernel_rfl) (by kernel_rfl) (by kernel_rfl) (fun _ _ _ h => h) (Or.inl ⟨by rfl, ?y36q⟩) (by assumption) ?r36q
          case y36q => (intro w hSw; obtain ⟨s0, s1, s2, s3⟩ := hSw; go_simp; try with_reducible rfl)
          try simp only [Act.put, List.setIfInBounds_toArray, List.set_cons_zero, List.set_cons_succ]
          refine wpAnyH_take (i := 37) (oi := { dst := some 80, op := Go.Op.move (Go.Operand.tmp 9), type := 3, pos := "law.go:164", after := #[{ on := 35, ground := Go.Ground.guard }], guard := some (35, true) }) (v := ?v37q) rfl (by kernel_rfl) (by kernel_rfl) (by kernel_rfl) (fun _ _ _ h => h) (Or.inl ⟨by rfl, ?y37q⟩) (by assumption) ?r37q
          case y37q => (intro w hSw; obtain ⟨s0, s1, s2, s3⟩ := hSw; go_simp; try with_reducible rfl)
          try simp only [Act.put, List.setIfInBounds_toArray, List.set_cons_zero, List.set_cons_succ]
          refine wpAnyH_take (i := 38) (oi := { dst := some 81, op := Go.Op.indexAddr 23 (Go.Operand.tmp 79) (Go.Operand.tmp 80), type := 0, pos := "law.go:164", after := #[{ on := 36, ground := Go.Ground.data }, { on := 37, ground := Go.Ground.data }, { on := 35, ground := Go.Ground.guard }], guard := some (35, true) }) (v := ?v38q) rfl (by kernel_rfl) (by kernel_rfl) (by kernel_rfl) (fun _ _ _ h => h) (Or.inl ⟨by rfl, ?y38q⟩) (by assumption) ?r38q
          case y38q => (intro w hSw; obtain ⟨s0, s1, s2, s3⟩ := hSw; go_simp; try with_reducible rfl)
          try simp only [Act.put, List.setIfInBounds_toArray, List.set_cons_zero, List.set_cons_succ]
          refine wpAnyH_take (i := 39) (oi := { dst := some 82, op := Go.Op.fieldAddr 33 (Go.Operand.tmp 81) 2, type := 0, pos := "law.go:164", after := #[{ on := 38, ground := Go.Ground.data }, { on := 35, ground := Go.Ground.guard }], guard := some (35, true) }) (v := ?v39q) rfl (by kernel_rfl) (by kernel_rfl) (by kernel_rfl) (fun _ _ _ h => h) (Or.inl ⟨by rfl, ?y39q⟩) (by assumption) ?r39q
          case y39q => (intro w hSw; obtain ⟨s0, s1, s2, s3⟩ := hSw; go_simp; try with_reducible rfl)
          try simp only [Act.put, List.setIfInBounds_toArray, List.set_cons_zero, List.set_cons_succ]
          refine wpAnyH_take (i := 40) (oi := { dst := some 83, op := Go.Op.load 4 (Go.Operand.tmp 82), type := 4, pos := "law.go:164", after := #[{ on := 39, ground := Go.Ground.data }, { on := 35, ground := Go.Ground.guard }], guard := some (35, true) }) (v := ?v40q) rfl (by kernel_rfl) (by kernel_rfl) (by kernel_rfl) (fun _ _ _ h => h) (Or.inl ⟨by rfl, ?y40q⟩) (by assumption) ?r40q
          case y40q => (intro w hSw; obtain ⟨s0, s1, s2, s3⟩ := hSw; go_simp; try with_reducible rfl)
          try simp only [Act.put, List.setIfInBounds_toArray, List.set_cons_zero, List.set_cons_succ]
          refine wpAnyH_take (i := 41) (oi := { dst := some 84, op := Go.Op.pick (Go.Operand.tmp 78) (Go.Operand.tmp 83) (Go.Operand.const (Go.Value.bool false)), type := 4, pos := "law.go:164", after := #[{ on := 35, ground := Go.Ground.data }, { on := 40, ground := Go.Ground.data }, { on := 29, ground := Go.Ground.guard }], guard := some (29, false) }) (v := ?v41q) rfl (by kernel_rfl) (by kernel_rfl) (by kernel_rfl) (fun _ _ _ h => h) (Or.inl ⟨by rfl, ?y41q⟩) (by assumption) ?r41q
          case y41q => (intro w hSw; obtain ⟨s0, s1, s2, s3⟩ := hSw; go_simp; try with_reducible rfl)
          try simp only [Act.put, List.setIfInBounds_toArray, List.set_cons_zero, List.set_cons_succ]
          refine wpAnyH_take (i := 42) (oi := { dst := some 85, op := Go.Op.pick (Go.Operand.tmp 72) (Go.Operand.const (Go.Value.bool true)) (Go.Operand.tmp 84), type := 4, pos := "law.go:164", after := #[{ on := 29, ground := Go.Ground.data }, { on := 41, ground := Go.Ground.data }], guard := none }) (v := ?v42q) rfl (by kernel_rfl) (by kernel_rfl) (by kernel_rfl) (fun _ _ _ h => h) (Or.inl ⟨by rfl, ?y42q⟩) (by assumption) ?r42q
          case y42q => (intro w hSw; obtain ⟨s0, s1, s2, s3⟩ := hSw; go_simp; try with_reducible rfl)
          try simp only [Act.put, List.setIfInBounds_toArray, List.set_cons_zero, List.set_cons_succ]
          refine wpAnyH_done (by kernel_rfl) ?_ _
          clear hHeld
          go_wp2
          go_roundw
          case rel => exact ⟨k + 1, by go_num, hlt, Lib.hid (HD.out.step ((Below.refl _ _).drew)), Lib.hid (HE.out.step ((Below.refl _ _).drew)), Lib.hid (HBB.out.drew)⟩
          case measure => simp [intOf]; omega
    · obtain rfl : k = d.length := by omega
      go_wp2_with (go_at_call 13; refine (awake.walk _).mono ?_; rintro e_ w10 ⟨rfl, hb⟩; have HBX := Lib.hid (HBB.out.trans (hb.mono HBB.out.size)); clear hb)
      go_ret
      exact ⟨rfl, HBX.out⟩
end Go.Proofs.YtmckpkiodcmbeaaGreat.Q

-- P4
namespace Go.Proofs.YtmckpkiodcmbeaaGreat.Q
open Go.RowKit Go.Proofs.YtmckpkiodcmbeaaGreatW.PrintWords Go.Proofs.YtmckpkiodcmbeaaGreatW.PrintLast Go.Proofs.YtmckpkiodcmbeaaGreatW.PrintMore
set_option linter.unusedVariables false
set_option linter.unusedSimpArgs false

/-! ### ItemsBack holds in plain words -/
theorem norm_size {l : List S35} (h : ∀ n ∈ l, n.f0.size ≤ maxLen) : ∀ n ∈ normL l, n.f0.size ≤ maxLen := by
  intro n hn
  have h1 := ((normL_ok l).2 n).1 hn
  have h2 := (valF_some l (fun _ => none) n.f0).1 (by show (valL l n.f0).isSome = true; rw [h1]; rfl)
  rcases h2 with h2 | ⟨x, hx, e⟩
  · simp at h2
  · rw [← e]; exact h x hx
theorem val_size {l : List S35} (h : ∀ n ∈ l, n.f0.size ≤ maxLen) {nm s : ByteArray} (e : valL l nm = some s) : nm.size ≤ maxLen := by
  have h2 := (valF_some l (fun _ => none) nm).1 (by show (valL l nm).isSome = true; rw [e]; rfl)
  rcases h2 with h2 | ⟨x, hx, e⟩
  · simp at h2
  · rw [← e]; exact h x hx
theorem diff_size {a b : List S35} (ha : ∀ n ∈ a, n.f0.size ≤ maxLen) (hb : ∀ n ∈ b, n.f0.size ≤ maxLen) : ∀ c ∈ diffL a b, c.f0.size ≤ maxLen := by
  intro c hc
  have h := (diffL_mem a b c).1 hc
  cases h1 : valL a c.f0 with
  | some s => exact val_size ha h1
  | none =>
    cases h2 : valL b c.f0 with
    | some s => exact val_size hb h2
    | none => unfold diffF at h; rw [h1, h2] at h; cases h
theorem diff_gone {a b : List S35} {c : S33} (hc : c ∈ diffL a b) (h2 : c.f2 = true) : valL b c.f0 = none ∧ (valL a c.f0).isSome = true := by
  have h := (diffL_mem a b c).1 hc
  unfold diffF at h
  cases h1 : valL a c.f0 with
  | some s =>
    cases h3 : valL b c.f0 with
    | some t =>
      rw [h1, h3] at h
      simp only at h
      split at h
      · cases h
      · injection h with h
        rw [← h] at h2
        cases h2
    | none => exact ⟨rfl, rfl⟩
  | none =>
    cases h3 : valL b c.f0 with
    | some t =>
      rw [h1, h3] at h
      simp only at h
      injection h with h
      rw [← h] at h2
      cases h2
    | none => rw [h1, h3] at h; cases h
theorem back_calls (A0 : Option Addr) (c0 : Nat) (l0 : List S35) (A1 : Option Addr) (c1 : Nat) (l1 : List S35) (w : World) (hr0 : Kd.C k35 w A0 l0.length l0) (hc0 : l0.length ≤ c0) (hr1 : Kd.C k35 w A1 l1.length l1) (hc1 : l1.length ≤ c1) :
    Calls Tryz.prog 4 #[.slice A0 l0.length c0, .slice A1 l1.length c1] w fun e w' => e = .returned (.bool true) ∧ Below w.heap.size w w' := by
  have ha0 := fewL_len l0
  have hb0 := fewL_len l1
  have ha1 := normL_len (fewL l0)
  have hb1 := normL_len (fewL l1)
  have sa := norm_size (fewL_size l0)
  have sb := norm_size (fewL_size l1)
  have ia := (normL_ok (fewL l0)).1
  have ib := (normL_ok (fewL l1)).1
  have qa : items_With.f (fewL l0) [] = some (normL (fewL l0)) := by
    unfold items_With.f
    rw [if_pos (few_ok l0), if_pos (show okC [] = true from rfl)]
    rfl
  have qb : items_With.f (fewL l1) [] = some (normL (fewL l1)) := by
    unfold items_With.f
    rw [if_pos (few_ok l1), if_pos (show okC [] = true from rfl)]
    rfl
  generalize normL (fewL l0) = a at *
  generalize normL (fewL l1) = b at *
  have oa := okI_of (l := a) (by omega) sa
  have ob := okI_of (l := b) (by omega) sb
  have hn := diffL_names a b
  have hlen : (diffL a b).length = (diffL b a).length := by have := congrArg List.length hn; simpa using this
  have l1' := diffL_len a b
  have l2' := diffL_len b a
  have o1 := okC_of (l := diffL a b) (by omega) (diff_size sa sb)
  have o2 := okC_of (l := diffL b a) (by omega) (diff_size sb sa)
  refine back.walk A0 c0 l0 A1 c1 l1 w hr0 hc0 hr1 hc1 (fewL l0) (fewL l1) a b (diffL a b) (diffL b a) rfl rfl qa qb ?_ ?_ hlen ?_ ?_ (same11_self _ (by omega) _ (by omega)) (by omega) ?_ ?_ ?_
  · unfold items_Diff.f
    rw [if_pos oa, if_pos ob]
  · unfold items_Diff.f
    rw [if_pos ob, if_pos oa]
  · unfold items_With.f
    rw [if_pos oa, if_pos o1, with_diff ia ib]
  · unfold items_With.f
    rw [if_pos ob, if_pos o2, with_diff ib ia]
  · intro i h1 h2
    have := List.getElem_of_eq hn (i := i) (by rw [List.length_map]; exact h1)
    exact (by simpa using this : (diffL a b)[i].f0 = (diffL b a)[i].f0).symm
  · intro i h1 h2
    exact bless_ltN.2 (List.pairwise_iff_getElem.1 (diffL_SC a b) i (i + 1) h1 h2 (by omega))
  · intro i h1 h2
    have e3 : (diffL a b)[i].f0 = (diffL b a)[i].f0 := by
      have := List.getElem_of_eq hn (i := i) (by rw [List.length_map]; exact h1)
      simpa using this
    cases q1 : (diffL a b)[i].f2
    · rfl
    · cases q2 : (diffL b a)[i].f2
      · rfl
      · have g1 := diff_gone (List.getElem_mem h1) q1
        have g2 := diff_gone (List.getElem_mem h2) q2
        rw [e3] at g1
        rw [g2.1] at g1
        simp at g1
end Go.Proofs.YtmckpkiodcmbeaaGreat.Q

-- LawBack
namespace Go.Proofs.YtmckpkiodcmbeaaGreat.itemsBack
open Go.ChangeShapes Go.WideShapes Go.ChangeAt Go.RowKit
open Go.ChangeMaps (open_string shut_string)
set_option linter.unusedVariables false

theorem ownItemsBack : ownKnob Tryz.prog.godebug = none := by kernel_rfl
theorem laidOutItemsBack : laidOutB Tryz.prog = true := by kernel_rfl
set_option maxRecDepth 100000 in
theorem lifted (os : Os) (started : os.Started) (H : Type) (enc : TypeId × Value → H) :
    ReturnsInHanded {} Tryz.checked os 4 .any (Rows.itemsBackSpec.pre6 enc Tryz.prog Tryz.f4 Rows.itemsBackRow.domain false) (Rows.itemsBackSpec.post enc Tryz.prog Tryz.f4 false true false false) := by
  refine returnsInHanded_of_change_sized (C := Tryz.checked) ownItemsBack started (by kernel_rfl) Tryz.func4
    (ChangeSpec.witness6 (enc := enc) (C := Tryz.checked) false ⟨#[], #[.slice none 0 0, .slice none 0 0], []⟩ 8 (by kernel_rfl) (by kernel_rfl) (by kernel_rfl) (by kernel_rfl)) ?_
  intro W base args ds gs before hval0 hW hcnd hsz0 _
  have hval : ∀ (j : Nat) t v, Tryz.f4.params[j]? = some t → args[j]? = some v → Value.okWide Tryz.prog W .any base t v := hval0
  have hW' := hW
  obtain ⟨p, q, hA0, hV, rfl, hfz, hnd⟩ := hW
  have hA : DataW.TrodAll enc Tryz.prog W 0 (fun _ => true) true Tryz.f4.params.toList args.toList ds p := hA0
  rw [Tryz.params4] at hA hval
  obtain ⟨v0, vs0, d0, ds0, p0, q0, hargs, rfl, rfl, h0, r0⟩ := trodAll_cons hA
  obtain ⟨v1, vs1, d1, ds1, p1, q1, rfl, rfl, rfl, h1, r1⟩ := trodAll_cons r0
  obtain ⟨rfl, rfl, rfl⟩ := trodAll_nil r1
  obtain rfl : args = #[v0, v1] := by cases args; simp_all
  obtain ⟨rfl, rfl⟩ := trodVars_none hV
  have k0 := h0
  have lt0 : ∀ x ∈ p0, x.block < W.heap.size := by obtain ⟨m, hm⟩ := k0; exact DataW.trod_lt m _ _ _ hm
  have k1 := h1
  have lt1 : ∀ x ∈ p1, x.block < W.heap.size := by obtain ⟨m, hm⟩ := k1; exact DataW.trod_lt m _ _ _ hm
  obtain ⟨l_0, A_0, c_0, rfl, hl_0, hC_0⟩ := Q.open_items (hval 0 22 v0 rfl rfl) h0
  obtain ⟨l_1, A_1, c_1, rfl, hl_1, hC_1⟩ := Q.open_items (hval 1 22 v1 rfl rfl) h1
  clear hA0 hval0 hsz0
  refine (Q.back_calls A_0 c_0 l_0 A_1 c_1 l_1 W hC_0 hl_0 hC_1 hl_1).mono fun e W' ⟨he, bel⟩ => ?_
  subst he
  exact ⟨_, rfl, _, _, _, [], _, [], hW', trodAll_mk1 (shut_bool Tryz.underlying4 _), (trodAll_cons_mk (Below.trod laidOutItemsBack (by kernel_rfl) (of_decide_eq_true (by kernel_rfl)) k0 bel lt0) (trodAll_cons_mk (Below.trod laidOutItemsBack (by kernel_rfl) (of_decide_eq_true (by kernel_rfl)) k1 bel lt1) trodAll_mk0)), rfl, bel.frame _, fun h => by cases h⟩
theorem over : Rows.itemsBackRow.holds Tryz.pinned (OpenSpec.ofChange Rows.itemsBackSpec) :=
  OpenClaim.holds_of_wide 4 Tryz.f4 rfl rfl rfl rfl rfl rfl rfl ⟨rfl, rfl, rfl, rfl, rfl⟩ rfl rfl rfl rfl rfl (by kernel_rfl) Tryz.func4 (by kernel_rfl)
    (of_decide_eq_true (by kernel_rfl)) (by unfold Func.isWrapper; first | (rw [if_pos (by decide +kernel)]; kernel_rfl) | (rw [if_neg (by decide +kernel)]; exact ⟨rfl, rfl⟩))
    (fun os started H enc _ => lifted os started H enc)
end Go.Proofs.YtmckpkiodcmbeaaGreat.itemsBack
namespace Go.Proofs.YtmckpkiodcmbeaaGreat
open Go
/-- The row. -/
theorem itemsBack_holds : Rows.ItemsBackSaid := itemsBack.over
#print axioms itemsBack_holds
end Go.Proofs.YtmckpkiodcmbeaaGreat
