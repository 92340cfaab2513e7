/- The law PartsTurns returns true for every input that its row lets in (the tied card), under the row's own conditions and no others. Part 27 of 27. -/
import Derived.Test.YtgpmkbmobdbdoaaDoorPt5
import Derived.Maps.OwnSet
import Derived.Maps.StringElems
import Derived.Deep.DeepCutAuto
import Derived.ProofKit
import Derived.Deep.Strs
import Derived.Test.YtgpmkbmobdbdoaaDoorRows
import Derived.LaidMore
import Derived.OpenShut
import Derived.Stop.Joined
import Derived.Test.YtgpmkbmobdbdoaaDoorTie
import Derived.Test.YtgpmkbmobdbdoaaDoorCards
import Derived.WalkKit
import Derived.ShutString
import Derived.ChangeOld
import Derived.Below
import Derived.SizedLaws
import Derived.SevenTiedAt
import Derived.Lib.SmallJoins
-- P15
namespace Go.Proofs.YtgpmkbmobdbdoaaDoor.Q
open Go.RowKit Go.Proofs.YtgpmkbmobdbdoaaDoorW.PrintWords Go.Proofs.YtgpmkbmobdbdoaaDoorW.PrintLast Go.Proofs.YtgpmkbmobdbdoaaDoorW.PrintMore
set_option linter.unusedVariables false
set_option linter.unusedSimpArgs false

/-! Parts of the numbers 1 to 9, laid one behind the other into upload 7. -/
def uK7 (L : List S40) : S25 := ⟨7, sK, L⟩
structure InL (L : List S40) : Prop where
  up : L.Pairwise (fun a b => a.f0 < b.f0)
  mem : ∀ p ∈ L, 1 ≤ p.f0 ∧ p.f0 ≤ 9 ∧ p.f1.size ≤ 2000
theorem inl_nil : InL [] := ⟨List.Pairwise.nil, by simp⟩
theorem rising_len (l : List S40) : ∀ (a b : Int), l.Pairwise (fun a b => a.f0 < b.f0) → (∀ p ∈ l, a < p.f0 ∧ p.f0 ≤ b) → a ≤ b → (l.length : Int) ≤ b - a := by
  induction l with
  | nil => intro a b _ _ h; simp; omega
  | cons x l ih =>
    intro a b hs hm hab
    obtain ⟨h1, h2⟩ := List.pairwise_cons.1 hs
    obtain ⟨h3, h4⟩ := hm x List.mem_cons_self
    have := ih x.f0 b h2 (fun p hp => ⟨h1 p hp, (hm p (List.mem_cons_of_mem _ hp)).2⟩) h4
    rw [List.length_cons]; omega
theorem InL.len {L : List S40} (h : InL L) : L.length ≤ 9 := by
  have := rising_len L 0 9 h.up (fun p hp => by have := h.mem p hp; omega) (by decide)
  omega
theorem InL.check {L : List S40} (h : InL L) : checkB [uK7 L] = true := by
  rw [check_iff]
  refine ⟨by simp, fun u hu => ?_, by simp⟩
  obtain rfl : u = uK7 L := by simpa using hu
  rw [fine_iff]
  refine ⟨by rfl, by rfl, by have := h.len; show L.length ≤ 30; omega, fun x hx => ?_, h.up⟩
  have := h.mem x hx
  unfold mayB
  simp only [Bool.and_eq_true, decide_eq_true_eq]
  omega
theorem lay_big (L : List S40) (n : Int) (d : ByteArray) (h : 2000 < d.size) : layR [uK7 L] 7 ⟨n, d⟩ = ([], 0, 1) := by
  have : mayB ⟨n, d⟩ = false := by unfold mayB; simp; omega
  unfold layR
  rw [if_pos (Or.inr this)]
theorem there_lay (L : List S40) (p : S40) (hs : L.Pairwise (fun a b => a.f0 < b.f0)) (m : Int) : thereP (layParts L p) m = (decide (p.f0 = m) || thereP L m) := by
  obtain ⟨A, M, B, e1, e2, e3, e4, e5⟩ := lay_split L p hs
  rw [e2, e1]
  unfold thereP
  rw [List.any_append, List.any_cons, List.any_append, List.any_append]
  rcases e5 with ⟨rfl, _⟩ | ⟨q, rfl, hq, _⟩
  · rw [List.any_nil, Bool.false_or]
    by_cases h : p.f0 = m
    · simp [h]
    · rw [show (p.f0 == m) = false from beq_eq_false_iff_ne.2 h, decide_eq_false h]; simp
  · simp only [List.any_cons, List.any_nil, Bool.or_false, hq]
    by_cases h : p.f0 = m
    · simp [h]
    · simp [h]
theorem data_lay_same (L : List S40) (p : S40) (hs : L.Pairwise (fun a b => a.f0 < b.f0)) : dataOf (layParts L p) p.f0 = p.f1 := by
  obtain ⟨A, M, B, e1, e2, e3, e4, e5⟩ := lay_split L p hs
  rw [e2]
  unfold dataOf
  rw [List.foldl_append, List.foldl_cons, if_pos rfl, none_data p.f0 B _ (fun x hx => by have := e4 x hx; omega)]
theorem data_lay_other (L : List S40) (p : S40) (hs : L.Pairwise (fun a b => a.f0 < b.f0)) (m : Int) (hm : p.f0 ≠ m) : dataOf (layParts L p) m = dataOf L m := by
  obtain ⟨A, M, B, e1, e2, e3, e4, e5⟩ := lay_split L p hs
  rw [e2, e1]
  unfold dataOf
  rw [List.foldl_append, List.foldl_cons, if_neg hm, List.foldl_append, List.foldl_append]
  rcases e5 with ⟨rfl, _⟩ | ⟨q, rfl, hq, _⟩
  · rfl
  · rw [List.foldl_cons, if_neg (by rw [hq]; exact hm)]; rfl
theorem InL.lay {L : List S40} (h : InL L) {n : Int} {d : ByteArray} (h1 : 1 ≤ n) (h9 : n ≤ 9) (hd : d.size ≤ 2000) : InL (layParts L ⟨n, d⟩) := by
  obtain ⟨A, M, B, e1, e2, e3, e4, e5⟩ := lay_split L ⟨n, d⟩ h.up
  have hu := h.up
  rw [e1] at hu
  obtain ⟨p1, p2, p3⟩ := List.pairwise_append.1 hu
  obtain ⟨p4, p5, p6⟩ := List.pairwise_append.1 p2
  refine ⟨?_, ?_⟩
  · rw [e2, List.pairwise_append]
    refine ⟨p1, List.pairwise_cons.2 ⟨e4, p5⟩, fun a ha b hb => ?_⟩
    rcases List.mem_cons.1 hb with rfl | hb
    · exact e3 a ha
    · exact p3 a ha b (List.mem_append_right _ hb)
  · intro p hp
    rw [e2] at hp
    rcases List.mem_append.1 hp with hp | hp
    · exact h.mem p (by rw [e1]; exact List.mem_append_left _ hp)
    · rcases List.mem_cons.1 hp with rfl | hp
      · exact ⟨h1, h9, hd⟩
      · exact h.mem p (by rw [e1]; exact List.mem_append_right _ (List.mem_append_right _ hp))
theorem lay_in {L : List S40} (h : InL L) {n : Int} {d : ByteArray} (h1 : 1 ≤ n) (h9 : n ≤ 9) (hd : d.size ≤ 2000) : layR [uK7 L] 7 ⟨n, d⟩ = ([uK7 (layParts L ⟨n, d⟩)], tagOf d, 0) := by
  have hm : mayB ⟨n, d⟩ = true := by unfold mayB; simp; omega
  have hl := h.len
  unfold layR
  rw [if_neg (by rw [h.check, hm]; simp)]
  have hp : posU [uK7 L] 7 = some 0 := rfl
  rw [hp]
  simp only
  have hg : [uK7 L].getD 0 z25 = uK7 L := rfl
  rw [hg, if_neg (by intro hh; have := hh.2; unfold uK7 at this; simp only at this; omega)]
  rfl
theorem find7 {L : List S40} (h : InL L) : findR [uK7 L] 7 = (uK7 L, 0) := find_mem h.check (x := uK7 L) (by simp)
def pcs (L : List S40) : List S48 := L.map fun p => ⟨p.f0, tagOf p.f1⟩
def catL (L : List S40) : List UInt8 := L.flatMap fun p => p.f1.data.toList
theorem data_mem {L : List S40} (hs : L.Pairwise (fun a b => a.f0 < b.f0)) {p : S40} (hp : p ∈ L) : dataOf L p.f0 = p.f1 := by
  obtain ⟨s, t, rfl⟩ := List.append_of_mem hp
  obtain ⟨p1, p2, p3⟩ := List.pairwise_append.1 hs
  unfold dataOf
  rw [List.foldl_append, List.foldl_cons, if_pos rfl, none_data p.f0 t _ (fun x hx => by have := (List.pairwise_cons.1 p2).1 x hx; omega)]
theorem pcs_get (L : List S40) (j : Nat) (h : j < L.length) : (pcs L).getD j z48 = ⟨L[j].f0, tagOf L[j].f1⟩ := by
  rw [List.getD_eq_getElem?_getD, List.getElem?_eq_getElem (by unfold pcs; rw [List.length_map]; exact h)]
  unfold pcs; simp
theorem pcs_len (L : List S40) : (pcs L).length = L.length := List.length_map _
theorem long_self {L : List S40} (hs : L.Pairwise (fun a b => a.f0 < b.f0)) (j : Nat) (h : j < L.length) : longAt L (pcs L) j = !(decide (j + 1 < L.length) && decide (L[j].f1.size < 5)) := by
  unfold longAt
  rw [pcs_get L j h, pcs_len]
  simp only
  rw [data_mem hs (List.getElem_mem h)]
theorem whole_self {L : List S40} (h : InL L) : wholeR (uK7 L) (pcs L) = if L.length = 0 then (noStr, noStr, 1) else if allFrom (longAt L (pcs L)) 0 L.length = false then (noStr, noStr, 3) else if 2000 < (catL L).length then (noStr, noStr, 6) else (⟨(catL L).toArray⟩, manyText (tagsFor (pcs L)), 0) := by
  have hf : fineB (uK7 L).f0 (uK7 L).f1 (uK7 L).f2 = true := by
    have := ((check_iff _).1 h.check).2.1 (uK7 L) (by simp)
    exact this
  have ho : ordB (pcs L) = true := by
    unfold ordB
    rw [allFrom_iff]
    intro j h1 h2
    rw [pcs_len] at h2
    unfold ordAt
    rw [pcs_get L j (by omega), pcs_get L (j - 1) (by omega), decide_eq_true_eq]
    exact List.pairwise_iff_getElem.1 h.up (j - 1) j (by omega) (by omega) (by omega)
  have hl : ¬ (pcs L).any (lackB (uK7 L).f2) = true := by
    intro hh
    obtain ⟨x, hx, hk⟩ := List.any_eq_true.1 hh
    unfold pcs at hx
    obtain ⟨p, hp, rfl⟩ := List.mem_map.1 hx
    unfold lackB hasPiece at hk
    have : (uK7 L).f2.any (isPiece ⟨p.f0, tagOf p.f1⟩) = true := List.any_eq_true.2 ⟨p, hp, by unfold isPiece; simp⟩
    rw [this] at hk
    cases hk
  have hb : bytesFor (uK7 L).f2 (pcs L) = catL L := by
    have : ∀ M : List S40, (∀ p ∈ M, p ∈ L) → (M.map fun p => (⟨p.f0, tagOf p.f1⟩ : S48)).flatMap (fun x => (dataOf L x.f0).data.toList) = M.flatMap fun p => p.f1.data.toList := by
      intro M
      induction M with
      | nil => intro _; rfl
      | cons p M ih =>
        intro hM
        rw [List.map_cons, List.flatMap_cons, List.flatMap_cons, ih (fun q hq => hM q (List.mem_cons_of_mem _ hq)), data_mem h.up (hM p List.mem_cons_self)]
    exact this L (fun p hp => hp)
  unfold wholeR
  rw [hb, pcs_len]
  by_cases h0 : L.length = 0
  · rw [if_pos (Or.inr h0), if_pos h0]
  · rw [if_neg (by rintro (hh | hh); rw [hf] at hh; cases hh; exact h0 hh), if_neg h0, if_neg (by rw [ho]; simp), if_neg hl]
    have e : longB (uK7 L).f2 (pcs L) = allFrom (longAt L (pcs L)) 0 L.length := by unfold longB; rw [pcs_len]; rfl
    rw [e]
theorem catL_snoc (L : List S40) (j : Nat) (h : j < L.length) : catL (L.take (j + 1)) = catL (L.take j) ++ L[j].f1.data.toList := by
  rw [List.take_succ_eq_append_getElem h]; unfold catL; rw [List.flatMap_append]; simp
theorem catL_len {L : List S40} (h : InL L) (j : Nat) (hj : j ≤ L.length) : (catL (L.take j)).length ≤ 2000 * j := by
  induction j with
  | zero => simp [catL]
  | succ j ih =>
    rw [catL_snoc L j (by omega), List.length_append]
    have h1 := ih (by omega)
    have h2 := (h.mem _ (List.getElem_mem (show j < L.length by omega))).2.2
    have : (L[j]'(by omega)).f1.data.toList.length = (L[j]'(by omega)).f1.size := by rw [Array.length_toList]; rfl
    omega
/-- The parts below a number, and the others. -/
structure Upto (L : List S40) (n : Int) (j : Nat) : Prop where
  le : j ≤ L.length
  lo : ∀ (x : Nat) (h : x < L.length), x < j → L[x].f0 < n
  hi : ∀ (x : Nat) (h : x < L.length), j ≤ x → n ≤ L[x].f0
theorem Upto.there {L : List S40} (hs : L.Pairwise (fun a b => a.f0 < b.f0)) {n : Int} {j : Nat} (h : Upto L n j) : thereP L n = true ↔ ∃ hj : j < L.length, L[j].f0 = n := by
  unfold thereP
  constructor
  · intro hh
    obtain ⟨p, hp, he⟩ := List.any_eq_true.1 hh
    obtain ⟨x, hx, rfl⟩ := List.getElem_of_mem hp
    have he' : L[x].f0 = n := by simpa using he
    rcases Nat.lt_trichotomy x j with hxj | rfl | hxj
    · have := h.lo x hx hxj; omega
    · exact ⟨hx, he'⟩
    · have h1 := List.pairwise_iff_getElem.1 hs j x (by omega) hx hxj
      have h2 := h.hi j (by omega) (Nat.le_refl _)
      omega
  · rintro ⟨hj, he⟩
    exact List.any_eq_true.2 ⟨L[j], List.getElem_mem hj, by simpa using he⟩
theorem Upto.hit {L : List S40} (hs : L.Pairwise (fun a b => a.f0 < b.f0)) {n : Int} {j : Nat} (h : Upto L n j) (hj : j < L.length) (he : L[j].f0 = n) : Upto L (n + 1) (j + 1) := by
  refine ⟨hj, fun x hx hxj => ?_, fun x hx hxj => ?_⟩
  · rcases Nat.eq_or_lt_of_le (Nat.le_of_lt_succ hxj) with rfl | h1
    · omega
    · have := h.lo x hx h1; omega
  · have := List.pairwise_iff_getElem.1 hs j x hj hx (by omega)
    omega
theorem Upto.miss {L : List S40} (hs : L.Pairwise (fun a b => a.f0 < b.f0)) {n : Int} {j : Nat} (h : Upto L n j) (hn : thereP L n = false) : Upto L (n + 1) j := by
  refine ⟨h.le, fun x hx hxj => by have := h.lo x hx hxj; omega, fun x hx hxj => ?_⟩
  have h1 := h.hi x hx hxj
  rcases Int.lt_or_eq_of_le h1 with h2 | h2
  · omega
  · have : thereP L n = true := List.any_eq_true.2 ⟨L[x], List.getElem_mem hx, by simpa using h2.symm⟩
    rw [hn] at this; cases this
theorem Upto.start {L : List S40} (h : InL L) : Upto L 1 0 := ⟨Nat.zero_le _, fun x hx hxj => absurd hxj (Nat.not_lt_zero _), fun x hx _ => (h.mem _ (List.getElem_mem hx)).1⟩
theorem Upto.stop {L : List S40} (h : InL L) {j : Nat} (hu : Upto L 10 j) : j = L.length := by
  rcases Nat.eq_or_lt_of_le hu.le with h1 | h1
  · exact h1
  · have := hu.hi j h1 (Nat.le_refl _)
    have := (h.mem _ (List.getElem_mem h1)).2.1
    omega
/-- Is there one of a number between? -/
def anyUp (L : List S40) (n k : Int) : Bool := L.any fun p => decide (n < p.f0) && decide (p.f0 < k)
theorem anyUp_start (L : List S40) (n : Int) : anyUp L n (n + 1) = false := by
  unfold anyUp
  rw [List.any_eq_false]
  intro p _
  simp; omega
theorem anyUp_step (L : List S40) (n k : Int) (h : n < k) : anyUp L n (k + 1) = (anyUp L n k || thereP L k) := by
  unfold anyUp thereP
  induction L with
  | nil => rfl
  | cons p L ih =>
    rw [List.any_cons, List.any_cons, List.any_cons, ih]
    have : (decide (n < p.f0) && decide (p.f0 < k + 1)) = ((decide (n < p.f0) && decide (p.f0 < k)) || (p.f0 == k)) := by
      by_cases h1 : p.f0 = k
      · rw [h1]; simp; omega
      · rw [show (p.f0 == k) = false from beq_eq_false_iff_ne.2 h1, Bool.or_false, show decide (p.f0 < k + 1) = decide (p.f0 < k) by congr 1; simp; omega]
    rw [this]
    cases (decide (n < p.f0) && decide (p.f0 < k)) <;> cases (p.f0 == k) <;> simp
theorem anyUp_end {L : List S40} (h : InL L) {j : Nat} (hj : j < L.length) : anyUp L L[j].f0 10 = decide (j + 1 < L.length) := by
  unfold anyUp
  by_cases h1 : j + 1 < L.length
  · rw [decide_eq_true h1]
    have h2 := List.pairwise_iff_getElem.1 h.up j (j + 1) hj h1 (by omega)
    have h3 := (h.mem _ (List.getElem_mem h1)).2.1
    exact List.any_eq_true.2 ⟨L[j + 1], List.getElem_mem h1, by simp; omega⟩
  · rw [decide_eq_false h1, List.any_eq_false]
    intro p hp
    obtain ⟨x, hx, rfl⟩ := List.getElem_of_mem hp
    have h2 : ¬ L[j].f0 < L[x].f0 := by
      rcases Nat.lt_or_ge x j with h3 | h3
      · have := List.pairwise_iff_getElem.1 h.up x j hx hj h3; omega
      · obtain rfl : x = j := by omega
        omega
    simp; intro h4; omega
/-- Are the whole ones, but the last, long? -/
def shortJ (L : List S40) (j : Nat) : Bool := !allFrom (longAt L (pcs L)) 0 j
theorem shortJ_snoc {L : List S40} (h : InL L) (j : Nat) (hj : j < L.length) : shortJ L (j + 1) = (shortJ L j || (decide (L[j].f1.size < 5) && anyUp L L[j].f0 10)) := by
  unfold shortJ
  rw [allFrom_snoc, Nat.zero_add, long_self h.up j hj, anyUp_end h hj]
  cases allFrom (longAt L (pcs L)) 0 j <;> cases decide (j + 1 < L.length) <;> cases decide (L[j].f1.size < 5) <;> rfl
theorem whole_turns {L : List S40} (h : InL L) : wholeR (uK7 L) (pcs L) = if L.length = 0 then (noStr, noStr, 1) else if shortJ L L.length = true then (noStr, noStr, 3) else if 2000 < (catL L).length then (noStr, noStr, 6) else (⟨(catL L).toArray⟩, manyText (tagsFor (pcs L)), 0) := by
  rw [whole_self h]
  unfold shortJ
  cases allFrom (longAt L (pcs L)) 0 L.length <;> rfl
end Go.Proofs.YtgpmkbmobdbdoaaDoor.Q

-- T32
namespace Go.Proofs.YtgpmkbmobdbdoaaDoor.Q
open Go.RowKit Go.Proofs.YtgpmkbmobdbdoaaDoorW.PrintWords Go.Proofs.YtgpmkbmobdbdoaaDoorW.PrintLast Go.Proofs.YtgpmkbmobdbdoaaDoorW.PrintMore
set_option linter.unusedVariables false
set_option linter.unusedSimpArgs false

/-! A map of the call's own, from numbers to strings, that holds what parts hold. -/
theorem law3 : Maps.Keyed Tryd.prog 3 := Maps.int_keyed Tryd.underlying3
theorem zero9 (w : World) : (zeroValue 9).run Tryd.prog w = .ok (.string ⟨#[]⟩) w := by kernel_rfl
noncomputable def el9 : Value → Option (Go.DataW Unit × List Go.MemPlace) := plainElem Tryd.prog 9
structure MapIs (L : List S40) (D : Go.DataW Unit) : Prop where
  has : ∀ n : Int, Maps.has D (.int .i64 n) = thereP L n
  at_ : ∀ (n : Int) z, D.atKey (.int .i64 n) z = if thereP L n = true then .lit (.string (dataOf L n).data.toList) else z
def OwnM (w : World) (b k : Nat) (L : List S40) : Prop := ∃ D, w.ownsMap Tryd.prog 3 el9 b k D ∧ MapIs L D
theorem OwnM.made (w : World) : OwnM (w.alloc (.map #[] 0)) w.heap.size 0 [] :=
  ⟨_, World.ownsMap_made w Tryd.prog 3 el9, ⟨fun n => rfl, fun n z => rfl⟩⟩
theorem OwnM.lt {w : World} {b k : Nat} {L : List S40} (h : OwnM w b k L) : b < w.heap.size := by obtain ⟨D, h1, _⟩ := h; exact h1.lt
theorem OwnM.below {w w1 : World} {b k : Nat} {L : List S40} (h : OwnM w b k L) (hb : Below w.heap.size w w1) : OwnM w1 b k L := by
  obtain ⟨D, h1, h2⟩ := h
  obtain ⟨es, clock, hbk, F, hs, hD⟩ := h1
  exact ⟨D, ⟨es, clock, blk_below hbk hb, F, hs, hD⟩, h2⟩
theorem MapIs.put {L : List S40} {D : Go.DataW Unit} (h : MapIs L D) (hm : Maps.IsMap D) {p : S40} (hs : L.Pairwise (fun a b => a.f0 < b.f0)) : MapIs (layParts L p) (D.put (.int .i64 p.f0) (.lit (.string p.f1.data.toList))) := by
  refine ⟨fun n => ?_, fun n z => ?_⟩
  · rw [there_lay L p hs n]
    by_cases hn : p.f0 = n
    · rw [hn, Maps.has_put_same hm (show WideAt.IsKeyLit (.int .i64 n) from trivial), decide_eq_true rfl]; rfl
    · rw [Maps.has_put_other (fun e => hn (by injection e with _ e; exact e.symm)), h.has, decide_eq_false hn]; rfl
  · rw [there_lay L p hs n]
    by_cases hn : p.f0 = n
    · subst hn
      rw [Maps.atKey_put_same hm (show WideAt.IsKeyLit (.int .i64 p.f0) from trivial), decide_eq_true rfl, Bool.true_or, if_pos rfl, data_lay_same L p hs]
    · rw [Maps.atKey_put_other (fun e => hn (by injection e with _ e; exact e.symm)), h.at_, decide_eq_false hn, Bool.false_or, data_lay_other L p hs n hn]
theorem wf64 {n : Int} (h0 : -9223372036854775808 ≤ n) (h1 : n ≤ 9223372036854775807) : (Lit.int .i64 n).wf = true := by
  show (decide ((IntKind.i64).min ≤ n) && decide (n ≤ (IntKind.i64).max)) = true
  rw [Bool.and_eq_true, decide_eq_true_eq, decide_eq_true_eq, show (IntKind.i64).min = -9223372036854775808 from rfl, show (IntKind.i64).max = 9223372036854775807 from rfl]
  exact ⟨h0, h1⟩
theorem same_str {a b : ByteArray} (h : b.data.toList = a.data.toList) : a = b := by
  cases a; cases b
  simp only at h
  rw [Array.toList_inj] at h
  rw [h]
theorem lit_str {x y : List UInt8} (h : (Go.DataW.lit (.string x) : Go.DataW Unit) = .lit (.string y)) : x = y := by
  injection h with h
  injection h
theorem map_look {w : World} {ops : Array Oper} {rest : List Oper} {o : Oper} {a : Act} {Q : Exit → Act → World → Prop} (hg : o.guard = none) (m x : Operand) (hop : o.op = Op.lookup 38 m x true)
    (b k : Nat) (L : List S40) (hm : a.eval m = .map (some b)) (hown : Hid (OwnM w b k L)) (key : Int) (hx : a.eval x = .int .i64 key) (hk0 : 0 ≤ key) (hk1 : key ≤ 1000)
    (hK : wpList Tryd.prog ops Q rest (a.put o.dst (.tuple #[.string (dataOf L key), .bool (thereP L key)])) w) : wpList Tryd.prog ops Q (o :: rest) a w := by
  obtain ⟨D, h1, h2⟩ := hown.out
  refine wpList_lookup_own_ok w hg m x 38 hop 3 9 law3 Tryd.underlying38 el9 (zero9 _) (.lit (.string [])) [] (plainElem_string Tryd.underlying9 (s := ⟨#[]⟩) (by decide)) b k D hm h1 _ (.int .i64 key) hx (Maps.keyOf_int_mk Tryd.underlying3 (wf64 (by omega) (by omega))) ?_
  intro v ps hv
  obtain ⟨s, rfl, hz, _⟩ := plainElem_string_inv Tryd.underlying9 hv
  injection hz with hz _
  rw [h2.has]
  rw [h2.at_] at hz
  have hs : s = dataOf L key := by
    by_cases ht : thereP L key = true
    · rw [if_pos ht] at hz
      exact same_str (lit_str hz)
    · rw [if_neg ht] at hz
      have h3 : dataOf L key = ⟨#[]⟩ := none_data key L _ (fun p hp he => ht (List.any_eq_true.2 ⟨p, hp, by simpa using he⟩))
      rw [h3]
      exact same_str (b := ⟨#[]⟩) (lit_str hz)
  rw [hs]
  exact hK
theorem map_put {w : World} {ops : Array Oper} {rest : List Oper} {o : Oper} {a : Act} {Q : Exit → Act → World → Prop} (hg : o.guard = none) (m x v : Operand) (hop : o.op = Op.mapUpdate 38 m x v)
    (b k : Nat) (L : List S40) (hm : a.eval m = .map (some b)) (hown : Hid (OwnM w b k L)) (hk : k ≤ 1000) (p : S40) (hs : L.Pairwise (fun a b => a.f0 < b.f0)) (hx : a.eval x = .int .i64 p.f0) (hv : a.eval v = .string p.f1) (h0 : 0 ≤ p.f0) (h1 : p.f0 ≤ 1000) (hsz : p.f1.size ≤ 2000)
    (hK : ∀ w1, Hid (OwnM w1 b (k + 1) (layParts L p)) → w.grownBy w1 (some b) → wpList Tryd.prog ops Q rest (a.put o.dst (.tuple #[])) w1) : wpList Tryd.prog ops Q (o :: rest) a w := by
  obtain ⟨D, h2, h3⟩ := hown.out
  refine wpList_mapUpdate_own w hg m x v 38 hop 3 9 law3 Tryd.underlying38 el9 b k D hm h2 (by unfold maxLen; omega) _ _ (.int .i64 p.f0) hx hv (Maps.keyOf_int_mk Tryd.underlying3 (wf64 (by omega) (by omega))) (.lit (.string p.f1.data.toList)) [] (plainElem_string Tryd.underlying9 (by unfold maxLen; omega)) ?_
  intro w1 hown1 hgrow1
  exact hK w1 ⟨_, hown1, h3.put h2.isMap hs⟩ hgrow1
/-- Cells that are read are no map's: what is read stays while a map is written. -/
theorem cells_map {w w1 : World} {b : Nat} {es : Array MapEntry} {clock : Nat} (hb : w.heap[b]? = some (.map es clock)) (hg : w.grownBy w1 (some b)) {p : Addr} {v : Value} (h : w.cell? p = some v) : w1.cell? p = some v := by
  have hlt := World.block_lt_of_cell? w p h
  have hne : p.block ≠ b := fun e => by
    rw [← e] at hb
    simp [World.cell?, hb] at h
  rw [← h]
  have := hg.block p.block hlt (fun e => hne (by injection e))
  simp only [World.cell?, this]
def KM {α : Type} (d : Kd α) (w w1 : World) : Prop := ∀ x cs, d.K w x cs → d.K w1 x cs
theorem C_cells {α : Type} {d : Kd α} {w w1 : World} {A : Option Addr} {l : List α} (hk : KM d w w1) (hc : ∀ (p : Addr) (v : Value), w.cell? p = some v → w1.cell? p = some v) (h : Kd.C d w A l.length l) : Kd.C d w1 A l.length l := by
  refine ⟨h.1, h.2.1, fun h0 => ?_⟩
  obtain ⟨ad, e, hcl⟩ := h.2.2 h0
  refine ⟨ad, e, fun j x hx => ?_⟩
  obtain ⟨cs, h1, h2, h3⟩ := hcl j x hx
  exact ⟨cs, h1, hk x cs h2, fun i u hu => hc _ _ (h3 i u hu)⟩
theorem km40 (w w1 : World) : KM k40 w w1 := fun x cs h => h
theorem km25 {w w1 : World} (hc : ∀ (p : Addr) (v : Value), w.cell? p = some v → w1.cell? p = some v) : KM k25 w w1 := fun x cs h => by
  obtain ⟨A2, c2, rfl, hl, hC⟩ := k25_open h
  exact k25_mk w1 x hl (C_cells (km40 w w1) hc hC)
end Go.Proofs.YtgpmkbmobdbdoaaDoor.Q

-- T33
namespace Go.Proofs.YtgpmkbmobdbdoaaDoor.Q
open Go.RowKit Go.Proofs.YtgpmkbmobdbdoaaDoorW.PrintWords Go.Proofs.YtgpmkbmobdbdoaaDoorW.PrintLast Go.Proofs.YtgpmkbmobdbdoaaDoorW.PrintMore
set_option linter.unusedVariables false
set_option linter.unusedSimpArgs false

theorem of_calls (s : ByteArray) (hs : s.size ≤ 1000000) (w : World) : Calls Tryd.prog 15 #[.string s] w fun e w' => e = .returned (.int .u32 (tagOf s)) ∧ Below w.heap.size w w' :=
  (cellarerref04_Of.calls (s.size + 10) s (tagOf s) w (ref_of s (by omega) _ (by omega))).mono fun _ _ h => ⟨h.1, outD h.2⟩
/-- What lies there between the rounds. -/
structure TuH (w : World) (B : Nat) (A : Option Addr) (l : List S40) (L : List S40) (A3 : Option Addr) (m : Nat) (W : World) : Prop where
  bel : Below w.heap.size w W
  arg : Kd.C k40 W A l.length l
  ups : Kd.C k25 W A3 1 [uK7 L]
  own : OwnM W B m L
  base : w.heap.size ≤ B
theorem keepT {w : World} {B : Nat} {A : Option Addr} {l L : List S40} {A3 : Option Addr} {m : Nat} {W W2 : World} (h : Hid (TuH w B A l L A3 m W)) (hb : Below W.heap.size W W2) : Hid (TuH w B A l L A3 m W2) :=
  ⟨h.out.bel.trans (hb.mono h.out.bel.size), Kd.C_below h.out.arg hb, Kd.C_below h.out.ups hb, h.out.own.below hb, h.out.base⟩
theorem TuH.put {w : World} {B : Nat} {A : Option Addr} {l L L2 : List S40} {A3 A4 : Option Addr} {m : Nat} {W W2 : World} (h : TuH w B A l L A3 m W) (hu : Kd.C k25 W A4 1 [uK7 L2]) (ho : OwnM W2 B (m + 1) L2) (hg : W.grownBy W2 (some B)) : TuH w B A l L2 A4 (m + 1) W2 := by
  obtain ⟨D, h1, _⟩ := h.own
  obtain ⟨es, clock, hb, _⟩ := h1
  have hc : ∀ (p : Addr) (v : Value), W.cell? p = some v → W2.cell? p = some v := fun p v hp => cells_map hb hg hp
  exact ⟨h.bel.grown hg h.bel.size (fun q hq => by injection hq with hq; rw [← hq]; exact h.base), C_cells (km40 _ _) hc h.arg, C_cells (km25 hc) hc hu, ho, h.base⟩
theorem map_look2 {w : World} {ops : Array Oper} {rest : List Oper} {o : Oper} {a : Act} {Q : Exit → Act → World → Prop} (hg : o.guard = none) (m x : Operand) (hop : o.op = Op.lookup 38 m x true)
    (b k : Nat) (L : List S40) (hm : a.eval m = .map (some b)) (hown : Hid (OwnM w b k L)) (key : Int) (hx : a.eval x = .int .i64 key) (hk0 : 0 ≤ key) (hk1 : key ≤ 1000) (t : Bool) (s : ByteArray) (ht : Hid (thereP L key = t)) (hs : Hid (dataOf L key = s))
    (hK : wpList Tryd.prog ops Q rest (a.put o.dst (.tuple #[.string s, .bool t])) w) : wpList Tryd.prog ops Q (o :: rest) a w :=
  map_look hg m x hop b k L hm hown key hx hk0 hk1 (by rw [ht.out, hs.out]; exact hK)
theorem info48 : (Tryd.prog.info? 48).map (fun i => (i.zero, i.size, i.bytes)) = some (some (.agg #[(.int .i64 0), (.int .u32 0)]), 2, 16) := by kernel_rfl
def cell48 (x : S48) : List Value := [.int .i64 x.f0, .int .u32 x.f1]
def cells48 (l : List S48) : List Value := (l.map cell48).flatten
theorem rowsOf48 (w : World) (l : List S48) : RowsOf k48 w l (l.map cell48) := by
  refine ⟨by simp, fun j x c h1 h2 => ?_⟩
  rw [List.getElem?_map, h1] at h2
  injection h2 with h2
  subst h2
  exact k48_mk w x
theorem cells48_snoc (L : List S40) (j : Nat) (h : j < L.length) : cells48 (pcs (L.take (j + 1))) = cells48 (pcs (L.take j)) ++ [.int .i64 L[j].f0, .int .u32 (tagOf L[j].f1)] := by
  rw [List.take_succ_eq_append_getElem h]
  unfold cells48 pcs
  rw [List.map_append, List.map_append, List.flatten_append]; rfl
/-- What lies there between the rounds of the second loop. -/
structure TwH (w0 : World) (L : List S40) (v : Value) (j : Nat) (W : World) : Prop where
  bel : Below w0.heap.size w0 W
  row : W.ownsRow w0.heap.size 48 2 v j (cells48 (pcs (L.take j)))
theorem keepW {w0 : World} {L : List S40} {v : Value} {j : Nat} {W W2 : World} (h : Hid (TwH w0 L v j W)) (hb : Below W.heap.size W W2) : Hid (TwH w0 L v j W2) :=
  ⟨h.out.bel.trans (hb.mono h.out.bel.size), pw_own_below h.out.row hb⟩
theorem keepO {w : World} {B : Nat} {A : Option Addr} {l L : List S40} {A3 : Option Addr} {m : Nat} {w0 W : World} {v : Value} {j : Nat} (h : Hid (TuH w B A l L A3 m w0)) (h2 : Hid (TwH w0 L v j W)) : Hid (OwnM W B m L) := (keepT h h2.out.bel).out.own
theorem TwH.push {w0 : World} {L : List S40} {v v2 : Value} {j : Nat} {W W2 : World} {o : Obj} (h : TwH w0 L v j W) (hj : j < L.length) (hg : (W.alloc o).grownBy W2 v.ownBlock) (hr : W2.ownsRow w0.heap.size 48 2 v2 (j + 1) (cells48 (pcs (L.take j)) ++ [.int .i64 L[j].f0, .int .u32 (tagOf L[j].f1)])) : TwH w0 L v2 (j + 1) W2 :=
  ⟨(h.bel.alloc h.bel.size o).grown hg (by have := h.bel.size; simp; omega) (fun q hq => own_base h.row q hq), by rw [cells48_snoc L j hj]; exact hr⟩
theorem own48 {w : World} {base n : Nat} {v : Value} {l : List S48} (h : w.ownsRow base 48 2 v n (cells48 l)) (hn : n = l.length) (hl : n ≤ 1000) : ∃ A c, v = .slice A n c ∧ n ≤ c ∧ Hid (Kd.C k48 w A n l) := by
  subst hn
  rcases h.2 with ⟨rfl, h0⟩ | ⟨g, cap, cur, rfl, _, hg, hcap, _, _, htk⟩
  · have : l = [] := List.length_eq_zero_iff.1 h0
    subst this
    exact ⟨none, 0, rfl, Nat.le_refl _, Kd.C_nil _ _⟩
  · exact ⟨_, cap, rfl, hcap, rows_C (rowsOf48 w l) (blk_raw hg _ htk) (by omega)⟩
theorem find7_calls {L : List S40} (hL : Hid (InL L)) (A3 : Option Addr) (c3 : Nat) (W : World) (hr : Hid (Kd.C k25 W A3 1 [uK7 L])) (hc : 1 ≤ c3) :
    Calls Tryd.prog 16 #[.slice A3 1 c3, .int .u64 7] W fun e' w' => ∃ A c, e' = .returned (.tuple #[.agg #[.int .u64 7, .string sK, .slice A L.length c], .int .i64 0]) ∧ L.length ≤ c ∧ Hid (Kd.C k40 w' A L.length L) ∧ Below W.heap.size W w' :=
  find_calls A3 c3 1 [uK7 L] 7 W (uK7 L) 0 (find7 hL.out) rfl hr hc
theorem whole7_calls {L : List S40} (hL : Hid (InL L)) (s t : ByteArray) (e : Int) (hE : Hid (wholeR (uK7 L) (pcs L) = (s, t, e))) (A2 : Option Addr) (c2 : Nat) (A11 : Option Addr) (c11 : Nat) (W : World) (h40 : Hid (Kd.C k40 W A2 L.length L)) (hc2 : L.length ≤ c2) (h48 : Hid (Kd.C k48 W A11 L.length (pcs L))) :
    Calls Tryd.prog 9 #[.agg #[.int .u64 7, .string sK, .slice A2 L.length c2], .slice A11 L.length c11] W fun x w' => x = .returned (.tuple #[.string s, .string t, .int .i64 e]) ∧ Below W.heap.size W w' := by
  have hl := hL.out.len
  have h48' := h48.out
  rw [← pcs_len L] at h48'
  have := whole.walk (uK7 L) A2 c2 A11 c11 (pcs L) W (by rw [pcs_len]; omega) h40 hc2 h48'
  rw [hE.out, pcs_len] at this
  exact this
theorem nine (x : Int) : 1 ≤ wrap64 (1 + (wrap64 (x.tmod 9 + 9)).tmod 9) ∧ wrap64 (1 + (wrap64 (x.tmod 9 + 9)).tmod 9) ≤ 9 := by
  have h1 : (x.tmod 9).natAbs < 9 := by rw [Int.natAbs_tmod]; exact Nat.mod_lt _ (by decide)
  generalize x.tmod 9 = y at *
  rw [wrap64_of (x := y + 9) (by omega) (by omega), Int.tmod_eq_emod_of_nonneg (by omega), wrap64_of (by omega) (by omega)]
  omega
set_option maxHeartbeats 8000000 in
set_option maxRecDepth 100000 in
theorem turns.walk (A : Option Addr) (c : Nat) (l : List S40) (w : World) (hr : Kd.C k40 w A l.length l) (hc : l.length ≤ c) :
    Calls Tryd.prog 4 #[.slice A l.length c] w fun e w' => e = .returned (.bool true) ∧ Below w.heap.size w w' := by
  have HAW : Hid (∀ W, Calls Tryd.prog 11 #[] W fun e w' => e = .returned (.bool true) ∧ Below W.heap.size W w') := fun W => awake.walk W
  have HR := Lib.hid hr
  have hlen : (l.length : Int) ≤ 9223372036854775807 := by have := hr.2.1; omega
  clear hr
  have hmm := @run_makeMap Tryd.prog
  go_enter Tryd.func4, Tryd.ntmps4
  go_wp2_with (first
    | (go_at_call 12; refine (begin_calls none 0 0 [] 7 sK _ [uK7 []] 0 rfl rfl (Kd.C_nil _ _) (Nat.le_refl _)).mono ?_; rintro e w1 ⟨A3, c3, rfl, hc3, HC3, hb⟩; have HB1 := Lib.hid hb; clear hb))
  clear hmm
  have HT0 : Hid (TuH w w1.heap.size A l [] A3 0 (w1.alloc (.map #[] 0))) := ⟨HB1.out.alloc HB1.out.size _, Kd.C_below HR.out (HB1.out.alloc HB1.out.size _), Kd.C_below HC3.out (below1 _ _), OwnM.made w1, HB1.out.size⟩
  generalize w1.heap.size = B at *
  go_loopw [3, 6] (fun u i wr => ∃ (k m : Nat) (L : List S40) (A3 : Option Addr) (c3 : Nat), u = .slice A3 1 c3 ∧ i = .int .i64 k ∧ 1 ≤ c3 ∧ k ≤ l.length ∧ k ≤ 20 ∧ m ≤ k ∧ Hid (InL L) ∧ Hid (TuH w B A l L A3 m wr)) (fun _ i _ => l.length - (intOf i).toNat)
  case atStart => exact ⟨0, 0, [], A3, c3, rfl, rfl, hc3, Nat.zero_le _, Nat.zero_le _, Nat.le_refl _, inl_nil, HT0⟩
  case round =>
    clear HT0 HB1 HC3 hc3
    obtain ⟨k, m, L, A3, c3, rfl, rfl, hc3, hk, hk20, hmk, hL, hT⟩ := hrel
    by_cases hlt : k < l.length ∧ k < 20
    · obtain ⟨hlt, h20⟩ := hlt
      obtain ⟨ad, e', h0, h1⟩ := at40 hT.out.arg (Below.refl _ _) k hlt
      subst e'
      have HONE := Lib.hid (one_calls l[k])
      have HSZ : Hid ((onePart l[k]).f1.size ≤ 1000000) := by
        unfold Hid onePart
        simp only
        split
        · rw [ByteArray.size_extract]; omega
        · omega
      generalize onePart l[k] = q at *
      obtain ⟨qn, qd⟩ := q
      simp only at HONE HSZ
      have d0 : (0 : Int) ≤ (k : Int) := by omega
      have d1 : (k : Int) < (l.length : Int) := by omega
      have d2 : decide ((k : Int) < 20) = true := by simp; omega
      go_upto_region 9 with (first | (go_at_call 13; refine (HONE.out _).mono ?_; rintro e w2 ⟨rfl, hb⟩; have hT2 := keepT hT hb; clear hb))
      go_cut [] from 32 to 81 (fun wx => ∃ N : Int, 1 ≤ N ∧ N ≤ 9 ∧ wx = w2.alloc (.cells #[.int .i64 N, .string qd] 40))
      case first =>
        go_wp2_with fail
        go_meet
        exact ⟨_, (nine qn).1, (nine qn).2, rfl⟩
      case rest =>
        obtain ⟨N, hN1, hN9, rfl⟩ := hcut
        have hT3 := keepT hT2 (below1 w2 (.cells #[.int .i64 N, .string qd] 40))
        have BK3 := Lib.hid (blk_new w2 (.cells #[.int .i64 N, .string qd] 40))
        clear h0 h1 HONE
        by_cases hd : 2000 < qd.size
        · have HLAY := Lib.hid (fun (W : World) (h : Hid (Kd.C k25 W A3 1 [uK7 L])) => lay_calls A3 c3 1 [uK7 L] 7 ⟨N, qd⟩ W [] 0 1 (lay_big L N qd hd) rfl h hc3)
          have d3 : decide ((2000 : Int) < (qd.size : Int)) = true := by simp; omega
          clear hd
          go_wp2_with (first
            | (go_at_call 14; refine (HLAY.out _ hT3.out.ups).mono ?_; rintro e w4 ⟨A4, c4, rfl, hc4, HC4, hb⟩; have hT4 := keepT hT3 hb; have BK4 := Lib.hid (blk_below BK3.out hb); have v0 := (blk_cell BK4.out 0).trans rfl; have v1 := (blk_cell BK4.out 1).trans rfl; clear hb))
          go_roundw
          case rel => exact ⟨k + 1, m, L, A3, c3, rfl, by go_num, hc3, hlt, h20, by omega, hL, hT4⟩
          case measure => simp [intOf]; omega
        · have HD := Lib.hid (show qd.size ≤ 2000 by omega)
          have HLAY := Lib.hid (fun (W : World) (h : Hid (Kd.C k25 W A3 1 [uK7 L])) => lay_calls A3 c3 1 [uK7 L] 7 ⟨N, qd⟩ W [uK7 (layParts L ⟨N, qd⟩)] (tagOf qd) 0 (lay_in hL.out hN1 hN9 HD.out) rfl h hc3)
          have HOF := Lib.hid (fun (W : World) => of_calls qd HSZ.out W)
          have hL2 := Lib.hid (hL.out.lay hN1 hN9 HD.out)
          have d3 : decide ((2000 : Int) < (qd.size : Int)) = false := by simp; omega
          generalize tagOf qd = tg at *
          have d4 : (tg != tg) = false := by simp
          clear hd
          go_wp2_with (first
            | (go_at_call 14; refine (HLAY.out _ hT3.out.ups).mono ?_; rintro e w4 ⟨A4, c4, rfl, hc4, HC4, hb⟩; have hT4 := keepT hT3 hb; have BK4 := Lib.hid (blk_below BK3.out hb); have v0 := (blk_cell BK4.out 0).trans rfl; have v1 := (blk_cell BK4.out 1).trans rfl; clear hb)
            | (go_at_call 15; refine (HOF.out _).mono ?_; rintro e w5 ⟨rfl, hb⟩; have hT5 := keepT hT4 hb; have HC5 := keepR HC4 hb; have BK5 := Lib.hid (blk_below BK4.out hb); have y0 := (blk_cell BK5.out 0).trans rfl; have y1 := (blk_cell BK5.out 1).trans rfl; clear hb)
            | (at_mapUpdate; refine map_put rfl _ _ _ rfl B m L rfl hT5.out.own (by omega) ⟨N, qd⟩ hL.out.up rfl rfl (show (0 : Int) ≤ N by omega) (show N ≤ 1000 by omega) HD.out ?_; intro w6 HM6 hg6; have hT6 := Lib.hid (hT5.out.put HC5.out HM6.out hg6); clear hg6))
          go_roundw
          case rel => exact ⟨k + 1, m + 1, layParts L ⟨N, qd⟩, A4, c4, rfl, by go_num, hc4, hlt, h20, by omega, hL2, hT6⟩
          case measure => simp [intOf]; omega
    · have hout : ¬ (k < l.length) ∨ ¬ (k < 20) := by omega
      have hm20 : m ≤ 1000 := by omega
      clear hk hk20 hlen hmk
      go_upto_region 6 with fail
      go_cut [39] from 32 to 81 (fun s39 wx => s39 = .bool false ∧ wx = wr)
      case first =>
        by_cases h1 : k < l.length
        · have d1 : decide ((k : Int) < (l.length : Int)) = true := by simp; omega
          have d2 : decide ((k : Int) < 20) = false := by simp; omega
          have p1 : (k : Int) < (l.length : Int) := by omega
          have p2 : ¬ ((k : Int) < 20) := by omega
          clear hlt hout h1
          go_wp2_with fail
          all_goals (go_meet; refine ⟨?_, ?_⟩ <;> first | rfl | rw [d2])
        · have d1 : decide ((k : Int) < (l.length : Int)) = false := by simp; omega
          have p1 : ¬ ((k : Int) < (l.length : Int)) := by omega
          clear hlt hout h1
          go_wp2_with fail
          all_goals (go_meet; refine ⟨?_, ?_⟩ <;> first | rfl | (exfalso; omega) | (exfalso; simp_all; omega))
      case rest =>
        obtain ⟨rfl, rfl⟩ := hcut
        clear hlt hout
        go_wp2_with fail
        have hW : Hid (TwH wc L (.slice none 0 0) 0 wc) := ⟨Below.refl _ _, by rw [List.take_zero]; exact ⟨rfl, Or.inl ⟨rfl, rfl⟩⟩⟩
        go_loopw [11, 12, 13, 14] (fun v s b i wr => ∃ (n j : Nat) (bb : Bool), i = .int .i64 n ∧ s = .string ⟨(catL (L.take j)).toArray⟩ ∧ b = .bool bb ∧ 1 ≤ n ∧ n ≤ 10 ∧ Hid (shortJ L j = bb) ∧ Hid (Upto L n j) ∧ Hid (TwH wc L v j wr)) (fun _ _ _ i _ => 10 - (intOf i).toNat)
        case atStart => exact ⟨1, 0, false, rfl, rfl, rfl, Nat.le_refl _, by decide, rfl, Upto.start hL.out, hW⟩
        case round =>
          obtain ⟨n, j, bb, rfl, rfl, rfl, hn1, hn10, hbb, hU, hT2⟩ := hrel
          clear hW
          by_cases hlt : n ≤ 9
          · have d1 : decide ((n : Int) ≤ 9) = true := by simp; omega
            cases hth : thereP L (n : Int)
            · have HTH := Lib.hid hth
              clear hth
              go_wp2_with (at_lookup; refine map_look2 rfl _ _ rfl B m L rfl (keepO hT hT2) (n : Int) rfl (by omega) (by omega) false _ HTH rfl ?_)
              go_roundw
              case rel => exact ⟨n + 1, j, bb, by go_num, rfl, rfl, by omega, by omega, hbb, hU.out.miss hL.out.up HTH.out, hT2⟩
              case measure => simp [intOf]; omega
            · obtain ⟨hj, he⟩ := (hU.out.there hL.out.up).1 hth
              have HTH := Lib.hid hth
              have HE := Lib.hid he
              have HDT : Hid (dataOf L (n : Int) = L[j].f1) := by unfold Hid; rw [← he]; exact data_mem hL.out.up (List.getElem_mem hj)
              have HSN := Lib.hid (shortJ_snoc hL.out j hj)
              rw [he] at HSN
              have HU2 := Lib.hid (hU.out.hit hL.out.up hj he)
              have HPUSH : Hid (∀ (v2 : Value) (W W2 : World) (o : Obj), TwH wc L u11 j W → (W.alloc o).grownBy W2 u11.ownBlock → W2.ownsRow wc.heap.size 48 2 v2 (j + 1) (cells48 (pcs (L.take j)) ++ [.int .i64 n, .int .u32 (tagOf L[j].f1)]) → TwH wc L v2 (j + 1) W2) := by
                intro v2 W W2 o h1 h2 h3
                rw [← he] at h3
                exact h1.push hj h2 h3
              have HCAT := Lib.hid (catL_snoc L j hj)
              have HCL := catL_len hL.out j (Nat.le_of_lt hj)
              have HSL := (hL.out.mem _ (List.getElem_mem hj)).2.2
              have HJ9 := hL.out.len
              clear hth he
              generalize L[j].f1 = s at *
              go_wp2_with (at_lookup; refine map_look2 rfl _ _ rfl B m L rfl (keepO hT hT2) (n : Int) rfl (by omega) (by omega) true s HTH HDT ?_)
              go_loopw [13, 17] (fun b q wr2 => ∃ (kk : Nat) (b2 : Bool), q = .int .i64 kk ∧ b = .bool b2 ∧ n + 1 ≤ kk ∧ kk ≤ 10 ∧ Hid ((bb || (decide (s.size < 5) && anyUp L (n : Int) (kk : Int))) = b2) ∧ Hid (TwH wc L u11 j wr2)) (fun _ q _ => 10 - (intOf q).toNat)
              case atStart => exact ⟨n + 1, bb, by go_num, rfl, Nat.le_refl _, by omega, (by show _ = _; rw [show ((n + 1 : Nat) : Int) = (n : Int) + 1 by omega, anyUp_start]; simp), hT2⟩
              case round =>
                clear hT2
                obtain ⟨kk, b2, rfl, rfl, hkk1, hkk2, hb2, hT3⟩ := hrel
                by_cases hkl : kk ≤ 9
                · have e1 : decide ((kk : Int) ≤ 9) = true := by simp; omega
                  have HAS := Lib.hid (anyUp_step L (n : Int) (kk : Int) (by omega))
                  obtain ⟨s2, HS2⟩ : ∃ s2, Hid (dataOf L (kk : Int) = s2) := ⟨_, Eq.refl (dataOf L (kk : Int))⟩
                  cases htk : thereP L (kk : Int)
                  · have HTK := Lib.hid htk
                    clear htk
                    go_wp2_with (at_lookup; refine map_look2 rfl _ _ rfl B m L rfl (keepO hT hT3) (kk : Int) rfl (by omega) (by omega) false s2 HTK HS2 ?_)
                    go_roundw
                    case rel => exact ⟨kk + 1, b2, by go_num, rfl, by omega, by omega, (by show _ = _; rw [show ((kk + 1 : Nat) : Int) = (kk : Int) + 1 by omega, HAS.out, HTK.out, Bool.or_false]; exact hb2.out), hT3⟩
                    case measure => simp [intOf]; omega
                  · have HTK := Lib.hid htk
                    clear htk
                    by_cases hs5 : s.size < 5
                    · have e2 : decide ((s.size : Int) < 5) = true := by simp; omega
                      have HB := Lib.hid hb2.out
                      have HS5 := Lib.hid (decide_eq_true hs5)
                      clear hs5 hb2
                      go_wp2_with (at_lookup; refine map_look2 rfl _ _ rfl B m L rfl (keepO hT hT3) (kk : Int) rfl (by omega) (by omega) true s2 HTK HS2 ?_)
                      go_roundw
                      case rel => exact ⟨kk + 1, true, by go_num, rfl, by omega, by omega, (by show _ = _; rw [show ((kk + 1 : Nat) : Int) = (kk : Int) + 1 by omega, HAS.out, HTK.out, HS5.out]; simp), hT3⟩
                      case measure => simp [intOf]; omega
                    · have e2 : decide ((s.size : Int) < 5) = false := by simp; omega
                      have HB := Lib.hid hb2.out
                      have HS5 := Lib.hid (decide_eq_false hs5)
                      clear hs5 hb2
                      go_wp2_with (at_lookup; refine map_look2 rfl _ _ rfl B m L rfl (keepO hT hT3) (kk : Int) rfl (by omega) (by omega) true s2 HTK HS2 ?_)
                      go_roundw
                      case rel => exact ⟨kk + 1, b2, by go_num, rfl, by omega, by omega, (by show _ = _; rw [← HB.out, HS5.out]; simp), hT3⟩
                      case measure => simp [intOf]; omega
                · obtain rfl : kk = 10 := by omega
                  have hbj : Hid (shortJ L (j + 1) = b2) := by
                    unfold Hid; rw [HSN.out, hbb.out]; exact hb2.out
                  clear hb2 HSN hbb hkk1 hkk2 hkl
                  obtain ⟨i0, hi, hy0, hy1, hy2⟩ := info_parts info48
                  have HOF := Lib.hid (fun (W : World) => of_calls s (by omega) W)
                  have e3 : ¬ (9223372036854775807 < (catL (L.take j)).length + s.size) := by omega
                  have hj9 : j ≤ 9 := by omega
                  have hsz : wc.heap.size ≤ wr.heap.size := hT3.out.bel.size
                  go_wp2_with (first
                    | (go_at_call 15; refine (HOF.out _).mono ?_; rintro e w5 ⟨rfl, hb⟩; have hT5 := keepW hT3 hb; clear hb)
                    | (at_builtin; refine wpList_append_lies _ rfl _ _ 26 rfl wc.heap.size 48 i0 (.agg #[(.int .i64 0), (.int .u32 0)]) 2 16 Tryd.underlying26 hi hy0 hy1 hy2 rfl (by decide) _ _ _ rfl (hT5.out.row.alloc _) ⟨w5.heap.size, 0, none⟩ 1 1 [.int .i64 n, .int .u32 (tagOf s)] rfl rfl ?c1 ?c2 (by decide) ?c3 ?c4 ?c5 _ rfl ?_))
                  case c1 => exact World.news_of_block (blk_new w5 _)
                  case c2 => exact (by intro u hu; simp at hu; rcases hu with rfl | rfl <;> rfl)
                  case c3 => unfold maxLen; omega
                  case c4 => omega
                  case c5 => have := hT5.out.bel.size; simp; omega
                  intro g cap w6 hown' hgrow _ _
                  have hT6 := Lib.hid (HPUSH.out _ _ _ _ hT5.out hgrow hown')
                  clear hown' hgrow
                  go_wp2
                  go_roundw
                  case rel => exact ⟨n + 1, j + 1, b2, by go_num, (by rw [HCAT.out, mk_append]), rfl, by omega, by omega, hbj, HU2, hT6⟩
                  case measure => simp [intOf]; omega
          · obtain rfl : n = 10 := by omega
            obtain rfl : j = L.length := hU.out.stop hL.out
            have hrow := hT2.out.row
            rw [List.take_length] at hrow ⊢
            obtain ⟨A11, c11, rfl, hc11, H48⟩ := own48 hrow (pcs_len L).symm (by have := hL.out.len; omega)
            have HJ9 := hL.out.len
            have HWT := Lib.hid (whole_turns hL.out)
            rw [hbb.out] at HWT
            clear hlt hn1 hn10 hrow hbb hU
            have d1 : decide (((10 : Nat) : Int) ≤ 9) = false := by decide
            by_cases h0 : L.length = 0
            · have HE := Lib.hid HWT.out
              rw [if_pos h0] at HE
              have d2 : ((L.length : Int) == 0) = true := beq_iff_eq.2 (by omega)
              clear h0 HWT
              go_wp2_with (first
                | (go_at_call 16; refine (find7_calls hL A3 c3 _ (keepT hT hT2.out.bel).out.ups hc3).mono ?_; rintro e w5 ⟨A5, c5, rfl, hc5, HC5, hb⟩; have HP5 := keepR H48 hb; have HB5 := (keepT (keepT hT hT2.out.bel) hb).out.bel; clear hb)
                | (go_at_call 9; refine (whole7_calls hL _ _ _ HE A5 c5 A11 c11 _ (keepR HC5 (below1 w5 _)) hc5 (keepR HP5 (below1 w5 _))).mono ?_; rintro e w6 ⟨rfl, hb⟩; have HB6 := keepB (Lib.hid (HB5.alloc HB5.size _)) hb; clear hb)
                | (go_at_call 11; refine (HAW.out _).mono ?_; rintro x w7 ⟨rfl, hb⟩; have HB7 := keepB HB6 hb; clear hb))
              go_ret
              exact ⟨rfl, HB7.out⟩
            · rw [if_neg h0] at HWT
              have d2 : ((L.length : Int) == 0) = false := beq_eq_false_iff_ne.2 (by omega)
              cases bb
              · have HWT2 := Lib.hid HWT.out
                rw [if_neg (by decide)] at HWT2
                by_cases h2 : 2000 < (catL L).length
                · have HE := Lib.hid HWT2.out
                  rw [if_pos h2] at HE
                  have d3 : decide ((2000 : Int) < ((catL L).length : Int)) = true := by simp; omega
                  clear h0 HWT HWT2 h2
                  go_wp2_with (first
                    | (go_at_call 16; refine (find7_calls hL A3 c3 _ (keepT hT hT2.out.bel).out.ups hc3).mono ?_; rintro e w5 ⟨A5, c5, rfl, hc5, HC5, hb⟩; have HP5 := keepR H48 hb; have HB5 := (keepT (keepT hT hT2.out.bel) hb).out.bel; clear hb)
                    | (go_at_call 9; refine (whole7_calls hL _ _ _ HE A5 c5 A11 c11 _ (keepR HC5 (below1 w5 _)) hc5 (keepR HP5 (below1 w5 _))).mono ?_; rintro e w6 ⟨rfl, hb⟩; have HB6 := keepB (Lib.hid (HB5.alloc HB5.size _)) hb; clear hb)
                    | (go_at_call 11; refine (HAW.out _).mono ?_; rintro x w7 ⟨rfl, hb⟩; have HB7 := keepB HB6 hb; clear hb))
                  go_ret
                  exact ⟨rfl, HB7.out⟩
                · have HE := Lib.hid HWT2.out
                  rw [if_neg h2] at HE
                  have d3 : decide ((2000 : Int) < ((catL L).length : Int)) = false := by simp; omega
                  clear h0 HWT HWT2 h2
                  go_wp2_with (first
                    | (go_at_call 16; refine (find7_calls hL A3 c3 _ (keepT hT hT2.out.bel).out.ups hc3).mono ?_; rintro e w5 ⟨A5, c5, rfl, hc5, HC5, hb⟩; have HP5 := keepR H48 hb; have HB5 := (keepT (keepT hT hT2.out.bel) hb).out.bel; clear hb)
                    | (go_at_call 9; refine (whole7_calls hL _ _ _ HE A5 c5 A11 c11 _ (keepR HC5 (below1 w5 _)) hc5 (keepR HP5 (below1 w5 _))).mono ?_; rintro e w6 ⟨rfl, hb⟩; have HB6 := keepB (Lib.hid (HB5.alloc HB5.size _)) hb; clear hb)
                    | (go_at_call 11; refine (HAW.out _).mono ?_; rintro x w7 ⟨rfl, hb⟩; have HB7 := keepB HB6 hb; clear hb))
                  go_ret
                  exact ⟨rfl, HB7.out⟩
              · have HE := Lib.hid HWT.out
                rw [if_pos rfl] at HE
                clear h0 HWT
                go_wp2_with (first
                  | (go_at_call 16; refine (find7_calls hL A3 c3 _ (keepT hT hT2.out.bel).out.ups hc3).mono ?_; rintro e w5 ⟨A5, c5, rfl, hc5, HC5, hb⟩; have HP5 := keepR H48 hb; have HB5 := (keepT (keepT hT hT2.out.bel) hb).out.bel; clear hb)
                  | (go_at_call 9; refine (whole7_calls hL _ _ _ HE A5 c5 A11 c11 _ (keepR HC5 (below1 w5 _)) hc5 (keepR HP5 (below1 w5 _))).mono ?_; rintro e w6 ⟨rfl, hb⟩; have HB6 := keepB (Lib.hid (HB5.alloc HB5.size _)) hb; clear hb)
                  | (go_at_call 11; refine (HAW.out _).mono ?_; rintro x w7 ⟨rfl, hb⟩; have HB7 := keepB HB6 hb; clear hb))
                go_ret
                exact ⟨rfl, HB7.out⟩
end Go.Proofs.YtgpmkbmobdbdoaaDoor.Q

-- U3
namespace Go.Proofs.YtgpmkbmobdbdoaaDoor.Q
open Go.RowKit Go.Proofs.YtgpmkbmobdbdoaaDoorW.PrintWords Go.Proofs.YtgpmkbmobdbdoaaDoorW.PrintLast Go.Proofs.YtgpmkbmobdbdoaaDoorW.PrintMore
set_option linter.unusedVariables false
set_option linter.unusedSimpArgs false

/-! What an argument's reading gives: the kinds' own relation. -/
def Opens {α : Type} (P : Program) (d : Kd α) (t : TypeId) : Prop :=
  ∀ (H : Type) (enc : TypeId × Value → H) (W : World) (n : Nat) (cs : List Value) (x : DataW H × List MemPlace), DataW.trod enc P W 0 (fun _ => true) true n t cs = some x → ∃ y : α, d.K W y cs
set_option maxRecDepth 100000 in
theorem opens_C {α : Type} {P : Program} {d : Kd α} {t e : TypeId} (ht : P.underlying t = some (.slice e)) (hs : P.cellsOf e = d.sz) (he : Opens P d e) (z : α) (H : Type) (enc : TypeId × Value → H) (W : World) (n : Nat) (cs : List Value) (x : DataW H × List MemPlace)
    (h : DataW.trod enc P W 0 (fun _ => true) true n t cs = some x) : ∃ (l : List α) (A : Option Addr) (c : Nat), cs = [.slice A l.length c] ∧ l.length ≤ c ∧ d.C W A l.length l := by
  rcases DataW.trod_slice ht h with ⟨rfl, _⟩ | ⟨a, len, cap, elems, rest, m, _, rfl, _, _, hl, hm, hlen, hel, _, _⟩
  · exact ⟨[], none, 0, rfl, Nat.le_refl _, rfl, by simp, fun h0 => by simp at h0⟩
  have each : ∀ i : Nat, ∃ p : α, i < len → ∃ c : List Value, c.length = d.sz ∧ d.K W p c ∧ ∀ j u, c[j]? = some u → W.cell? (a.add (i * d.sz + j)) = some u := by
    intro i
    by_cases hi : i < len
    · have h1 := hel i hi
      rw [List.getElem?_eq_getElem (by omega), Option.bind_eq_some_iff] at h1
      obtain ⟨c, hc, ht'⟩ := h1
      obtain ⟨y, hy⟩ := he H enc W m c _ ht'
      refine ⟨y, fun _ => ⟨c, d.K_len hy, hy, fun j u hu => ?_⟩⟩
      obtain ⟨_, hcl, hcell⟩ := World.cells?_some hc
      have := hcell j (by have := (List.getElem?_eq_some_iff.1 hu).1; omega)
      rw [hs, add_add] at this
      rw [this, hu]
    · exact ⟨z, fun h => absurd h hi⟩
  obtain ⟨f, hf⟩ := Classical.skolem.1 each
  refine ⟨(List.range len).map f, some a, cap, by simp, by simpa using hl, by simp, by simp [maxLen] at hm ⊢; omega, fun _ => ⟨a, rfl, fun j p hj => ?_⟩⟩
  rw [List.getElem?_map] at hj
  have hjl : j < len := by
    rcases Nat.lt_or_ge j len with h | h
    · exact h
    · rw [List.getElem?_eq_none (by simpa using h)] at hj; cases hj
  rw [List.getElem?_range hjl] at hj
  injection hj with hj
  subst hj
  exact hf j hjl
theorem cells3 : Tryd.prog.cellsOf 3 = 1 := by kernel_rfl
theorem cells9 : Tryd.prog.cellsOf 9 = 1 := by kernel_rfl
theorem cellsN40 : Tryd.prog.cellsOf 40 = 2 := by kernel_rfl
set_option maxRecDepth 100000 in
theorem opens40 : Opens Tryd.prog k40 40 := by
  intro H enc W n cs x h
  obtain ⟨y0, y1, m, rfl, hl, t0, t1⟩ := Go.ChangeShapes.trod_struct2 Tryd.underlying40 h
  rw [cellsN40] at hl
  match cs, hl with
  | [a, b], _ =>
    simp only [cells3, cells9, List.drop, List.take] at t0 t1
    obtain ⟨i, e0, _, _⟩ := DataW.trod_int Tryd.underlying3 t0
    obtain ⟨s, e1, _, _⟩ := DataW.trod_string Tryd.underlying9 t1
    injection e0 with e0; injection e1 with e1
    subst e0 e1
    exact ⟨⟨i, s⟩, k40_mk W ⟨i, s⟩⟩
set_option maxRecDepth 100000 in
theorem open_row {α : Type} {d : Kd α} {t e : TypeId} (ht : Tryd.prog.underlying t = some (.slice e)) (hs : Tryd.prog.cellsOf e = d.sz) (he : Opens Tryd.prog d e) (z : α) {H : Type} {enc : TypeId × Value → H} {W : World} {base : Nat} {v : Value} {x : DataW H} {p : List MemPlace} (hv : Value.okWide Tryd.prog W .any base t v) (h : DataW.Trod enc Tryd.prog W 0 (fun _ => true) true t v x p) :
    ∃ (l : List α) (A : Option Addr) (c : Nat), v = .slice A l.length c ∧ l.length ≤ c ∧ d.C W A l.length l := by
  obtain ⟨a, n, c, rfl⟩ := Go.WideShapes.okWide_slice ht hv
  obtain ⟨m, hm⟩ := h
  obtain ⟨l, A, c', e, hle, hC⟩ := opens_C ht hs he z H enc W m _ _ hm
  refine ⟨l, A, c', ?_, hle, hC⟩
  simpa [Value.cells] using e
set_option maxRecDepth 100000 in
theorem open_parts {H : Type} {enc : TypeId × Value → H} {W : World} {base : Nat} {v : Value} {x : DataW H} {p : List MemPlace} (hv : Value.okWide Tryd.prog W .any base 23 v) (h : DataW.Trod enc Tryd.prog W 0 (fun _ => true) true 23 v x p) :
    ∃ (l : List S40) (A : Option Addr) (c : Nat), v = .slice A l.length c ∧ l.length ≤ c ∧ Kd.C k40 W A l.length l := open_row Tryd.underlying23 cellsN40 opens40 z40 hv h
end Go.Proofs.YtgpmkbmobdbdoaaDoor.Q

-- U4
namespace Go.Proofs.YtgpmkbmobdbdoaaDoor.Q
open Go.ChangeShapes Go.WideShapes Go.ChangeAt Go.WideMaps Go.WideElems Go.RowKit
set_option linter.unusedVariables false

theorem own : ownKnob Tryd.prog.godebug = none := by kernel_rfl
theorem laidOut : laidOutB Tryd.prog = true := by kernel_rfl
noncomputable abbrev laid3 := Rows.partsPiecesRow.laid
/-- The door's own heap meets the condition. -/
theorem door_met (os : Os) (args : Array Value) : laidMetH Tryd.prog laid3 ((World.doorLaid Tryd.prog 400 os).forCall (fun _ _ => 0) ⟨#[], args, []⟩).memory :=
  laidMetH_of_parts3 (fuel := 8) (laidMet_of_run' 8 (by kernel_rfl) (by kernel_rfl)) (by kernel_rfl) (by kernel_rfl)
end Go.Proofs.YtgpmkbmobdbdoaaDoor.Q

-- LawTurns
namespace Go.Proofs.YtgpmkbmobdbdoaaDoor.partsTurns
open Go.ChangeShapes Go.WideShapes Go.ChangeAt Go.RowKit
open Go.ChangeMaps (open_string shut_string)
set_option linter.unusedVariables false

set_option maxRecDepth 100000 in
theorem lifted (os : Os) (started : os.Started) (H : Type) (enc : TypeId × Value → H) :
    ReturnsInHanded {} Tryd.checked os 4 .any (fun w args => (Rows.partsTurnsSpec.pre enc Tryd.prog Tryd.f4 [] false w args ∧ laidMetH Tryd.prog Q.laid3 w) ∧ sizedMet enc Tryd.prog Tryd.f4 (OpenSpec.ofChange Rows.partsTurnsSpec) false w args)
      (Rows.partsTurnsSpec.post enc Tryd.prog Tryd.f4 false true false false) := by
  refine returnsInHanded_of_change_and (C := Tryd.checked) (X := fun w _ => laidMetH Tryd.prog Q.laid3 w) (fun _ _ _ hh h => h.of_heap hh) Q.own started (by kernel_rfl) Tryd.func4
    (ChangeSpec.witness_shaped (enc := enc) (C := Tryd.checked) (os := os) (X := fun w _ => laidMetH Tryd.prog Q.laid3 w) false (World.doorLaid Tryd.prog 400 os) #[.slice none 0 0] 8 rfl (World.shaped_of_RefB (by kernel_rfl) (by kernel_rfl)) (by kernel_rfl) (by kernel_rfl) (by kernel_rfl) (Q.door_met os _)) ?_
  intro W base args ds gs before hval0 hW _ _ hL _
  have hval : ∀ (j : Nat) t v, Tryd.f4.params[j]? = some t → args[j]? = some v → Value.okWide Tryd.prog W .any base t v := hval0
  have hW' := hW
  obtain ⟨p, q, hA0, hV, rfl, hfz, hnd⟩ := hW
  have hA : DataW.TrodAll enc Tryd.prog W 0 (fun _ => true) true Tryd.f4.params.toList args.toList ds p := hA0
  rw [Tryd.params4] at hA hval
  obtain ⟨v0, vs0, d0, ds0, p0, q0, hargs, rfl, rfl, h0, r0⟩ := trodAll_cons hA
  obtain ⟨rfl, rfl, rfl⟩ := trodAll_nil r0
  obtain rfl : args = #[v0] := by cases args; simp_all
  obtain ⟨rfl, rfl⟩ := trodVars_none hV
  have k0 := h0
  have lt0 : ∀ x ∈ p0, x.block < W.heap.size := by obtain ⟨m, hm⟩ := k0; exact DataW.trod_lt m _ _ _ hm
  obtain ⟨l_0, A_0, c_0, rfl, hl_0, hC_0⟩ := Q.open_parts (hval 0 23 v0 rfl rfl) h0
  clear hA0 hval0
  refine (Q.turns.walk A_0 c_0 l_0 W hC_0 hl_0).mono fun e W' ⟨he, bel⟩ => ?_
  subst he
  exact ⟨_, rfl, _, _, _, [], _, [], hW', trodAll_mk1 (shut_bool Tryd.underlying4 _), (trodAll_cons_mk (Below.trod Q.laidOut (by kernel_rfl) (of_decide_eq_true (by kernel_rfl)) k0 bel lt0) trodAll_mk0), rfl, bel.frame _, fun h => by cases h⟩
theorem over : Rows.partsTurnsRow.holds Tryd.pinned (OpenSpec.ofChange Rows.partsTurnsSpec) :=
  OpenClaim.holds_of_wide 4 Tryd.f4 rfl rfl rfl rfl rfl rfl rfl ⟨rfl, rfl, rfl, rfl, rfl⟩ rfl rfl rfl rfl rfl (by kernel_rfl) Tryd.func4 (by kernel_rfl)
    (of_decide_eq_true (by kernel_rfl)) (by unfold Func.isWrapper; first | (rw [if_pos (by decide +kernel)]; kernel_rfl) | (rw [if_neg (by decide +kernel)]; exact ⟨rfl, rfl⟩))
    (fun os started H enc _ => lifted os started H enc)
end Go.Proofs.YtgpmkbmobdbdoaaDoor.partsTurns
namespace Go.Proofs.YtgpmkbmobdbdoaaDoor
open Go
/-- The row. -/
theorem partsTurns_holds : Rows.PartsTurnsSaid := partsTurns.over
/-- The tied card. -/
theorem partsTurns_card : Rows.PartsTurnsCardSaid :=
  Claim7.holds_tied_plain_at .later [] [.data, .data, .data] true (true, "76c20beef55fadc3259f669185c7ebcbfdd7535a325eb728a796db81dacc4999") false
    partsTurns_holds (fun _ h => by cases h) (by kernel_rfl) (fun _ h => by cases h) partsTurns_row_tie rfl ⟨rfl, rfl⟩ (by kernel_rfl) rfl
    (fun f fn hf hfn => by
      obtain rfl : f = 4 := Option.some.inj ((show Tryd.prog.funcNamed "cellarer/cellarerlaw08.PartsTurns" = some 4 by kernel_rfl).symm.trans hf) |>.symm
      obtain rfl : fn = Tryd.f4 := (Option.some.inj (Tryd.func4.symm.trans hfn)).symm
      exact ⟨by kernel_rfl, fun j t ht => by
        rw [Tryd.params4] at ht
        rcases j with _ | j
        · obtain rfl : t = 23 := by simpa using ht.symm
          exact (show Tryd.prog.wantsStandIn 23 = false by kernel_rfl)
        · simp at ht⟩)
    (by kernel_rfl)
#print axioms partsTurns_card
end Go.Proofs.YtgpmkbmobdbdoaaDoor
