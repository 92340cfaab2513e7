/- The law ChangeDead returns true for every input that its row lets in, under the row's own conditions and no others. Part 22 of 23. -/
import Derived.Test.YtipahpkdddijmaaProg
import Derived.Below
import Derived.Deep.Draws
import Derived.Deep.AppendLies
import Derived.Maps.AppendAt
import Derived.OwnWalk
import Derived.Laws.BytesArg
import Derived.Laws.MakeOwn
import Derived.Laws.OwnMore
import Derived.Deep.OwnRows
import Derived.Tactics
import Derived.Lib.ConvBytes
import Derived.Laws.Slices
import Derived.WalkKit
import Derived.KernelRfl
import Derived.RowKit3
import Derived.Deep.LoopGhost
import Derived.Deep.QuietTactic
import Derived.BigQuiet
import Derived.WideLaws
import Derived.Deep.DeepCutAuto
import Derived.Deep.CutBlock
import Derived.Deep.RegionHeld3
import Derived.Laws.Rows
import Derived.Lib.AppendStr
import Derived.ArgAppend
import Derived.Laws.IdiomCopy
import Derived.OrdersHeld
import Derived.Laws.BitsLemmas
import Derived.RowKit
import Derived.Test.YtipahpkdddijmaaCdWWords
import Derived.Test.YtipahpkdddijmaaCdWLast
import Derived.Test.YtipahpkdddijmaaCdWTab
import Derived.Test.YtipahpkdddijmaaCdWFour
import Derived.Test.YtipahpkdddijmaaCdWQPut
import Derived.Test.YtipahpkdddijmaaCdWApart
import Derived.Test.YtipahpkdddijmaaCdWArr
import Derived.Test.YtipahpkdddijmaaCdWZeros
import Derived.Test.YtipahpkdddijmaaCdWFoot
import Derived.Test.YtipahpkdddijmaaCdWKept
import Derived.Test.YtipahpkdddijmaaCdWShare
import Derived.Test.YtipahpkdddijmaaCdWN
import Derived.Test.YtipahpkdddijmaaCdWFootNe
import Derived.Test.YtipahpkdddijmaaCdWAt
import Derived.Test.YtipahpkdddijmaaCdWEqStruct
import Derived.Test.YtipahpkdddijmaaCdWRepsOne
import Derived.Test.YtipahpkdddijmaaCdWInv
import Derived.Test.YtipahpkdddijmaaCdWInvWords
import Derived.Test.YtipahpkdddijmaaCdWGuard
import Derived.Test.YtipahpkdddijmaaCdWNEv
import Derived.Test.YtipahpkdddijmaaCdWMore
import Derived.Maps.OwnSet
import Derived.Maps.RangeWalk
import Derived.Lib.BufferMore
import Derived.Lib.Bytealg
import Derived.Shelf.SlSortCmp.WholeK
import Derived.Shelf.Strings.Builder1
import Derived.Shelf.Small.Bits
import Derived.Shelf.Small.Strs
import Derived.Shelf.Strings.BuilderF
import Derived.Shelf.Strconv.Itoa0
import Derived.Shelf.SlSortCmp.QuietGrown
import Derived.Laws.CopyOwn
import Derived.Lib.Overlaps
import Derived.Deep.RegionLaw
-- Qx0
namespace Go.Proofs.Ytipahpkdddijmaa.Q
open Go.RowKit Go.Proofs.YtipahpkdddijmaaW.PrintWords Go.Proofs.YtipahpkdddijmaaW.PrintLast Go.Proofs.YtipahpkdddijmaaW.PrintMore
attribute [local go_sem] max2_int min2_int max_two min_two max_three min_three max_four min_four   -- for this text's walks alone
set_option linter.unusedVariables false
set_option linter.unusedSimpArgs false



def errW : Option Int → Value
  | none => .nilIface
  | some c => .iface 0 (.int .i64 c)
theorem errW_none : errW none = .nilIface := rfl
theorem errW_some (c : Int) : errW (some c) = .iface 0 (.int .i64 c) := rfl

theorem info5 : (Try.prog.info? 5).map (fun i => (i.zero, i.size, i.bytes)) = some (some (.int .u8 0), 1, 1) := by kernel_rfl
theorem info9 : (Try.prog.info? 9).map (fun i => (i.zero, i.size, i.bytes)) = some (some (.string ⟨#[]⟩), 1, 16) := by kernel_rfl
theorem info39 : (Try.prog.info? 39).map (fun i => (i.zero, i.size, i.bytes)) = some (some (.agg #[(.int .u64 0), (.string ⟨#[]⟩), (.string ⟨#[]⟩), (.bool false)]), 4, 48) := by kernel_rfl
-- the values' own types
/-! #### struct type 37 -/
structure S37 where
  f0 : ByteArray
  f1 : ByteArray
  f2 : Bool
def z37 : S37 := ⟨(⟨#[]⟩ : ByteArray), (⟨#[]⟩ : ByteArray), false⟩
def k37 : Kd S37 := Kd.iso (Kd.pair Kd.string (Kd.pair Kd.string Kd.bool)) (fun x : S37 => (x.f0, x.f1, x.f2))
theorem k37_open {w : World} {x : S37} {cs : List Value} (h : k37.K w x cs) : cs = [.string x.f0, .string x.f1, .bool x.f2] := by
  obtain ⟨_, _, rfl, rfl, ⟨_, _, rfl, rfl, rfl⟩⟩ := h
  exact rfl
theorem k37_mk (w : World) (x : S37)  : k37.K w x [.string x.f0, .string x.f1, .bool x.f2] := ⟨[.string x.f0], [.string x.f1, .bool x.f2], rfl, rfl, ⟨[.string x.f1], [.bool x.f2], rfl, rfl, rfl⟩⟩
theorem k37_mkM (w : World) (base : Nat) (ok : Nat → Prop) (x : S37)  : k37.M w base ok x [.string x.f0, .string x.f1, .bool x.f2] := ⟨[.string x.f0], [.string x.f1, .bool x.f2], rfl, rfl, ⟨[.string x.f1], [.bool x.f2], rfl, rfl, rfl⟩⟩
def rd_T37 (xs : List S37) (i : Int) : S37 := xs.getD i.toNat z37
theorem at_T37 {w : World} {A : Option Addr} {n : Nat} {xs : List S37} (h : Kd.C k37 w A n xs) (i : Int) (h0 : 0 ≤ i) (h1 : i < n) : ∃ ad , A = some ad ∧ w.cell? (ad.add (i.toNat * 3)) = some (.string (rd_T37 xs i).f0) ∧ w.cell? ⟨(ad.add (i.toNat * 3)).block, (ad.add (i.toNat * 3)).off + 1, none⟩ = some (.string (rd_T37 xs i).f1) ∧ w.cell? ⟨(ad.add (i.toNat * 3)).block, (ad.add (i.toNat * 3)).off + 2, none⟩ = some (.bool (rd_T37 xs i).f2) := by
  obtain ⟨ad, c, e, _, hK, hc0⟩ := Kd.C_get h z37 i h0 h1
  have hc : ∀ j u, c[j]? = some u → w.cell? (ad.add (i.toNat * 3 + j)) = some u := hc0
  obtain rfl := k37_open hK
  exact ⟨ad, e, hc 0 _ rfl, by rw [← add_field _ _ 1 (by omega)]; exact hc 1 _ rfl, by rw [← add_field _ _ 2 (by omega)]; exact hc 2 _ rfl⟩

/-! #### struct type 39 -/
structure S39 where
  f0 : Int
  f1 : S37
def z39 : S39 := ⟨(0 : Int), z37⟩
def k39 : Kd S39 := Kd.iso (Kd.pair (Kd.int .u64) k37) (fun x : S39 => (x.f0, x.f1))
theorem k39_open {w : World} {x : S39} {cs : List Value} (h : k39.K w x cs) : cs = [.int .u64 x.f0, .string x.f1.f0, .string x.f1.f1, .bool x.f1.f2] := by
  obtain ⟨_, _, rfl, rfl, s1⟩ := h
  obtain rfl := k37_open s1
  exact rfl
theorem k39_mk (w : World) (x : S39)  : k39.K w x [.int .u64 x.f0, .string x.f1.f0, .string x.f1.f1, .bool x.f1.f2] := ⟨[.int .u64 x.f0], [.string x.f1.f0, .string x.f1.f1, .bool x.f1.f2], rfl, rfl, (k37_mk w x.f1 )⟩
theorem k39_mkM (w : World) (base : Nat) (ok : Nat → Prop) (x : S39)  : k39.M w base ok x [.int .u64 x.f0, .string x.f1.f0, .string x.f1.f1, .bool x.f1.f2] := ⟨[.int .u64 x.f0], [.string x.f1.f0, .string x.f1.f1, .bool x.f1.f2], rfl, rfl, (k37_mkM w base ok x.f1 )⟩
def rd_T39 (xs : List S39) (i : Int) : S39 := xs.getD i.toNat z39
theorem at_T39 {w : World} {A : Option Addr} {n : Nat} {xs : List S39} (h : Kd.C k39 w A n xs) (i : Int) (h0 : 0 ≤ i) (h1 : i < n) : ∃ ad , A = some ad ∧ w.cell? (ad.add (i.toNat * 4)) = some (.int .u64 (rd_T39 xs i).f0) ∧ w.cell? ⟨(ad.add (i.toNat * 4)).block, (ad.add (i.toNat * 4)).off + 1, none⟩ = some (.string (rd_T39 xs i).f1.f0) ∧ w.cell? ⟨(ad.add (i.toNat * 4)).block, (ad.add (i.toNat * 4)).off + 2, none⟩ = some (.string (rd_T39 xs i).f1.f1) ∧ w.cell? ⟨(ad.add (i.toNat * 4)).block, (ad.add (i.toNat * 4)).off + 3, none⟩ = some (.bool (rd_T39 xs i).f1.f2) := by
  obtain ⟨ad, c, e, _, hK, hc0⟩ := Kd.C_get h z39 i h0 h1
  have hc : ∀ j u, c[j]? = some u → w.cell? (ad.add (i.toNat * 4 + j)) = some u := hc0
  obtain rfl := k39_open hK
  exact ⟨ad, e, hc 0 _ rfl, by rw [← add_field _ _ 1 (by omega)]; exact hc 1 _ rfl, by rw [← add_field _ _ 2 (by omega)]; exact hc 2 _ rfl, by rw [← add_field _ _ 3 (by omega)]; exact hc 3 _ rfl⟩

/-! #### struct type 52 -/
structure S52 where
  f0 : ByteArray
  f1 : ByteArray
def z52 : S52 := ⟨(⟨#[]⟩ : ByteArray), (⟨#[]⟩ : ByteArray)⟩
def k52 : Kd S52 := Kd.iso (Kd.pair Kd.string Kd.string) (fun x : S52 => (x.f0, x.f1))
theorem k52_open {w : World} {x : S52} {cs : List Value} (h : k52.K w x cs) : cs = [.string x.f0, .string x.f1] := by
  obtain ⟨_, _, rfl, rfl, rfl⟩ := h
  exact rfl
theorem k52_mkM (w : World) (base : Nat) (ok : Nat → Prop) (x : S52)  : k52.M w base ok x [.string x.f0, .string x.f1] := ⟨[.string x.f0], [.string x.f1], rfl, rfl, rfl⟩
def rd_T52 (xs : List S52) (i : Int) : S52 := xs.getD i.toNat z52
theorem at_T52 {w : World} {A : Option Addr} {n : Nat} {xs : List S52} (h : Kd.C k52 w A n xs) (i : Int) (h0 : 0 ≤ i) (h1 : i < n) : ∃ ad , A = some ad ∧ w.cell? (ad.add (i.toNat * 2)) = some (.string (rd_T52 xs i).f0) ∧ w.cell? ⟨(ad.add (i.toNat * 2)).block, (ad.add (i.toNat * 2)).off + 1, none⟩ = some (.string (rd_T52 xs i).f1) := by
  obtain ⟨ad, c, e, _, hK, hc0⟩ := Kd.C_get h z52 i h0 h1
  have hc : ∀ j u, c[j]? = some u → w.cell? (ad.add (i.toNat * 2 + j)) = some u := hc0
  obtain rfl := k52_open hK
  exact ⟨ad, e, hc 0 _ rfl, by rw [← add_field _ _ 1 (by omega)]; exact hc 1 _ rfl⟩

end Go.Proofs.Ytipahpkdddijmaa.Q

-- Qx1
namespace Go.Proofs.Ytipahpkdddijmaa.Q
open Go.RowKit Go.Proofs.YtipahpkdddijmaaW.PrintWords Go.Proofs.YtipahpkdddijmaaW.PrintLast Go.Proofs.YtipahpkdddijmaaW.PrintMore
attribute [local go_sem] max2_int min2_int max_two min_two max_three min_three max_four min_four   -- for this text's walks alone
set_option linter.unusedVariables false
set_option linter.unusedSimpArgs false

theorem eqA37 (d : Nat) (w : World) (x0 y0 : ByteArray) (x1 y1 : ByteArray) (x2 y2 : Bool) :
    (Op.equalIn (d + 2) 37 (.agg #[.string x0, .string x1, .bool x2]) (.agg #[.string y0, .string y1, .bool y2])).run Try.prog w = .ok (x0.toList == y0.toList && (x1.toList == y1.toList && (x2 == y2))) w := by
  refine eqA_of Try.underlying37 (by kernel_rfl) ?_
  refine eqf_cons (by rfl) (by go_simp; rfl) (by go_simp; rfl) (by go_simp) ?_
  refine eqf_cons (by rfl) (by go_simp; rfl) (by go_simp; rfl) (by go_simp) ?_
  exact eqf_last (by rfl) (by go_simp; rfl) (by go_simp; rfl) (by go_simp)
theorem eqA39 (d : Nat) (w : World) (x0 y0 : Int) (x1 y1 : ByteArray) (x2 y2 : ByteArray) (x3 y3 : Bool) :
    (Op.equalIn (d + 3) 39 (.agg #[.int .u64 x0, .string x1, .string x2, .bool x3]) (.agg #[.int .u64 y0, .string y1, .string y2, .bool y3])).run Try.prog w = .ok (x0 == y0 && ((x1.toList == y1.toList && (x2.toList == y2.toList && (x3 == y3))))) w := by
  refine eqA_of Try.underlying39 (by kernel_rfl) ?_
  refine eqf_cons (by rfl) (by go_simp; rfl) (by go_simp; rfl) (by go_simp) ?_
  exact eqf_last (by rfl) (by go_simp) (by go_simp) (eqA37 (d + 0) w _ _ _ _ _ _)
end Go.Proofs.Ytipahpkdddijmaa.Q

-- M0
namespace Go.Proofs.Ytipahpkdddijmaa.Q
open Go.WideMaps Go.RowKit Go.Proofs.YtipahpkdddijmaaW.PrintWords Go.Proofs.YtipahpkdddijmaaW.PrintLast Go.Proofs.YtipahpkdddijmaaW.PrintMore Go.Maps
set_option linter.unusedVariables false
set_option linter.unusedSimpArgs false

theorem Lib.hid {p : Prop} (h : p) : Hid p := h
theorem keepc {w w' : World} {p : Addr} {v : Value} (hb : Below w.heap.size w w') (h : w.cell? p = some v) : w'.cell? p = some v := pw_cell_below hb h
theorem keepB {w w1 w2 : World} (h : Hid (Below w.heap.size w w1)) (hb : Below w1.heap.size w1 w2) : Hid (Below w.heap.size w w2) := h.out.trans (hb.mono h.out.size)

/-! ### how a note reads as a map's element -/
def noteV (n : S39) : Value := .agg #[.int .u64 n.f0, .string n.f1.f0, .string n.f1.f1, .bool n.f1.f2]
def noteD (n : S39) : DataW Unit := .agg [.lit (.int .u64 n.f0), .lit (.string n.f1.f0.data.toList), .lit (.string n.f1.f1.data.toList), .lit (.bool n.f1.f2)]
def noteL : List Value → Option (DataW Unit × List MemPlace)
  | [.int .u64 a, .string b, .string c, .bool d] => some (noteD ⟨a, ⟨b, c, d⟩⟩, [])
  | _ => none
def noteR : Value → Option (DataW Unit × List MemPlace)
  | .agg cs => noteL cs.toList
  | _ => none
theorem noteR_mk (n : S39) : noteR (noteV n) = some (noteD n, []) := rfl
theorem noteL_inv : ∀ {l : List Value} {z : DataW Unit × List MemPlace}, noteL l = some z → ∃ n : S39, l = [.int .u64 n.f0, .string n.f1.f0, .string n.f1.f1, .bool n.f1.f2] ∧ z = (noteD n, []) := by
  intro l z h
  unfold noteL at h
  split at h
  · cases h; exact ⟨⟨_, ⟨_, _, _⟩⟩, rfl, rfl⟩
  · cases h
theorem noteR_inv {v : Value} {z : DataW Unit × List MemPlace} (h : noteR v = some z) : ∃ n : S39, v = noteV n ∧ z = (noteD n, []) := by
  cases v <;> simp only [noteR] at h <;> try (cases h; done)
  obtain ⟨n, h1, h2⟩ := noteL_inv h
  refine ⟨n, ?_, h2⟩
  unfold noteV
  congr 1
  exact Array.ext' h1
theorem bytes_inj {a b : ByteArray} (h : a.data.toList = b.data.toList) : a = b := by
  cases a; cases b
  congr 1
  exact Array.ext' h
theorem noteD_inj {a b : S39} (h : noteD a = noteD b) : a = b := by
  obtain ⟨a0, ⟨a1, a2, a3⟩⟩ := a
  obtain ⟨b0, ⟨b1, b2, b3⟩⟩ := b
  simp only [noteD, DataW.agg.injEq, List.cons.injEq, DataW.lit.injEq, Lit.int.injEq, Lit.string.injEq, Lit.bool.injEq] at h
  obtain ⟨⟨_, rfl⟩, h1, h2, rfl, _⟩ := h
  rw [bytes_inj h1, bytes_inj h2]

/-! ### which note of a name counts -/
def upd (n : S39) : Option S39 → Option S39
  | none => some n
  | some o => if o.f0 ≤ n.f0 then some n else some o
def cntStep (nm : ByteArray) (a : Option S39) (n : S39) : Option S39 := if n.f1.f0 = nm then upd n a else a
def cnt (l : List S39) (nm : ByteArray) : Option S39 := l.foldl (cntStep nm) none
theorem cnt_snoc (l : List S39) (n : S39) (nm : ByteArray) : cnt (l ++ [n]) nm = cntStep nm (cnt l nm) n := by simp [cnt]

/-- The map of those that count, as it reads. -/
def HasMap (D : DataW Unit) (l : List S39) : Prop :=
  IsMap D ∧ ∀ nm : ByteArray, Maps.has D (.string nm.data.toList) = (cnt l nm).isSome ∧ ∀ n, cnt l nm = some n → ∀ z, D.atKey (.string nm.data.toList) z = noteD n
theorem hasMap_nil : HasMap (.map []) [] := ⟨isMap_empty, fun nm => ⟨rfl, fun n h => by cases h⟩⟩
theorem lit_ne {a b : ByteArray} (h : a ≠ b) : (Lit.string a.data.toList) ≠ Lit.string b.data.toList := fun e => h (bytes_inj (by injection e))
theorem hasMap_put {D : DataW Unit} {l : List S39} {n : S39} (h : HasMap D l) (hu : upd n (cnt l n.f1.f0) = some n) : HasMap (D.put (.string n.f1.f0.data.toList) (noteD n)) (l ++ [n]) := by
  refine ⟨h.1.put _ _, fun nm => ?_⟩
  rw [cnt_snoc]
  by_cases e : n.f1.f0 = nm
  · subst e
    unfold cntStep
    rw [if_pos rfl, hu]
    refine ⟨?_, fun m hm z => ?_⟩
    · rw [has_put_same h.1 (by exact trivial)]; rfl
    · injection hm with hm
      subst hm
      exact atKey_put_same h.1 (by exact trivial) _ _
  · unfold cntStep
    rw [if_neg e]
    obtain ⟨h1, h2⟩ := h.2 nm
    refine ⟨?_, fun m hm z => ?_⟩
    · rw [has_put_other (lit_ne (Ne.symm e))]; exact h1
    · rw [atKey_put_other (lit_ne (Ne.symm e))]; exact h2 m hm z
theorem hasMap_skip {D : DataW Unit} {l : List S39} {n : S39} (h : HasMap D l) (hu : upd n (cnt l n.f1.f0) = cnt l n.f1.f0) : HasMap D (l ++ [n]) := by
  refine ⟨h.1, fun nm => ?_⟩
  rw [cnt_snoc]
  by_cases e : n.f1.f0 = nm
  · subst e
    unfold cntStep
    rw [if_pos rfl, hu]
    exact h.2 _
  · unfold cntStep
    rw [if_neg e]
    exact h.2 nm
theorem take_snoc {α : Type} (l : List α) (k : Nat) (h : k < l.length) : l.take (k + 1) = l.take k ++ [l[k]] := by
  rw [List.take_add_one, List.getElem?_eq_getElem h]; rfl

/-! ### the map's laws at this map -/
theorem nlaw : Keyed Try.prog 9 := string_keyed Try.underlying9
theorem nzero (w : World) : (zeroValue 39).run Try.prog w = .ok (noteV z39) w := Try.zeroValue39 w
theorem nkey {s : ByteArray} (h : s.size ≤ maxLen) : keyOf Try.prog 9 (.string s) = some (.string s.data.toList) := keyOf_string_mk Try.underlying9 h
theorem owns_blk {w w' : World} {P : Program} {k : TypeId} {R : Value → Option (DataW Unit × List MemPlace)} {b n : Nat} {D : DataW Unit} (h : w.ownsMap P k R b n D) (e : w'.heap[b]? = w.heap[b]?) : w'.ownsMap P k R b n D := by
  obtain ⟨es, clock, hb, r⟩ := h
  exact ⟨es, clock, e.trans hb, r⟩
theorem owns_below {w w' : World} {P : Program} {k : TypeId} {R : Value → Option (DataW Unit × List MemPlace)} {b n : Nat} {D : DataW Unit} (h : w.ownsMap P k R b n D) (hb : Below w.heap.size w w') : w'.ownsMap P k R b n D :=
  owns_blk h (hb.block b h.lt)
def dflt : Option S39 → S39
  | none => z39
  | some n => n
theorem look_ok {W : World} {B k : Nat} {D : DataW Unit} {l : List S39} (hown : W.ownsMap Try.prog 9 noteR B k D) (hH : HasMap D l) {nm : ByteArray} (hs : nm.size ≤ maxLen) :
    (Instr.lookup 76 (.map (some B)) (.string nm) true).run Try.prog W = .ok (.tuple #[noteV (dflt (cnt l nm)), .bool (cnt l nm).isSome]) W := by
  obtain ⟨v, ps, hrun, hv⟩ := hown.look_ok nlaw Try.underlying76 (nzero W) (noteR_mk z39) (nkey hs)
  obtain ⟨h1, h2⟩ := hH.2 nm
  rw [h1] at hrun
  rw [hrun]
  obtain ⟨n, rfl, hz⟩ := noteR_inv hv
  cases hc : cnt l nm
  · rw [hc] at h1
    have h3 : D.atKey (.string nm.data.toList) (noteD z39) = noteD z39 := atKey_of_not_has h1 _
    have hz1 := congrArg Prod.fst hz
    simp only at hz1
    have hz := h3.symm.trans hz1
    have e := noteD_inj hz
    subst e
    simp only [dflt, Option.isSome]
  · rename_i o
    have hz1 := congrArg Prod.fst hz
    simp only at hz1
    have hz := (h2 o hc _).symm.trans hz1
    have e := noteD_inj hz
    subst e
    simp only [dflt, Option.isSome]
theorem look_no {W : World} {B k : Nat} {D : DataW Unit} {l : List S39} (hown : W.ownsMap Try.prog 9 noteR B k D) (hH : HasMap D l) {nm : ByteArray} (hs : nm.size ≤ maxLen) :
    (Instr.lookup 76 (.map (some B)) (.string nm) false).run Try.prog W = .ok (noteV (dflt (cnt l nm))) W := by
  obtain ⟨v, ps, hrun, hv⟩ := hown.lookup nlaw Try.underlying76 (nzero W) (noteR_mk z39) (nkey hs)
  obtain ⟨h1, h2⟩ := hH.2 nm
  rw [hrun]
  obtain ⟨n, rfl, hz⟩ := noteR_inv hv
  cases hc : cnt l nm
  · rw [hc] at h1
    have h3 : D.atKey (.string nm.data.toList) (noteD z39) = noteD z39 := atKey_of_not_has h1 _
    have hz1 := congrArg Prod.fst hz
    simp only at hz1
    have hz := h3.symm.trans hz1
    have e := noteD_inj hz
    subst e
    simp only [dflt, Option.isSome]
  · rename_i o
    have hz1 := congrArg Prod.fst hz
    simp only at hz1
    have hz := (h2 o hc _).symm.trans hz1
    have e := noteD_inj hz
    subst e
    simp only [dflt, Option.isSome]
/-- 'old, there := m[name]' at the operation. -/
theorem wpList_look_ok (w : World) {ops : Array Oper} {rest : List Oper} {o : Oper} {a : Act} {Q : Exit → Act → World → Prop} (hg : o.guard = none) (m x : Operand) (hop : o.op = Op.lookup 76 m x true)
    (B k : Nat) (D : DataW Unit) (l : List S39) (hm : a.eval m = .map (some B)) (hown : w.ownsMap Try.prog 9 noteR B k D) (hH : HasMap D l) (nm : ByteArray) (hx : a.eval x = .string nm) (hs : nm.size ≤ maxLen) (r : Option S39) (hr : cnt l nm = r) (q : S39) (b : Bool) (hq : dflt r = q) (hb : r.isSome = b)
    (hK : wpList Try.prog ops Q rest (a.put o.dst (.tuple #[.agg #[.int .u64 q.f0, .string q.f1.f0, .string q.f1.f1, .bool q.f1.f2], .bool b])) w) :
    wpList Try.prog ops Q (o :: rest) a w := by
  subst hr
  subst hq
  subst hb
  refine wpList_plain hg fun K' hK' => ?_
  unfold Oper.wp
  simp [execOp, hop, hm, hx, look_ok hown hH hs, Result.andThen]
  exact hK' _ _ hK
end Go.Proofs.Ytipahpkdddijmaa.Q

-- M1
namespace Go.Proofs.Ytipahpkdddijmaa.Q
open Go.WideMaps Go.RowKit Go.Proofs.YtipahpkdddijmaaW.PrintWords Go.Proofs.YtipahpkdddijmaaW.PrintLast Go.Proofs.YtipahpkdddijmaaW.PrintMore Go.Maps
set_option linter.unusedVariables false
set_option linter.unusedSimpArgs false

/-- A note of a slice, its cells. -/
theorem at39 {w w' : World} {A : Option Addr} {l : List S39} (h : Kd.C k39 w A l.length l) (hb : Below w.heap.size w w') (k : Nat) (hk : k < l.length) :
    ∃ ad, A = some ad ∧ w'.cell? (ad.add (k * 4)) = some (.int .u64 l[k].f0) ∧ w'.cell? ⟨(ad.add (k * 4)).block, (ad.add (k * 4)).off + 1, none⟩ = some (.string l[k].f1.f0) ∧
      w'.cell? ⟨(ad.add (k * 4)).block, (ad.add (k * 4)).off + 2, none⟩ = some (.string l[k].f1.f1) ∧ w'.cell? ⟨(ad.add (k * 4)).block, (ad.add (k * 4)).off + 3, none⟩ = some (.bool l[k].f1.f2) := by
  obtain ⟨ad, e, h0, h1, h2, h3⟩ := at_T39 h (k : Int) (by omega) (by omega)
  have hr : rd_T39 l (k : Int) = l[k] := by simp [rd_T39, List.getD_eq_getElem?_getD, hk]
  rw [hr] at h0 h1 h2 h3
  exact ⟨ad, e, keepc hb h0, keepc hb h1, keepc hb h2, keepc hb h3⟩
/-- The round's own block, laid and written. -/
theorem owns_set4 {w : World} {P : Program} {k : TypeId} {R : Value → Option (DataW Unit × List MemPlace)} {b n g : Nat} {D : DataW Unit} (h : w.ownsMap P k R b n D) (hg : b ≠ g) (v0 v1 v2 v3 : Value) :
    ((((w.setCell ⟨g, 0, none⟩ v0).setCell ⟨g, 1, none⟩ v1).setCell ⟨g, 2, none⟩ v2).setCell ⟨g, 3, none⟩ v3).ownsMap P k R b n D :=
  (((h.setCell hg v0).setCell hg v1).setCell hg v2).setCell hg v3
theorem below_set4 {B g : Nat} {w w' : World} (h : Below B w w') (hg : B ≤ g) (v0 v1 v2 v3 : Value) :
    Below B w ((((w'.setCell ⟨g, 0, none⟩ v0).setCell ⟨g, 1, none⟩ v1).setCell ⟨g, 2, none⟩ v2).setCell ⟨g, 3, none⟩ v3) :=
  (((h.setCell (p := ⟨g, 0, none⟩) hg v0).setCell (p := ⟨g, 1, none⟩) hg v1).setCell (p := ⟨g, 2, none⟩) hg v2).setCell (p := ⟨g, 3, none⟩) hg v3
theorem blk_set4 {w : World} {g : Nat} {a b c d : Value} {t : TypeId} (h : w.heap[g]? = some (.cells #[a, b, c, d] t (0, 0))) (n : S39) :
    ((((w.setCell ⟨g, 0, none⟩ (.int .u64 n.f0)).setCell ⟨g, 1, none⟩ (.string n.f1.f0)).setCell ⟨g, 2, none⟩ (.string n.f1.f1)).setCell ⟨g, 3, none⟩ (.bool n.f1.f2)).heap[g]? = some (.cells #[.int .u64 n.f0, .string n.f1.f0, .string n.f1.f1, .bool n.f1.f2] t (0, 0)) :=
  blk_put (blk_put (blk_put (blk_put h 0 _ rfl) 1 _ rfl) 2 _ rfl) 3 _ rfl
theorem upd_put {n o : S39} (h : o.f0 ≤ n.f0) : upd n (some o) = some n := if_pos h
theorem upd_skip {n o : S39} (h : ¬ o.f0 ≤ n.f0) : upd n (some o) = some o := if_neg h
set_option maxHeartbeats 4000000 in
set_option maxRecDepth 100000 in
theorem counting.walk (A : Option Addr) (c : Nat) (l : List S39) (w : World) (hr : Kd.C k39 w A l.length l) (hc : l.length ≤ c) (hn : l.length ≤ 1000000) (hs : ∀ n ∈ l, n.f1.f0.size ≤ maxLen) :
    Calls Try.prog 39 #[.slice A l.length c] w fun e w' => ∃ D, e = .returned (.map (some w.heap.size)) ∧ w'.ownsMap Try.prog 9 noteR w.heap.size l.length D ∧ HasMap D l ∧ Below w.heap.size w w' := by
  have HR := Lib.hid hr
  have HS := Lib.hid hs
  clear hr hs
  have hmm := @run_makeMap Try.prog
  have HB0 : Hid (Below w.heap.size w (w.alloc (.map #[] 0))) := (Below.refl w.heap.size w).alloc (Nat.le_refl _) _
  have HM0 : Hid ((w.alloc (.map #[] 0)).ownsMap Try.prog 9 noteR w.heap.size 0 (.map [])) := World.ownsMap_made w _ _ _
  go_enter Try.func39, Try.ntmps39
  go_wp2
  clear hmm
  go_loopw [11] (fun i wr => ∃ (k : Nat) (D : DataW Unit), i = .int .i64 k ∧ k ≤ l.length ∧ Hid (HasMap D (l.take k)) ∧ Hid (wr.ownsMap Try.prog 9 noteR w.heap.size k D) ∧ Hid (Below w.heap.size w wr)) (fun i _ => l.length - (intOf i).toNat)
  case atStart => exact ⟨0, .map [], rfl, Nat.zero_le _, hasMap_nil, HM0, HB0⟩
  case round =>
    obtain ⟨k, D, rfl, hk, hH, hM, hB⟩ := hrel
    by_cases hlt : k < l.length
    · obtain ⟨ad, e', c0, c1, c2, c3⟩ := at39 HR.out hB.out k hlt
      subst e'
      have p0 : (0 : Int) ≤ (k : Int) := by omega
      have p1 : (k : Int) < (l.length : Int) := by omega
      have hsz : Hid (l[k].f1.f0.size ≤ maxLen) := HS.out _ (List.getElem_mem hlt)
      have hnx := Lib.hid (take_snoc l k hlt)
      have hBs : Hid (w.heap.size < wr.heap.size) := hM.out.lt
      generalize l[k] = n at *
      rcases hcn : cnt (l.take k) n.f1.f0 with _ | o
      · have HC := Lib.hid hcn
        have HH := Lib.hid (hasMap_put (n := n) hH.out (by rw [hcn]; rfl))
        clear hcn
        go_wp2_with (first | ((with_reducible refine gate_dst (N := 5) rfl ?_); refine box_event ?hg (N := 5) ?hd (cs := #[.int .u64 0, .string (⟨#[]⟩ : ByteArray), .string (⟨#[]⟩ : ByteArray), .bool false]) (t := 39) ?hr ?_; (case hd => rfl); (case hg => rfl); (case hr => first | (go_simp; done) | (go_simp; rfl)); intro g5 hg5 w5 hb5 hbel5; have HM5 := Lib.hid (owns_below hM.out hbel5); have HB5 := keepB hB hbel5; have G5 := Lib.hid (hg5 ▸ hBs.out : w.heap.size < g5); have K5 := Lib.hid hb5; have d0 := (blk_cell hb5 0).trans rfl; have d1 := (blk_cell hb5 1).trans rfl; have d2 := (blk_cell hb5 2).trans rfl; have d3 := (blk_cell hb5 3).trans rfl; have z0 := blk_frozen hb5 0; have z1 := blk_frozen hb5 1; have z2 := blk_frozen hb5 2; have z3 := blk_frozen hb5 3; clear hg5 hb5 hbel5) | ((with_reducible refine gate_dst (N := 6) rfl ?_); refine box_event ?hg (N := 6) ?hd (cs := #[.int .u64 0, .string (⟨#[]⟩ : ByteArray), .string (⟨#[]⟩ : ByteArray), .bool false]) (t := 39) ?hr ?_; (case hd => rfl); (case hg => rfl); (case hr => first | (go_simp; done) | (go_simp; rfl)); intro g6 hg6 w6 hb6 hbel6; have HM6 := Lib.hid (owns_below (owns_set4 HM5.out (Nat.ne_of_lt G5.out) _ _ _ _) hbel6); have HB6 := Lib.hid ((below_set4 HB5.out (Nat.le_of_lt G5.out) _ _ _ _).trans (hbel6.mono (below_set4 HB5.out (Nat.le_of_lt G5.out) _ _ _ _).size)); have K5' := Lib.hid (blk_below (blk_set4 K5.out n) hbel6); have h65 := (hg6 ▸ (Nat.ne_of_gt (blk_lt (blk_set4 K5.out n))) : g6 ≠ g5); have h56 := Ne.symm h65; have G6 := Lib.hid (hg6 ▸ (Nat.lt_trans G5.out (blk_lt (blk_set4 K5.out n))) : w.heap.size < g6); have e0 := (blk_cell hb6 0).trans rfl; have e1 := (blk_cell hb6 1).trans rfl; have e2 := (blk_cell hb6 2).trans rfl; have e3 := (blk_cell hb6 3).trans rfl; have y0 := blk_frozen hb6 0; have y1 := blk_frozen hb6 1; have y2 := blk_frozen hb6 2; have y3 := blk_frozen hb6 3; have f0 := (blk_cell K5'.out 0).trans rfl; have f1 := (blk_cell K5'.out 1).trans rfl; have f2 := (blk_cell K5'.out 2).trans rfl; have f3 := (blk_cell K5'.out 3).trans rfl; clear hg6 hb6 hbel6) | (at_lookup; refine wpList_look_ok _ rfl _ _ rfl w.heap.size k D (l.take k) rfl (owns_set4 HM5.out (Nat.ne_of_lt G5.out) _ _ _ _) hH.out n.f1.f0 rfl hsz.out none HC.out z39 false rfl rfl ?_) | (at_mapUpdate; refine wpList_mapUpdate_own _ rfl _ _ _ 76 rfl 9 39 nlaw Try.underlying76 noteR w.heap.size k D rfl (owns_set4 HM6.out (Nat.ne_of_lt G6.out) _ _ _ _) (by unfold maxLen; omega) _ _ _ rfl rfl (nkey hsz.out) _ [] (noteR_mk n) ?_; intro w7 hM7 hg7; have HM7 := Lib.hid hM7; have HB7 := Lib.hid ((below_set4 HB6.out (Nat.le_of_lt G6.out) _ _ _ _).grown hg7 (below_set4 HB6.out (Nat.le_of_lt G6.out) _ _ _ _).size (fun j hj => by cases hj; exact Nat.le_refl _)); clear hM7 hg7))
        go_roundw
        case rel => exact ⟨k + 1, _, by go_num, hlt, by unfold Hid; rw [hnx.out]; exact HH, HM7, HB7⟩
        case measure => simp [intOf]; omega
      · have HC := Lib.hid hcn
        by_cases hle : o.f0 ≤ n.f0
        · have HH := Lib.hid (hasMap_put (n := n) hH.out (by rw [hcn]; exact upd_put hle))
          clear hcn
          go_wp2_with (first | ((with_reducible refine gate_dst (N := 5) rfl ?_); refine box_event ?hg (N := 5) ?hd (cs := #[.int .u64 0, .string (⟨#[]⟩ : ByteArray), .string (⟨#[]⟩ : ByteArray), .bool false]) (t := 39) ?hr ?_; (case hd => rfl); (case hg => rfl); (case hr => first | (go_simp; done) | (go_simp; rfl)); intro g5 hg5 w5 hb5 hbel5; have HM5 := Lib.hid (owns_below hM.out hbel5); have HB5 := keepB hB hbel5; have G5 := Lib.hid (hg5 ▸ hBs.out : w.heap.size < g5); have K5 := Lib.hid hb5; have d0 := (blk_cell hb5 0).trans rfl; have d1 := (blk_cell hb5 1).trans rfl; have d2 := (blk_cell hb5 2).trans rfl; have d3 := (blk_cell hb5 3).trans rfl; have z0 := blk_frozen hb5 0; have z1 := blk_frozen hb5 1; have z2 := blk_frozen hb5 2; have z3 := blk_frozen hb5 3; clear hg5 hb5 hbel5) | ((with_reducible refine gate_dst (N := 6) rfl ?_); refine box_event ?hg (N := 6) ?hd (cs := #[.int .u64 0, .string (⟨#[]⟩ : ByteArray), .string (⟨#[]⟩ : ByteArray), .bool false]) (t := 39) ?hr ?_; (case hd => rfl); (case hg => rfl); (case hr => first | (go_simp; done) | (go_simp; rfl)); intro g6 hg6 w6 hb6 hbel6; have HM6 := Lib.hid (owns_below (owns_set4 HM5.out (Nat.ne_of_lt G5.out) _ _ _ _) hbel6); have HB6 := Lib.hid ((below_set4 HB5.out (Nat.le_of_lt G5.out) _ _ _ _).trans (hbel6.mono (below_set4 HB5.out (Nat.le_of_lt G5.out) _ _ _ _).size)); have K5' := Lib.hid (blk_below (blk_set4 K5.out n) hbel6); have h65 := (hg6 ▸ (Nat.ne_of_gt (blk_lt (blk_set4 K5.out n))) : g6 ≠ g5); have h56 := Ne.symm h65; have G6 := Lib.hid (hg6 ▸ (Nat.lt_trans G5.out (blk_lt (blk_set4 K5.out n))) : w.heap.size < g6); have e0 := (blk_cell hb6 0).trans rfl; have e1 := (blk_cell hb6 1).trans rfl; have e2 := (blk_cell hb6 2).trans rfl; have e3 := (blk_cell hb6 3).trans rfl; have y0 := blk_frozen hb6 0; have y1 := blk_frozen hb6 1; have y2 := blk_frozen hb6 2; have y3 := blk_frozen hb6 3; have f0 := (blk_cell K5'.out 0).trans rfl; have f1 := (blk_cell K5'.out 1).trans rfl; have f2 := (blk_cell K5'.out 2).trans rfl; have f3 := (blk_cell K5'.out 3).trans rfl; clear hg6 hb6 hbel6) | (at_lookup; refine wpList_look_ok _ rfl _ _ rfl w.heap.size k D (l.take k) rfl (owns_set4 HM5.out (Nat.ne_of_lt G5.out) _ _ _ _) hH.out n.f1.f0 rfl hsz.out (some o) HC.out o true rfl rfl ?_) | (at_mapUpdate; refine wpList_mapUpdate_own _ rfl _ _ _ 76 rfl 9 39 nlaw Try.underlying76 noteR w.heap.size k D rfl (owns_set4 HM6.out (Nat.ne_of_lt G6.out) _ _ _ _) (by unfold maxLen; omega) _ _ _ rfl rfl (nkey hsz.out) _ [] (noteR_mk n) ?_; intro w7 hM7 hg7; have HM7 := Lib.hid hM7; have HB7 := Lib.hid ((below_set4 HB6.out (Nat.le_of_lt G6.out) _ _ _ _).grown hg7 (below_set4 HB6.out (Nat.le_of_lt G6.out) _ _ _ _).size (fun j hj => by cases hj; exact Nat.le_refl _)); clear hM7 hg7))
          go_roundw
          case rel => exact ⟨k + 1, _, by go_num, hlt, by unfold Hid; rw [hnx.out]; exact HH, HM7, HB7⟩
          case measure => simp [intOf]; omega
        · have HH := Lib.hid (hasMap_skip (n := n) hH.out (by rw [hcn]; exact upd_skip hle))
          clear hcn
          go_wp2_with (first | ((with_reducible refine gate_dst (N := 5) rfl ?_); refine box_event ?hg (N := 5) ?hd (cs := #[.int .u64 0, .string (⟨#[]⟩ : ByteArray), .string (⟨#[]⟩ : ByteArray), .bool false]) (t := 39) ?hr ?_; (case hd => rfl); (case hg => rfl); (case hr => first | (go_simp; done) | (go_simp; rfl)); intro g5 hg5 w5 hb5 hbel5; have HM5 := Lib.hid (owns_below hM.out hbel5); have HB5 := keepB hB hbel5; have G5 := Lib.hid (hg5 ▸ hBs.out : w.heap.size < g5); have K5 := Lib.hid hb5; have d0 := (blk_cell hb5 0).trans rfl; have d1 := (blk_cell hb5 1).trans rfl; have d2 := (blk_cell hb5 2).trans rfl; have d3 := (blk_cell hb5 3).trans rfl; have z0 := blk_frozen hb5 0; have z1 := blk_frozen hb5 1; have z2 := blk_frozen hb5 2; have z3 := blk_frozen hb5 3; clear hg5 hb5 hbel5) | ((with_reducible refine gate_dst (N := 6) rfl ?_); refine box_event ?hg (N := 6) ?hd (cs := #[.int .u64 0, .string (⟨#[]⟩ : ByteArray), .string (⟨#[]⟩ : ByteArray), .bool false]) (t := 39) ?hr ?_; (case hd => rfl); (case hg => rfl); (case hr => first | (go_simp; done) | (go_simp; rfl)); intro g6 hg6 w6 hb6 hbel6; have HM6 := Lib.hid (owns_below (owns_set4 HM5.out (Nat.ne_of_lt G5.out) _ _ _ _) hbel6); have HB6 := Lib.hid ((below_set4 HB5.out (Nat.le_of_lt G5.out) _ _ _ _).trans (hbel6.mono (below_set4 HB5.out (Nat.le_of_lt G5.out) _ _ _ _).size)); have K5' := Lib.hid (blk_below (blk_set4 K5.out n) hbel6); have h65 := (hg6 ▸ (Nat.ne_of_gt (blk_lt (blk_set4 K5.out n))) : g6 ≠ g5); have h56 := Ne.symm h65; have G6 := Lib.hid (hg6 ▸ (Nat.lt_trans G5.out (blk_lt (blk_set4 K5.out n))) : w.heap.size < g6); have e0 := (blk_cell hb6 0).trans rfl; have e1 := (blk_cell hb6 1).trans rfl; have e2 := (blk_cell hb6 2).trans rfl; have e3 := (blk_cell hb6 3).trans rfl; have y0 := blk_frozen hb6 0; have y1 := blk_frozen hb6 1; have y2 := blk_frozen hb6 2; have y3 := blk_frozen hb6 3; have f0 := (blk_cell K5'.out 0).trans rfl; have f1 := (blk_cell K5'.out 1).trans rfl; have f2 := (blk_cell K5'.out 2).trans rfl; have f3 := (blk_cell K5'.out 3).trans rfl; clear hg6 hb6 hbel6) | (at_lookup; refine wpList_look_ok _ rfl _ _ rfl w.heap.size k D (l.take k) rfl (owns_set4 HM5.out (Nat.ne_of_lt G5.out) _ _ _ _) hH.out n.f1.f0 rfl hsz.out (some o) HC.out o true rfl rfl ?_))
          go_roundw
          case rel => exact ⟨k + 1, D, by go_num, hlt, by unfold Hid; rw [hnx.out]; exact HH, (owns_set4 HM6.out (Nat.ne_of_lt G6.out) _ _ _ _).mono (Nat.le_succ k), below_set4 HB6.out (Nat.le_of_lt G6.out) _ _ _ _⟩
          case measure => simp [intOf]; omega
    · obtain rfl : k = l.length := by omega
      go_wp2
      go_ret
      refine ⟨D, rfl, hM.out, ?_, hB.out⟩
      have h := hH.out
      rwa [List.take_length] at h
end Go.Proofs.Ytipahpkdddijmaa.Q

-- M2
namespace Go.Proofs.Ytipahpkdddijmaa.Q
open Go.WideMaps Go.RowKit Go.Proofs.YtipahpkdddijmaaW.PrintWords Go.Proofs.YtipahpkdddijmaaW.PrintLast Go.Proofs.YtipahpkdddijmaaW.PrintMore Go.Maps
set_option linter.unusedVariables false
set_option linter.unusedSimpArgs false

/-! ### the order of names -/
theorem cb_cons (a b : UInt8) (x y : List UInt8) : Go.Lib.compareBytes (a :: x) (b :: y) = if a < b then -1 else if b < a then 1 else Go.Lib.compareBytes x y := rfl
theorem u8_cases (a b : UInt8) : a < b ∨ a = b ∨ b < a := by
  rcases Nat.lt_trichotomy a.toNat b.toNat with h | h | h
  · exact Or.inl (UInt8.lt_iff_toNat_lt.2 h)
  · exact Or.inr (Or.inl (UInt8.toNat_inj.1 h))
  · exact Or.inr (Or.inr (UInt8.lt_iff_toNat_lt.2 h))
theorem u8_irrefl (a : UInt8) : ¬ a < a := fun h => Nat.lt_irrefl _ (UInt8.lt_iff_toNat_lt.1 h)
theorem u8_asymm {a b : UInt8} (h : a < b) : ¬ b < a := fun h' => by
  have h1 := UInt8.lt_iff_toNat_lt.1 h
  have h2 := UInt8.lt_iff_toNat_lt.1 h'
  omega
theorem u8_trans {a b c : UInt8} (h : a < b) (h' : b < c) : a < c := UInt8.lt_iff_toNat_lt.2 (Nat.lt_trans (UInt8.lt_iff_toNat_lt.1 h) (UInt8.lt_iff_toNat_lt.1 h'))
theorem cb_refl : ∀ x : List UInt8, Go.Lib.compareBytes x x = 0
  | [] => rfl
  | a :: x => by rw [cb_cons, if_neg (u8_irrefl a), if_neg (u8_irrefl a)]; exact cb_refl x
theorem cb_eq : ∀ {x y : List UInt8}, Go.Lib.compareBytes x y = 0 → x = y
  | [], [], _ => rfl
  | [], _ :: _, h => by exact absurd h (by simp [Go.Lib.compareBytes])
  | _ :: _, [], h => by exact absurd h (by simp [Go.Lib.compareBytes])
  | a :: x, b :: y, h => by
    rw [cb_cons] at h
    rcases u8_cases a b with h1 | rfl | h1
    · rw [if_pos h1] at h; exact absurd h (by decide)
    · rw [if_neg (u8_irrefl a), if_neg (u8_irrefl a)] at h; rw [cb_eq h]
    · rw [if_neg (u8_asymm h1), if_pos h1] at h; exact absurd h (by decide)
theorem cb_neg : ∀ x y : List UInt8, Go.Lib.compareBytes y x = - Go.Lib.compareBytes x y
  | [], [] => rfl
  | [], _ :: _ => rfl
  | _ :: _, [] => rfl
  | a :: x, b :: y => by
    rw [cb_cons, cb_cons]
    rcases u8_cases a b with h1 | rfl | h1
    · rw [if_neg (u8_asymm h1), if_pos h1, if_pos h1]; rfl
    · simp only [if_neg (u8_irrefl a)]; exact cb_neg x y
    · rw [if_pos h1, if_neg (u8_asymm h1), if_pos h1]
theorem cb_trans : ∀ {x y z : List UInt8}, Go.Lib.compareBytes x y < 0 → Go.Lib.compareBytes y z < 0 → Go.Lib.compareBytes x z < 0
  | [], [], _, h, _ => by exact absurd h (by decide)
  | [], _ :: _, [], _, h => by exact absurd h (by simp [Go.Lib.compareBytes])
  | [], _ :: _, _ :: _, _, _ => by simp [Go.Lib.compareBytes]
  | _ :: _, [], _, h, _ => by exact absurd h (by simp [Go.Lib.compareBytes])
  | _ :: _, _ :: _, [], _, h => by exact absurd h (by simp [Go.Lib.compareBytes])
  | a :: x, b :: y, c :: z, h, h' => by
    rw [cb_cons] at h h' ⊢
    rcases u8_cases a b with h1 | rfl | h1
    · rcases u8_cases b c with h2 | rfl | h2
      · rw [if_pos (u8_trans h1 h2)]; decide
      · rw [if_pos h1]; decide
      · rw [if_neg (u8_asymm h2), if_pos h2] at h'; exact absurd h' (by decide)
    · rcases u8_cases a c with h2 | rfl | h2
      · rw [if_pos h2]; decide
      · rw [if_neg (u8_irrefl a), if_neg (u8_irrefl a)] at h h' ⊢
        exact cb_trans h h'
      · rw [if_neg (u8_asymm h2), if_pos h2] at h'; exact absurd h' (by decide)
    · rw [if_neg (u8_asymm h1), if_pos h1] at h; exact absurd h (by decide)
/-- a stands ahead of b. -/
def ltN (a b : ByteArray) : Prop := Go.Lib.compareBytes a.data.toList b.data.toList < 0
theorem ltN_irrefl (a : ByteArray) : ¬ ltN a a := by unfold ltN; rw [cb_refl]; decide
theorem ltN_trans {a b c : ByteArray} (h : ltN a b) (h' : ltN b c) : ltN a c := cb_trans h h'
theorem ltN_asymm {a b : ByteArray} (h : ltN a b) : ¬ ltN b a := fun h' => ltN_irrefl a (ltN_trans h h')
theorem ltN_of {a b : ByteArray} (h : a ≠ b) (h' : ¬ ltN b a) : ltN a b := by
  unfold ltN at *
  have h1 := cb_neg a.data.toList b.data.toList
  have h2 : Go.Lib.compareBytes a.data.toList b.data.toList ≠ 0 := fun e => h (bytes_inj (cb_eq e))
  omega

/-! ### the list of those that count -/
structure IsCount (l ys : List S39) : Prop where
  up : ys.Pairwise (fun a b => ltN a.f1.f0 b.f1.f0)
  mem : ∀ n, n ∈ ys ↔ cnt l n.f1.f0 = some n
theorem sorted_ext : ∀ {xs ys : List S39}, xs.Pairwise (fun a b => ltN a.f1.f0 b.f1.f0) → ys.Pairwise (fun a b => ltN a.f1.f0 b.f1.f0) → (∀ n, n ∈ xs ↔ n ∈ ys) → xs = ys
  | [], [], _, _, _ => rfl
  | [], y :: ys, _, _, h => by exact absurd ((h y).2 List.mem_cons_self) (by simp)
  | x :: xs, [], _, _, h => by exact absurd ((h x).1 List.mem_cons_self) (by simp)
  | x :: xs, y :: ys, hx, hy, h => by
    rw [List.pairwise_cons] at hx hy
    have e : x = y := by
      rcases List.mem_cons.1 ((h x).1 List.mem_cons_self) with e | h1
      · exact e
      · rcases List.mem_cons.1 ((h y).2 List.mem_cons_self) with e | h2
        · exact e.symm
        · exact absurd (hx.1 y h2) (ltN_asymm (hy.1 x h1))
    subst e
    rw [sorted_ext hx.2 hy.2 (fun n => ?_)]
    constructor
    · intro hn
      rcases List.mem_cons.1 ((h n).1 (List.mem_cons_of_mem _ hn)) with rfl | h1
      · exact absurd (hx.1 n hn) (ltN_irrefl _)
      · exact h1
    · intro hn
      rcases List.mem_cons.1 ((h n).2 (List.mem_cons_of_mem _ hn)) with rfl | h1
      · exact absurd (hy.1 n hn) (ltN_irrefl _)
      · exact h1
theorem IsCount.unique {l l' ys zs : List S39} (h : IsCount l ys) (h' : IsCount l' zs) (e : ∀ nm, cnt l nm = cnt l' nm) : ys = zs :=
  sorted_ext h.up h'.up (fun n => by rw [h.mem, h'.mem, e])
theorem cnt_name : ∀ {l : List S39} {nm : ByteArray} {n : S39}, cnt l nm = some n → n.f1.f0 = nm := by
  intro l
  have gen : ∀ (l : List S39) (a : Option S39) (nm : ByteArray), (∀ n, a = some n → n.f1.f0 = nm) → ∀ n, l.foldl (cntStep nm) a = some n → n.f1.f0 = nm := by
    intro l
    induction l with
    | nil => intro a nm ha n h; exact ha n h
    | cons x l ih =>
      intro a nm ha n h
      refine ih _ nm (fun m hm => ?_) n h
      unfold cntStep at hm
      split at hm
      · rename_i e
        cases a with
        | none => injection hm with hm; rw [← hm]; exact e
        | some o =>
          unfold upd at hm
          simp only at hm
          split at hm
          · injection hm with hm; rw [← hm]; exact e
          · injection hm with hm; rw [← hm]; exact ha o rfl
      · exact ha m hm
  intro nm n h
  exact gen l none nm (fun _ h => by cases h) n h

/-! ### notes as their cells -/
instance : Inhabited S39 := ⟨z39⟩
def enc39 (n : S39) : List Value := [.int .u64 n.f0, .string n.f1.f0, .string n.f1.f1, .bool n.f1.f2]
def fl (l : List S39) : List Value := (l.map enc39).flatten
theorem enc_len (n : S39) : (enc39 n).length = 4 := rfl
theorem enc_one (n : S39) : ∀ v ∈ enc39 n, v.oneCell' = true := by
  intro v hv
  simp [enc39] at hv
  rcases hv with rfl | rfl | rfl | rfl <;> rfl
theorem fl_cons (n : S39) (l : List S39) : fl (n :: l) = enc39 n ++ fl l := rfl
theorem fl_append (l m : List S39) : fl (l ++ m) = fl l ++ fl m := by simp [fl]
theorem fl_snoc (l : List S39) (n : S39) : fl (l ++ [n]) = fl l ++ [.int .u64 n.f0, .string n.f1.f0, .string n.f1.f1, .bool n.f1.f2] := by rw [fl_append]; rfl
theorem fl_len : ∀ l : List S39, (fl l).length = l.length * 4
  | [] => rfl
  | n :: l => by rw [fl_cons, List.length_append, fl_len l, enc_len, List.length_cons]; omega
theorem fl_one (l : List S39) : ∀ v ∈ fl l, v.oneCell' = true := by
  intro v hv
  obtain ⟨c, hc, hv⟩ := List.mem_flatten.1 hv
  obtain ⟨n, _, rfl⟩ := List.mem_map.1 hc
  exact enc_one n v hv
theorem fl_at : ∀ (l : List S39) (j i : Nat), i < 4 → (fl l)[j * 4 + i]? = (l[j]?).bind (fun n => (enc39 n)[i]?)
  | [], j, i, hi => by simp [fl]
  | n :: l, j, i, hi => by
    rw [fl_cons]
    rcases j with _ | j
    · rw [List.getElem?_append_left (by rw [enc_len]; omega)]; simp
    · rw [List.getElem?_append_right (by rw [enc_len]; omega), enc_len, show (j + 1) * 4 + i - 4 = j * 4 + i by omega, fl_at l j i hi]
      simp
def RawAt (w : World) (ad : Addr) (cs : List Value) : Prop := ∀ (j : Nat) (u : Value), cs[j]? = some u → w.cell? (ad.add j) = some u
theorem raw_C {w : World} {ad : Addr} {l : List S39} (hr : RawAt w ad (fl l)) (hn : l.length ≤ 9223372036854775807) : Kd.C k39 w (some ad) l.length l := by
  refine ⟨rfl, hn, fun _ => ⟨ad, rfl, fun j x hx => ⟨enc39 x, rfl, k39_mk w x, fun i u hu => hr _ _ ?_⟩⟩⟩
  have hi : i < 4 := (List.getElem?_eq_some_iff.1 hu).1
  show (fl l)[j * 4 + i]? = some u
  rw [fl_at l j i hi, hx]
  exact hu
theorem C_raw {w : World} {ad : Addr} {l : List S39} (h : Kd.C k39 w (some ad) l.length l) : RawAt w ad (fl l) := by
  intro k u hu
  have hk := (List.getElem?_eq_some_iff.1 hu).1
  rw [fl_len] at hk
  have e1 : k = k / 4 * 4 + k % 4 := by omega
  have hm : k % 4 < 4 := Nat.mod_lt _ (by decide)
  rw [e1, fl_at l _ _ hm] at hu
  have hj : k / 4 < l.length := by omega
  rw [List.getElem?_eq_getElem hj, Option.bind_some] at hu
  obtain ⟨ad', c, e, _, hK, hc0⟩ := Kd.C_get h z39 ((k / 4 : Nat) : Int) (by omega) (by omega)
  injection e with e
  subst e
  rw [e1]
  obtain rfl := k39_open hK
  refine hc0 (k % 4) u ?_
  have hz : ((k / 4 : Nat) : Int).toNat = k / 4 := Int.toNat_natCast _
  rw [hz]
  simpa only [List.getD_eq_getElem?_getD, List.getElem?_eq_getElem hj, Option.getD_some, enc39] using hu
theorem own_raw {w : World} {base n g cap sz : Nat} {e : TypeId} {cs : List Value} (h : w.ownsRow base e sz (.slice (some ⟨g, 0, none⟩) n cap) n cs) : RawAt w ⟨g, 0, none⟩ cs := by
  intro j u hu
  rcases h.2 with ⟨h1, _⟩ | ⟨g', cap', cur, hv, hg, hh, hn, hm, hsz, hcur⟩
  · cases h1
  · injection hv with e1 e2 e3
    injection e1 with e1; injection e1 with e1
    subst e1
    have : (Addr.add ⟨g, 0, none⟩ j) = ⟨g, j, none⟩ := by unfold Addr.add; split <;> simp_all
    rw [this, blk_cell hh]
    have hj := (List.getElem?_eq_some_iff.1 hu).1
    rw [← hcur, List.getElem?_take] at hu
    split at hu
    · simpa using hu
    · cases hu
/-- A slice of notes of the call's own. -/
def NRow (w : World) (base : Nat) (v : Value) (l : List S39) : Prop := w.ownsRow base 39 4 v l.length (fl l)
theorem NRow.reads {w : World} {base : Nat} {v : Value} {l : List S39} (h : NRow w base v l) : ∃ A c, v = .slice A l.length c ∧ l.length ≤ c ∧ Kd.C k39 w A l.length l := by
  rcases h.2 with ⟨rfl, h0⟩ | ⟨g, cap, cur, rfl, hg, hh, hn, hm, hsz, hcur⟩
  · have : l = [] := List.length_eq_zero_iff.1 h0
    subst this
    exact ⟨none, 0, rfl, Nat.le_refl _, rfl, by decide, fun h => absurd h (by decide)⟩
  · exact ⟨_, _, rfl, hn, raw_C (own_raw h) (by unfold maxLen at hm; omega)⟩
theorem NRow.nil (w : World) (base : Nat) : NRow w base (.slice none 0 0) [] := ⟨rfl, Or.inl ⟨rfl, rfl⟩⟩
theorem NRow.below {w w1 : World} {base : Nat} {v : Value} {l : List S39} (h : NRow w base v l) (hb : Below w.heap.size w w1) : NRow w1 base v l := by
  obtain ⟨h1, h2⟩ := h
  refine ⟨h1, ?_⟩
  rcases h2 with h2 | ⟨g, cap, cur, e, hg, hh, r⟩
  · exact Or.inl h2
  · exact Or.inr ⟨g, cap, cur, e, hg, (hb.block g (blk_lt hh)).trans hh, r⟩
theorem NRow.mono {w : World} {base base' : Nat} {v : Value} {l : List S39} (h : NRow w base v l) (hb : base' ≤ base) : NRow w base' v l := by
  obtain ⟨h1, h2⟩ := h
  refine ⟨h1, ?_⟩
  rcases h2 with h2 | ⟨g, cap, cur, e, hg, r⟩
  · exact Or.inl h2
  · exact Or.inr ⟨g, cap, cur, e, Nat.le_trans hb hg, r⟩
end Go.Proofs.Ytipahpkdddijmaa.Q

-- Shelf
/-
  DERIVED: THE SHELF's CONTRACTS AT THIS DUMP, IN PLAIN WORDS (tools/lay-plain.mjs out of 'TryShelf.lean', which tools/lay-shelf.mjs wrote): THE SAME DECLARATIONS UNDER THE SAME NAMES: 'import', 'namespace', 'open', 'def', 'theorem' AND NOTHING ELSE: no command of the shelf's: FOR A HAND-IN. Each laying: the table of numbers ('.._ren') and one theorem, a field a fact of the dump's own or the kernel's comparison; each contract: ONE APPLICATION.
-/
namespace Go.Proofs
open Go.Shelf
def Try.lays169_ren : Go.Shelf.Ren := ⟨fun | 169 => 54 | n => n, fun | 70 => 87 | 9 => 9 | 0 => 0 | 72 => 90 | 37 => 88 | 127 => 114 | 3 => 3 | 5 => 5 | n => n, fun | n => n⟩
theorem Try.lays169 : Go.Proofs.Lays.n169 Try.prog Try.lays169_ren := {
  mixed := by kernel_rfl
  f169 := Try.func54.trans (congrArg some (by kernel_rfl))
  t0 := Try.underlying0
  a0 := Try.isAgg0
  z0 := Try.sizeOf0
  v0 := Try.zeroValue0
  t3 := Try.underlying3
  a3 := Try.isAgg3
  z3 := Try.sizeOf3
  v3 := Try.zeroValue3
  t9 := Try.underlying9
  a9 := Try.isAgg9
  z9 := Try.sizeOf9
  v9 := Try.zeroValue9
  t37 := Try.underlying88
  a37 := Try.isAgg88
  z37 := Try.sizeOf88
  v37 := Try.zeroValue88
  t70 := Try.underlying87
  a70 := Try.isAgg87
  z70 := Try.sizeOf87
  v70 := Try.zeroValue87
  t72 := Try.underlying90
  a72 := Try.isAgg90
  z72 := Try.sizeOf90
  v72 := Try.zeroValue90
  t127 := Try.underlying114
  a127 := Try.isAgg114
  z127 := Try.sizeOf114
  v127 := Try.zeroValue114 }
theorem Try.Builder_Extra_169 : Builder.Extra Try.prog Try.lays169_ren := {
  sizeBuilder := by kernel_rfl
  liesBuilder := by kernel_rfl
  t5 := Try.underlying5
  a5 := Try.isAgg5
  z5 := Try.sizeOf5
  v5 := Try.zeroValue5
  infoByte := by kernel_rfl
  cellsByte := by kernel_rfl
  sizeByte := by kernel_rfl
  neB5 := by decide }
open Go.RowKit in
open Go.RowKit in
open Go.RowKit in
/-- (*strings.Builder).String: "String returns the accumulated string.": WHATEVER THE BUILDER HOLDS. (LAID: no walk: one application.) -/
theorem Try.Builder_String_any (B b : Nat) (l : List UInt8) (w : World) (h : Lib.IsBuilder 90 5 B b (Lib.byteCells l) w) (hBw : B ≤ w.heap.size) :
    Calls Try.prog 54 #[.pointer (some ⟨b, 0, none⟩)] w fun e w' => e = .returned (.string ⟨l.toArray⟩) ∧ Below B w w' := Any.Builder_String_any Try.lays169 Try.Builder_Extra_169 B b l w h hBw
def Try.lays125_ren : Go.Shelf.Ren := ⟨fun | 125 => 64 | 128 => 79 | 129 => 80 | n => n, fun | 46 => 112 | 3 => 3 | 51 => 127 | 53 => 35 | 4 => 4 | 5 => 5 | 9 => 9 | n => n, fun | n => n⟩
theorem Try.lays125 : Go.Proofs.Lays.n125 Try.prog Try.lays125_ren := {
  mixed := by kernel_rfl
  f125 := Try.func64.trans (congrArg some (by kernel_rfl))
  f128 := Try.func79.trans (congrArg some (by kernel_rfl))
  f129 := Try.func80.trans (congrArg some (by kernel_rfl))
  t3 := Try.underlying3
  a3 := Try.isAgg3
  z3 := Try.sizeOf3
  v3 := Try.zeroValue3
  t4 := Try.underlying4
  a4 := Try.isAgg4
  z4 := Try.sizeOf4
  v4 := Try.zeroValue4
  t5 := Try.underlying5
  a5 := Try.isAgg5
  z5 := Try.sizeOf5
  v5 := Try.zeroValue5
  t9 := Try.underlying9
  a9 := Try.isAgg9
  z9 := Try.sizeOf9
  v9 := Try.zeroValue9
  t46 := Try.underlying112
  a46 := Try.isAgg112
  z46 := Try.sizeOf112
  v46 := Try.zeroValue112
  t51 := Try.underlying127
  a51 := Try.isAgg127
  z51 := Try.sizeOf127
  v51 := Try.zeroValue127
  t53 := Try.underlying35
  a53 := Try.isAgg35
  z53 := Try.sizeOf35
  v53 := Try.zeroValue35 }
/-- bits.Len: "Len returns the minimum number of bits required to represent x; the result is 0 for x == 0.": IT RETURNS 'Lib.bitLen x'; the world is as it was. (A uint has 64 bits in the model.) ITS CALLEE bits.Len64 IS MET BY ITS OWN CONTRACT OFF THE SHELF (lay that first). (LAID: no walk: one application.) -/
theorem Try.bits_Len (x : Int) (w : World) (h0 : 0 ≤ x) (h1 : x ≤ 18446744073709551615) :
    Calls Try.prog 64 #[.int .u64 x] w fun e w' => e = .returned (.int .i64 (Lib.bitLen x.toNat)) ∧ w' = w := Any.bits_Len Try.lays125 x w h0 h1
open Go.RowKit in
def Try.lays106_ren : Go.Shelf.Ren := ⟨fun | 106 => 42 | 213 => 65 | 265 => 81 | n => n, fun | 9 => 9 | 3 => 3 | n => n, fun | n => n⟩
theorem Try.lays106 : Go.Proofs.Lays.n106 Try.prog Try.lays106_ren := {
  mixed := by kernel_rfl
  f106 := Try.func42.trans (congrArg some (by kernel_rfl))
  f213 := Try.func65.trans (congrArg some (by kernel_rfl))
  f265 := Try.func81.trans (congrArg some (by kernel_rfl))
  t3 := Try.underlying3
  a3 := Try.isAgg3
  z3 := Try.sizeOf3
  v3 := Try.zeroValue3
  t9 := Try.underlying9
  a9 := Try.isAgg9
  z9 := Try.sizeOf9
  v9 := Try.zeroValue9 }
open Go.RowKit in
/-- strings.Compare: "Compare returns an integer comparing two strings lexicographically. The result will be 0 if a == b, -1 if a < b, and +1 if a > b.": IT RETURNS 'Lib.compareBytes a b'; the world is as it was. (LAID: no walk: one application.) -/
theorem Try.strings_Compare (a b : ByteArray) (w : World) :
    Calls Try.prog 42 #[.string a, .string b] w fun e w' => e = .returned (.int .i64 (Lib.compareBytes a.data.toList b.data.toList)) ∧ w' = w := Any.strings_Compare Try.lays106 a b w
open Go.RowKit in
open Go.RowKit in
open Go.RowKit in
def Try.sortNotes_ren : Go.Shelf.Ren := ⟨fun | 6 => 40 | 15 => 64 | 14 => 63 | 28 => 79 | 29 => 80 | 20 => 71 | 21 => 72 | 22 => 73 | 23 => 74 | 24 => 75 | 25 => 76 | 26 => 77 | 27 => 78 | 46 => 83 | 47 => 84 | 48 => 85 | 49 => 86 | 50 => 87 | 57 => 88 | n => n, fun | 22 => 22 | 24 => 39 | 25 => 80 | 3 => 3 | 39 => 112 | 0 => 0 | 53 => 127 | 55 => 35 | 4 => 4 | 46 => 120 | 45 => 119 | 50 => 124 | 5 => 5 | 9 => 9 | 66 => 131 | 70 => 135 | 76 => 137 | 77 => 105 | n => n, fun | n => n⟩
theorem Try.sortNotes : Go.Proofs.SlLaysF0.n6 Try.prog Try.sortNotes_ren := {
  mixed := by kernel_rfl
  f6 := ⟨Try.f40.name, by decide, Try.func40.trans (congrArg some (by kernel_rfl))⟩
  f14 := ⟨Try.f63.name, by decide, Try.func63.trans (congrArg some (by kernel_rfl))⟩
  f15 := Try.func64.trans (congrArg some (by kernel_rfl))
  f20 := ⟨Try.f71.name, by decide, Try.func71.trans (congrArg some (by kernel_rfl))⟩
  f21 := ⟨Try.f72.name, by decide, Try.func72.trans (congrArg some (by kernel_rfl))⟩
  f22 := ⟨Try.f73.name, by decide, Try.func73.trans (congrArg some (by kernel_rfl))⟩
  f23 := ⟨Try.f74.name, by decide, Try.func74.trans (congrArg some (by kernel_rfl))⟩
  f24 := ⟨Try.f75.name, by decide, Try.func75.trans (congrArg some (by kernel_rfl))⟩
  f25 := ⟨Try.f76.name, by decide, Try.func76.trans (congrArg some (by kernel_rfl))⟩
  f26 := ⟨Try.f77.name, by decide, Try.func77.trans (congrArg some (by kernel_rfl))⟩
  f27 := ⟨Try.f78.name, by decide, Try.func78.trans (congrArg some (by kernel_rfl))⟩
  f28 := Try.func79.trans (congrArg some (by kernel_rfl))
  f29 := Try.func80.trans (congrArg some (by kernel_rfl))
  f46 := ⟨Try.f83.name, by decide, Try.func83.trans (congrArg some (by kernel_rfl))⟩
  f47 := Try.func84.trans (congrArg some (by kernel_rfl))
  f48 := Try.func85.trans (congrArg some (by kernel_rfl))
  f49 := ⟨Try.f86.name, by decide, Try.func86.trans (congrArg some (by kernel_rfl))⟩
  f50 := ⟨Try.f87.name, by decide, Try.func87.trans (congrArg some (by kernel_rfl))⟩
  f57 := ⟨Try.f88.name, by decide, Try.func88.trans (congrArg some (by kernel_rfl))⟩
  t0 := Try.underlying0
  a0 := Try.isAgg0
  z0 := Try.sizeOf0
  v0 := Try.zeroValue0
  t3 := Try.underlying3
  a3 := Try.isAgg3
  z3 := Try.sizeOf3
  v3 := Try.zeroValue3
  t4 := Try.underlying4
  a4 := Try.isAgg4
  z4 := Try.sizeOf4
  v4 := Try.zeroValue4
  t5 := Try.underlying5
  a5 := Try.isAgg5
  z5 := Try.sizeOf5
  v5 := Try.zeroValue5
  t9 := Try.underlying9
  a9 := Try.isAgg9
  z9 := Try.sizeOf9
  v9 := Try.zeroValue9
  t22 := Try.underlying22
  a22 := Try.isAgg22
  z22 := Try.sizeOf22
  v22 := Try.zeroValue22
  t25 := Try.underlying80
  a25 := Try.isAgg80
  z25 := Try.sizeOf80
  v25 := Try.zeroValue80
  t39 := Try.underlying112
  a39 := Try.isAgg112
  z39 := Try.sizeOf112
  v39 := Try.zeroValue112
  t45 := Try.underlying119
  a45 := Try.isAgg119
  z45 := Try.sizeOf119
  v45 := Try.zeroValue119
  t46 := Try.underlying120
  a46 := Try.isAgg120
  z46 := Try.sizeOf120
  v46 := Try.zeroValue120
  t50 := Try.underlying124
  a50 := Try.isAgg124
  z50 := Try.sizeOf124
  v50 := Try.zeroValue124
  t53 := Try.underlying127
  a53 := Try.isAgg127
  z53 := Try.sizeOf127
  v53 := Try.zeroValue127
  t55 := Try.underlying35
  a55 := Try.isAgg35
  z55 := Try.sizeOf35
  v55 := Try.zeroValue35
  t66 := Try.underlying131
  a66 := Try.isAgg131
  z66 := Try.sizeOf131
  v66 := Try.zeroValue131
  t70 := Try.underlying135
  a70 := Try.isAgg135
  z70 := Try.sizeOf135
  v70 := Try.zeroValue135
  t76 := Try.underlying137
  a76 := Try.isAgg137
  z76 := Try.sizeOf137
  v76 := Try.zeroValue137
  t77 := Try.underlying105
  a77 := Try.isAgg105
  z77 := Try.sizeOf105
  v77 := Try.zeroValue105 }
end Go.Proofs

-- M3
namespace Go.Proofs.Ytipahpkdddijmaa.Q
open Go.WideMaps Go.RowKit Go.Proofs.YtipahpkdddijmaaW.PrintWords Go.Proofs.YtipahpkdddijmaaW.PrintLast Go.Proofs.YtipahpkdddijmaaW.PrintMore Go.Maps Go.Sort
set_option linter.unusedVariables false
set_option linter.unusedSimpArgs false

/-! ### a slice of notes, sorted by the library -/
def cf39 (x y : S39) : Int := Go.Lib.compareBytes x.f1.f0.data.toList y.f1.f0.data.toList
instance (a b : ByteArray) : Decidable (ltN a b) := inferInstanceAs (Decidable (Go.Lib.compareBytes a.data.toList b.data.toList < 0))
theorem ltOf39 (x y : S39) : ltOf cf39 x y = decide (ltN x.f1.f0 y.f1.f0) := rfl
theorem swo39 : SWO (ltOf cf39) where
  irrefl x := by rw [ltOf39]; exact decide_eq_false (ltN_irrefl _)
  trans x y z h1 h2 := by rw [ltOf39] at *; exact decide_eq_true (ltN_trans (of_decide_eq_true h1) (of_decide_eq_true h2))
  ntrans x y z h1 h2 := by
    rw [ltOf39] at *
    refine decide_eq_false fun h => ?_
    have h3 := of_decide_eq_false h1
    have h4 := of_decide_eq_false h2
    by_cases e : x.f1.f0 = y.f1.f0
    · rw [← e] at h4; exact h4 h
    · exact h4 (ltN_trans (ltN_of (Ne.symm e) h3) h)
set_option maxHeartbeats 1000000 in
theorem closure41 (x y : S39) (W : World) : Calls Try.prog 41 #[.agg (enc39 x).toArray, .agg (enc39 y).toArray] W fun e w' => e = .returned (.int .i64 (cf39 x y)) ∧ ∃ q os', w' = grow (W.drewN q) os' := by
  have hcon := fun W' => Try.strings_Compare x.f1.f0 y.f1.f0 W'
  show Calls Try.prog 41 #[.agg #[.int .u64 x.f0, .string x.f1.f0, .string x.f1.f1, .bool x.f1.f2], .agg #[.int .u64 y.f0, .string y.f1.f0, .string y.f1.f1, .bool y.f1.f2]] W _
  unfold cf39
  generalize Go.Lib.compareBytes x.f1.f0.data.toList y.f1.f0.data.toList = r at hcon ⊢
  go_enter Try.func41, Try.ntmps41
  go_wp2_with (go_at_call 42; refine (hcon _).mono ?_; rintro e w' ⟨rfl, rfl⟩)
  go_ret
  exact ⟨rfl, 0, _, by rw [alloc_eq_grow, alloc_eq_grow, grow_grow]; rfl⟩
theorem cmpLays41 (blk off size : Nat) (w : World) : CmpLays Try.prog 41 #[] enc39 4 cf39 blk off size w := fun _ _ _ _ x y => closure41 x y _

theorem flatK_fl (l : List S39) : (flatK enc39 4 l.toArray).toList = fl l := by
  apply List.ext_getElem?
  intro t
  have e1 : t = t / 4 * 4 + t % 4 := by omega
  have hm : t % 4 < 4 := Nat.mod_lt _ (by decide)
  by_cases ht : t < l.length * 4
  · have hj : t / 4 < l.length := by omega
    rw [e1, fl_at l _ _ hm, List.getElem?_eq_getElem hj, Option.bind_some, ← e1]
    have h2 := get_flatK enc39 4 l.toArray t (by simpa using ht)
    have h3 : t < (flatK enc39 4 l.toArray).toList.length := by simpa using ht
    rw [List.getElem?_eq_getElem h3]
    have h4 : (flatK enc39 4 l.toArray)[t]! = (flatK enc39 4 l.toArray).toList[t] := by
      rw [getElem!_pos _ t (by simpa using ht)]; simp
    rw [h4] at h2
    rw [h2]
    have h5 : l.toArray[t / 4]! = l[t / 4] := by simp [hj]
    rw [h5]
    have h6 : t % 4 < (enc39 l[t / 4]).length := hm
    rw [getElem!_pos (enc39 l[t / 4]) (t % 4) h6, List.getElem?_eq_getElem h6]
  · rw [List.getElem?_eq_none (by simp; omega), List.getElem?_eq_none (by rw [fl_len]; omega)]
theorem holds_own {w : World} {g : Nat} {cur : Array Value} {l : List S39} (hb : w.heap[g]? = some (.cells cur 39 (0, 0))) (ht : cur.toList.take (l.length * 4) = fl l) : HoldsK enc39 4 w g 0 l.toArray := by
  intro j hj
  have hj' : j < l.length * 4 := by simpa using hj
  refine ⟨?_, by simp [World.frozen?, hb]⟩
  have h1 : (cur.toList.take (l.length * 4))[j]? = (flatK enc39 4 l.toArray).toList[j]? := by rw [ht, flatK_fl]
  rw [List.getElem?_take_of_lt hj'] at h1
  rw [Nat.zero_add, blk_cell hb, ← Array.getElem?_toList, h1, Array.getElem?_toList, Array.getElem?_eq_getElem hj]
  rw [getElem!_pos _ j hj]
  rfl
theorem heap_sortedK {w : World} {g n : Nat} {os : Array Obj} {cur : Array Value} {e : TypeId} {fr : Nat × Nat} (d : Array S39) (hb : w.heap[g]? = some (.cells cur e fr)) :
    (sortWorldK enc39 4 w g 0 n d os).heap[g]? = some (.cells (putCells id 0 (flatK enc39 4 d) cur) e fr) := by
  have hg : g < w.heap.size := (Array.getElem?_eq_some_iff.1 hb).1
  unfold sortWorldK
  rw [heap_grow_old _ _ (by simpa [putRowK] using hg)]
  simp [putRowK, putRow, mapBlock, Go.Sort.ahead, Array.getElem?_modify, hb, onCells]
theorem grownBy_sortedK {w : World} {g n : Nat} {os : Array Obj} (d : Array S39) : w.grownBy (sortWorldK enc39 4 w g 0 n d os) (some g) := by
  refine ⟨rfl, rfl, rfl, by simp [sortWorldK, putRowK], fun k hk hne => ?_⟩
  unfold sortWorldK
  rw [heap_grow_old _ _ (by simpa [putRowK] using hk)]
  have : g ≠ k := fun e => hne (by rw [e])
  simp [putRowK, putRow, mapBlock, Go.Sort.ahead, Array.getElem?_modify, this]
theorem take_putCellsK (cur : Array Value) (ts : List S39) (h : ts.length * 4 ≤ cur.size) : (putCells id 0 (flatK enc39 4 ts.toArray) cur).toList.take (ts.length * 4) = fl ts := by
  rw [← flatK_fl]
  apply List.ext_getElem?
  intro j
  by_cases hj : j < ts.length * 4
  · rw [List.getElem?_take_of_lt hj, Array.getElem?_toList]
    have h3 : j < (flatK enc39 4 ts.toArray).size := by simpa using hj
    simp [putCells, hj, show j < cur.size by omega, h3]
  · rw [List.getElem?_take_eq_none (by omega), List.getElem?_eq_none (by simp; omega)]
theorem row_sorted {w : World} {base g cap n : Nat} {os : Array Obj} {cur : Array Value} {ss ts : List S39} (hl : ts.length = ss.length) (hbase : base ≤ g) (hb : w.heap[g]? = some (.cells cur 39 (0, 0)))
    (h1 : ss.length ≤ cap) (h2 : cap ≤ maxLen) (h3 : cur.size = cap * 4) :
    NRow (sortWorldK enc39 4 w g 0 n ts.toArray os) base (.slice (some ⟨g, 0, none⟩) ss.length cap) ts := by
  refine ⟨by rw [fl_len], .inr ⟨g, cap, _, by rw [hl], hbase, heap_sortedK _ hb, by omega, h2, by simp [putCells, h3], ?_⟩⟩
  exact take_putCellsK cur ts (by omega)
end Go.Proofs.Ytipahpkdddijmaa.Q

-- M4
namespace Go.Proofs.Ytipahpkdddijmaa.Q
open Go.WideMaps Go.RowKit Go.Proofs.YtipahpkdddijmaaW.PrintWords Go.Proofs.YtipahpkdddijmaaW.PrintLast Go.Proofs.YtipahpkdddijmaaW.PrintMore Go.Maps Go.Sort
set_option linter.unusedVariables false
set_option linter.unusedSimpArgs false

/-! ### slices.SortFunc at these notes -/
set_option maxHeartbeats 2000000 in
theorem ins_none (p : Option Addr) (cap : Nat) (fv : Value) (w : World) : Calls Try.prog 71 #[.slice p 0 cap, .int .i64 0, .int .i64 0, fv] w fun e w' => e = .returned (.tuple #[]) ∧ w' = w := by
  go_enter Try.func71, Try.ntmps71
  go_wp2
  refine wp_loop_rounds 1 ?_
  rw [rounds_succ]
  go_wp2
  go_end0
  exact ⟨rfl, rfl⟩
set_option maxHeartbeats 2000000 in
theorem pdq_none (p : Option Addr) (cap : Nat) (lim : Int) (fv : Value) (w : World) : Calls Try.prog 63 #[.slice p 0 cap, .int .i64 0, .int .i64 0, .int .i64 lim, fv] w fun e w' => e = .returned (.tuple #[]) ∧ w' = w := by
  have hi := fun W => ins_none p cap fv W
  go_enter Try.func63, Try.ntmps63
  go_wp2
  refine wp_loop_rounds 1 ?_
  rw [rounds_succ]
  go_wp2_with (go_at_call 71; refine (hi _).mono ?_; rintro e w' ⟨rfl, rfl⟩)
  (try simp only [Exit.inBlock, Exit.then]); refine bodyPost_ret (results_none rfl _ _ _) rfl ?_
  exact ⟨rfl, rfl⟩
set_option maxHeartbeats 2000000 in
theorem sort_none (p : Option Addr) (cap : Nat) (fv : Value) (w : World) : Calls Try.prog 40 #[.slice p 0 cap, fv] w fun e w' => e = .returned (.tuple #[]) ∧ w' = w := by
  have hp := fun lim W => pdq_none p cap lim fv W
  have hl : ∀ W, Calls Try.prog 64 #[.int .u64 0] W fun e w' => e = .returned (.int .i64 (Go.Lib.bitLen 0 : Nat)) ∧ w' = W := fun W =>
    Any.bits_Len (SlLaysF0.n15.bits (P := Try.prog) (ρ := Try.sortNotes_ren) { Try.sortNotes with }) 0 W (by omega) (by omega)
  go_enter Try.func40, Try.ntmps40
  go_wp2_with (first | (go_at_call 64; refine (hl _).mono ?_; rintro e w' ⟨rfl, rfl⟩) | (go_at_call 63; refine (hp _ _).mono ?_; rintro e w' ⟨rfl, rfl⟩))
  go_end0
  exact ⟨rfl, rfl⟩
/-- A slice of notes of the call's own is sorted by their names. -/
theorem sort_notes (base : Nat) (v : Value) (ys : List S39) (w : World) (h : NRow w base v ys) (hn : ys.length ≤ 1000000) :
    Calls Try.prog 40 #[v, .func (.func 41) #[] #[]] w fun e w' => e = .returned (.tuple #[]) ∧ ∃ zs, NRow w' base v zs ∧ zs.Perm ys ∧ zs.Pairwise (fun a b => ¬ ltN b.f1.f0 a.f1.f0) ∧ w.grownBy w' v.ownBlock := by
  rcases h.2 with ⟨rfl, h0⟩ | ⟨g, cap, cur, rfl, hg, hh, h1, h2, h3, h4⟩
  · refine (sort_none none 0 _ w).mono ?_
    rintro e w' ⟨rfl, rfl⟩
    have : ys = [] := List.length_eq_zero_iff.1 h0
    subst this
    exact ⟨rfl, [], h, List.Perm.refl _, List.Pairwise.nil, World.grownBy.refl _ _⟩
  · have eg : ∀ args w, (callFunc 41 args).run Try.prog w = .ok (.enter 41 args) w := enters_of Try.func41 (by kernel_rfl) rfl
    have hcon := AnyQ.slices_SortFunc Try.sortNotes 4 Try.isAgg39 Try.sizeOf39 enc39 enc_len enc_one cf39 swo39 41 #[] g 0 cap ys.toArray w eg (cmpLays41 g 0 _ w) (holds_own hh h4) (blk_lt hh) (by simp; omega)
    change Calls Try.prog 40 _ _ _ at hcon
    simp only [List.size_toArray] at hcon
    refine hcon.mono ?_
    rintro e w' ⟨rfl, d', n, os, hp, hs, rfl⟩
    obtain ⟨p1, p2, p3⟩ := hp
    simp only [List.size_toArray] at p1
    have p4 : d'.toList.Perm ys := by
      have e1 : d'.extract 0 ys.length = d' := by rw [← p1]; exact Array.extract_size
      have e2 : ys.toArray.extract 0 ys.length = ys.toArray := by
        simp
      rw [e1, e2] at p3
      exact p3
    refine ⟨rfl, d'.toList, ?_, p4, ?_, grownBy_sortedK d'⟩
    · have := row_sorted (n := n) (os := os) (ts := d'.toList) (by simpa using p1) hg hh h1 h2 h3
      simpa using this
    · rw [List.pairwise_iff_getElem]
      intro i j hi hj hij
      have h5 := hs i j (Nat.zero_le _) hij (by simp at hj; omega)
      rw [ltOf39] at h5
      have h6 := of_decide_eq_false h5
      simp at hi hj
      rw [getElem!_pos d' i hi, getElem!_pos d' j hj] at h6
      simpa using h6
end Go.Proofs.Ytipahpkdddijmaa.Q

-- M5
namespace Go.Proofs.Ytipahpkdddijmaa.Q
open Go.WideMaps Go.RowKit Go.Proofs.YtipahpkdddijmaaW.PrintWords Go.Proofs.YtipahpkdddijmaaW.PrintLast Go.Proofs.YtipahpkdddijmaaW.PrintMore Go.Maps Go.Sort
set_option linter.unusedVariables false
set_option linter.unusedSimpArgs false

/-! ### change.Count -/
theorem nkey_inv {key : Value} {kl : Lit} (h : keyOf Try.prog 9 key = some kl) : ∃ s : ByteArray, key = .string s ∧ kl = .string s.data.toList ∧ s.size ≤ maxLen := by
  cases key <;> simp [keyOf, Try.underlying9, mapKey] at h
  rename_i s
  exact ⟨s, rfl, h.2.symm, h.1⟩
theorem below_grown {w w' : World} (h : Below w.heap.size w w') : w.grownBy w' none := ⟨h.os, h.tape, h.output, h.size, fun k hk _ => h.block k hk⟩
/-- What was met of the map so far. -/
def Coll (l : List S39) (left : Lit → Bool) (ys : List S39) : Prop :=
  (∀ y ∈ ys, cnt l y.f1.f0 = some y ∧ left (.string y.f1.f0.data.toList) = false) ∧ (∀ n, cnt l n.f1.f0 = some n → left (.string n.f1.f0.data.toList) = false → n ∈ ys) ∧ ys.Pairwise (fun a b => a.f1.f0 ≠ b.f1.f0)
theorem coll_start {D : DataW Unit} {l : List S39} (h : HasMap D l) : Coll l (Maps.has D) [] :=
  ⟨fun y hy => by simp at hy, fun n hn hl => by rw [(h.2 n.f1.f0).1, hn] at hl; exact absurd hl (by simp), List.Pairwise.nil⟩
theorem lit_same {a b : ByteArray} (h : (Lit.string a.data.toList).sameKey (.string b.data.toList) = true) : a = b := by
  have := Go.WideAt.sameKey_eq h
  injection this with this
  exact bytes_inj this
theorem lit_self (a : ByteArray) : (Lit.string a.data.toList).sameKey (.string a.data.toList) = true := Go.WideAt.sameKey_self (by exact trivial)
theorem coll_step {D : DataW Unit} {l ys : List S39} {left : Lit → Bool} {s : ByteArray} {n : S39} (h : HasMap D l) (hC : Coll l left ys) (hl : left (.string s.data.toList) = true) (hat : ∀ z, D.atKey (.string s.data.toList) z = noteD n) :
    Coll l (fun z => left z && !z.sameKey (.string s.data.toList)) (ys ++ [n]) ∧ n.f1.f0 = s := by
  have h1 : Maps.has D (.string s.data.toList) = true := has_true_of_atKey hat
  obtain ⟨m, hm⟩ : ∃ m, cnt l s = some m := by
    rw [(h.2 s).1] at h1
    exact Option.isSome_iff_exists.1 h1
  have hmn : m = n := noteD_inj (((h.2 s).2 m hm (noteD z39)).symm.trans (hat _))
  subst hmn
  have hs := cnt_name hm
  refine ⟨⟨fun y hy => ?_, fun x hx hlx => ?_, ?_⟩, hs⟩
  · rcases List.mem_append.1 hy with hy | hy
    · obtain ⟨a1, a2⟩ := hC.1 y hy
      exact ⟨a1, by show (left _ && _) = false; rw [a2]; rfl⟩
    · obtain rfl := List.mem_singleton.1 hy
      rw [hs]
      refine ⟨hm, ?_⟩
      simp only [lit_self, Bool.not_true, Bool.and_false]
  · simp only [Bool.and_eq_false_iff, Bool.not_eq_false'] at hlx
    rcases hlx with hlx | hlx
    · exact List.mem_append_left _ (hC.2.1 x hx hlx)
    · have e := lit_same hlx
      rw [e, hm] at hx
      injection hx with hx
      subst hx
      exact List.mem_append_right _ (List.mem_singleton.2 rfl)
  · rw [List.pairwise_append]
    refine ⟨hC.2.2, List.pairwise_singleton _ _, fun a ha b hb e => ?_⟩
    obtain rfl := List.mem_singleton.1 hb
    have h2 := (hC.1 a ha).2
    rw [e, hs, hl] at h2
    cases h2
theorem coll_end {l ys zs : List S39} {left : Lit → Bool} (hC : Coll l left ys) (hl : ∀ z, left z = false) (hp : zs.Perm ys) (hs : zs.Pairwise (fun a b => ¬ ltN b.f1.f0 a.f1.f0)) : IsCount l zs := by
  refine ⟨?_, fun n => ⟨fun hn => (hC.1 n (hp.mem_iff.1 hn)).1, fun hn => hp.mem_iff.2 (hC.2.1 n hn (hl _))⟩⟩
  have h1 : zs.Pairwise (fun a b => a.f1.f0 ≠ b.f1.f0) := (hp.pairwise_iff (fun {_ _} h => Ne.symm h)).2 hC.2.2
  exact (h1.and hs).imp (fun {a b} h => ltN_of h.1 h.2)
theorem NRow.grown {w w1 : World} {base : Nat} {v : Value} {l : List S39} {row : Option Nat} (h : NRow w base v l) (hg : w.grownBy w1 row) (hne : ∀ g, v.ownBlock = some g → some g ≠ row) : NRow w1 base v l := by
  obtain ⟨h1, h2⟩ := h
  refine ⟨h1, ?_⟩
  rcases h2 with h2 | ⟨g, cap, cur, e, hg', hh, r⟩
  · exact Or.inl h2
  · exact Or.inr ⟨g, cap, cur, e, hg', (hg.block g (blk_lt hh) (hne g (by rw [e]; rfl))).trans hh, r⟩
theorem NRow.ne_low {w : World} {base : Nat} {v : Value} {l : List S39} (h : NRow w base v l) {b : Nat} (hb : b < base) : some b ≠ v.ownBlock := fun e => by
  have := own_base h b e.symm
  omega
theorem NRow.ne_iter {w : World} {base : Nat} {v : Value} {l : List S39} (h : NRow w base v l) {P : Program} {k : TypeId} {R : Value → Option (DataW Unit × List MemPlace)} {b r n : Nat} {D : DataW Unit} {left : Lit → Bool} {cn : Nat} (hr : w.ranges P k R b r n D left cn) : some r ≠ v.ownBlock := by
  obtain ⟨_, _, _, _, _, _, _, _, _, hit, _⟩ := hr
  rcases h.2 with ⟨rfl, _⟩ | ⟨g, cap, cur, rfl, _, hb, _⟩
  · simp [Value.ownBlock]
  · intro e1
    have : r = g := by simpa [Value.ownBlock] using e1
    subst this
    rw [hit] at hb
    cases hb
theorem NRow.snoc {w : World} {base : Nat} {v : Value} {l : List S39} {n : S39} (h : w.ownsRow base 39 4 v (l.length + 1) (fl l ++ [.int .u64 n.f0, .string n.f1.f0, .string n.f1.f1, .bool n.f1.f2])) : NRow w base v (l ++ [n]) := by
  unfold NRow
  rw [fl_snoc, List.length_append]
  exact h
theorem raw_new (W : World) (cs : Array Value) (t : TypeId) (g : Nat) (hg : g = W.heap.size) : RawAt (W.alloc (.cells cs t)) ⟨g, 0, none⟩ cs.toList := by
  subst hg
  intro j u hu
  have : (Addr.add ⟨W.heap.size, 0, none⟩ j) = ⟨W.heap.size, j, none⟩ := by unfold Addr.add; split <;> simp_all
  rw [this, blk_cell (blk_new W _)]
  simpa using hu
theorem NRow.kept {w w1 : World} {base : Nat} {v : Value} {l : List S39} (h : NRow w base v l) (hb : Below w.heap.size w w1) : NRow w1 base v l := h.below hb
attribute [local go_sem] noteV
set_option maxHeartbeats 4000000 in
set_option maxRecDepth 100000 in
theorem count.walk (A : Option Addr) (c : Nat) (l : List S39) (w : World) (hr : Kd.C k39 w A l.length l) (hc : l.length ≤ c) (hn : l.length ≤ 1000000) (hs : ∀ n ∈ l, n.f1.f0.size ≤ maxLen) :
    Calls Try.prog 19 #[.slice A l.length c] w fun e w' => ∃ v ys, e = .returned v ∧ NRow w' w.heap.size v ys ∧ IsCount l ys ∧ Below w.heap.size w w' := by
  have HC := Lib.hid (counting.walk A c l w hr hc hn hs)
  obtain ⟨i0, hi, hy0, hy1, hy2⟩ := info_parts info39
  clear hr hs
  go_enter Try.func19, Try.ntmps19
  go_wp2_with (first | (go_at_call 39; refine HC.out.mono ?_; rintro e w1 ⟨D, rfl, hm, hH, hb⟩; have HM := Lib.hid hm; have HH := Lib.hid hH; have HB := Lib.hid hb; clear hm hH hb) | (at_range; refine wpList_range_own _ rfl _ 76 rfl 9 39 nlaw Try.underlying76 noteR w.heap.size l.length D rfl HM.out ?_; intro w0 hrg0 hg0 hs0))
  go_frame
  have HR0 := Lib.hid hrg0
  have HB0 : Hid (Below w.heap.size w w0) := HB.out.grown hg0 HB.out.size (fun j hj => by cases hj)
  have HS := Lib.hid HM.out.size_le
  clear hrg0 hg0 hs0
  have HRr : Hid (w.heap.size ≤ w1.heap.size) := HB.out.size
  generalize w1.heap.size = r at *
  go_loopw [3] (fun v3 wr => ∃ (left : Lit → Bool) (cn : Nat) (ys : List S39), Hid (wr.ranges Try.prog 9 noteR w.heap.size r l.length D left cn) ∧ Hid (NRow wr (w.heap.size + 1) v3 ys) ∧ Hid (Coll l left ys) ∧ ys.length + cn ≤ l.length ∧ Hid (Below w.heap.size w wr)) (fun _ wr => wr.rangeLeft w.heap.size r)
  case atStart => exact ⟨_, _, [], HR0, NRow.nil _ _, coll_start HH.out, by have := HS.out; simpa using this, HB0⟩
  case round =>
    obtain ⟨left, cn, ys, HR, HN, HL, hcn, hB⟩ := hrel
    go_wp2_with (at_next; refine wpList_next_ranges _ rfl _ rfl 9 nlaw noteR Value.string noteV (fun key kl hk => by obtain ⟨s, e, _⟩ := nkey_inv hk; exact ⟨s, e⟩) (fun v y hv => by obtain ⟨n, e, _⟩ := noteR_inv hv; exact ⟨n, e⟩) w.heap.size r l.length D left cn rfl HR.out ?_ ?_)
    · intro h0 hl0
      have HL0 := Lib.hid hl0
      clear h0 hl0
      go_wp2_with (go_at_call 40; refine (sort_notes (w.heap.size + 1) _ ys wr HN.out (by omega)).mono ?_; rintro e w8 ⟨rfl, zs, hz, hp, hs8, hg8⟩)
      go_ret
      exact ⟨_, zs, rfl, hz.mono (Nat.le_succ _), coll_end HL.out HL0.out hp hs8, hB.out.grown hg8 hB.out.size (fun j hj => Nat.le_trans (Nat.le_succ _) (own_base HN.out j hj))⟩
    · intro x n kl yd yp w2 cn2 hkey hlk hv hat hrg2 hlt hg2 hs2 hen
      obtain ⟨s, es, rfl, hss⟩ := nkey_inv hkey
      injection es with es
      subst es
      have hv' := (noteR_mk n).symm.trans hv
      injection hv' with hv'
      have hyd : noteD n = yd := congrArg Prod.fst hv'
      subst hyd
      have hst := coll_step HH.out HL.out hlk hat
      have HL2 := Lib.hid hst.1
      have HR2 := Lib.hid hrg2
      have HN2 := Lib.hid (HN.out.grown hg2 (fun g hg e => HN.out.ne_iter HR.out (by rw [hg]; exact e.symm)))
      have hlt' := Lib.hid hlt
      have HBW : Hid (Below w.heap.size w w2) := hB.out.grown hg2 hB.out.size (fun j hj => by cases hj; exact HRr.out)
      have HRW : Hid (w.heap.size + 1 ≤ w2.heap.size) := HR2.out.owns.lt
      clear hg2 hs2 hv hv' hkey hat hlk hst
      have hb2' : Hid (Below w2.heap.size w2 w2) := Below.refl _ _
      go_wp2_with (first | ((with_reducible refine gate_dst (N := 5) rfl ?_); refine box_event ?hg (N := 5) ?hd (cs := #[.int .u64 0, .string (⟨#[]⟩ : ByteArray), .string (⟨#[]⟩ : ByteArray), .bool false]) (t := 39) ?hr ?_; (case hd => rfl); (case hg => rfl); (case hr => first | (go_simp; done) | (go_simp; rfl)); intro g5 hg5 w5 hb5 hbel5; have HB5 := Lib.hid (hb2'.out.trans (hbel5.mono hb2'.out.size)); have G5 := Lib.hid (hg5 ▸ hb2'.out.size : w2.heap.size ≤ g5); have K5 := Lib.hid hb5; have d0 := (blk_cell hb5 0).trans rfl; have d1 := (blk_cell hb5 1).trans rfl; have d2 := (blk_cell hb5 2).trans rfl; have d3 := (blk_cell hb5 3).trans rfl; have z0 := blk_frozen hb5 0; have z1 := blk_frozen hb5 1; have z2 := blk_frozen hb5 2; have z3 := blk_frozen hb5 3; clear hg5 hb5 hbel5) | ((with_reducible refine gate_builtin (b := .append) (xs := #[.tmp 13, .tmp 15]) rfl ?_); at_builtin; refine wpList_append_own _ rfl _ _ 22 rfl (w.heap.size + 1) 39 i0 (.agg #[(.int .u64 0), (.string ⟨#[]⟩), (.string ⟨#[]⟩), (.bool false)]) 4 48 Try.underlying22 hi hy0 hy1 hy2 rfl (by decide) _ _ _ rfl (HN2.out.below ((below_set4 HB5.out G5.out _ _ _ _).alloc (below_set4 HB5.out G5.out _ _ _ _).size _)) _ 1 1 [.int .u64 n.f0, .string n.f1.f0, .string n.f1.f1, .bool n.f1.f2] rfl rfl (raw_new _ _ _ _ (by simp)) (enc_one n) (by unfold maxLen; omega) (by omega) (by have h1 := ((below_set4 HB5.out G5.out (.int .u64 n.f0) (.string n.f1.f0) (.string n.f1.f1) (.bool n.f1.f2)).alloc (below_set4 HB5.out G5.out _ _ _ _).size (.cells #[.int .u64 n.f0, .string n.f1.f0, .string n.f1.f1, .bool n.f1.f2] 39)).size; have h2 := HRW.out; exact Nat.le_trans h2 h1) ?_; intro v' w7 hown' hgrow hnil; have HN7 := Lib.hid (NRow.snoc hown'); have HR7 := Lib.hid ((HR2.out.kept (below_grown ((below_set4 HB5.out G5.out _ _ _ _).alloc (below_set4 HB5.out G5.out _ _ _ _).size _)) (by simp) (by simp)).kept hgrow (HN2.out.ne_low (Nat.lt_succ_self _)) (HN2.out.ne_iter HR2.out)); have HB7 := Lib.hid ((HBW.out.trans (((below_set4 HB5.out G5.out _ _ _ _).alloc (below_set4 HB5.out G5.out _ _ _ _).size _).mono HBW.out.size)).grown hgrow (Nat.le_trans (Nat.le_succ _) (Nat.le_trans HRW.out ((below_set4 HB5.out G5.out _ _ _ _).alloc (below_set4 HB5.out G5.out _ _ _ _).size _).size)) (fun j hj => Nat.le_trans (Nat.le_succ _) (own_base HN2.out j hj))); clear hown' hgrow hnil))
      go_roundw
      case rel => exact ⟨_, cn2, ys ++ [n], HR7, HN7, HL2, by have := hlt'.out; simp; omega, HB7⟩
      case measure => rw [HR7.out.left_eq, HR.out.left_eq]; exact hlt'.out
end Go.Proofs.Ytipahpkdddijmaa.Q

-- M6
namespace Go.Proofs.Ytipahpkdddijmaa.Q
open Go.WideMaps Go.RowKit Go.Proofs.YtipahpkdddijmaaW.PrintWords Go.Proofs.YtipahpkdddijmaaW.PrintLast Go.Proofs.YtipahpkdddijmaaW.PrintMore Go.Maps Go.Sort
set_option linter.unusedVariables false
set_option linter.unusedSimpArgs false

/-! ### change.Last -/
theorem isNaN.walk (x : Int) (w : World) : Calls Try.prog 66 #[.int .u64 x] w fun e w' => e = .returned (.bool false) ∧ w' = w := by
  go_enter Try.func66, Try.ntmps66
  go_wp2
  go_ret
  exact ⟨by simp, rfl⟩
def cmpI (a b : Int) : Int := if a < b then -1 else if b < a then 1 else 0
theorem compare.walk (x y : Int) (w : World) : Calls Try.prog 48 #[.int .u64 x, .int .u64 y] w fun e w' => e = .returned (.int .i64 (cmpI x y)) ∧ w' = w := by
  have hN := fun z W => isNaN.walk z W
  unfold cmpI
  by_cases h1 : x < y
  · rw [if_pos h1]
    go_enter Try.func48, Try.ntmps48
    go_wp2_with (go_at_call 66; refine (hN _ _).mono ?_; rintro e w1 ⟨rfl, rfl⟩)
    go_ret
    exact ⟨rfl, rfl⟩
  · rw [if_neg h1]
    by_cases h2 : y < x
    · rw [if_pos h2]
      go_enter Try.func48, Try.ntmps48
      go_wp2_with (go_at_call 66; refine (hN _ _).mono ?_; rintro e w1 ⟨rfl, rfl⟩)
      go_ret
      exact ⟨rfl, rfl⟩
    · rw [if_neg h2]
      go_enter Try.func48, Try.ntmps48
      go_wp2_with (go_at_call 66; refine (hN _ _).mono ?_; rintro e w1 ⟨rfl, rfl⟩)
      go_ret
      exact ⟨rfl, rfl⟩
theorem closure47 (x y : S39) (W : World) : Calls Try.prog 47 #[.agg #[.int .u64 x.f0, .string x.f1.f0, .string x.f1.f1, .bool x.f1.f2], .agg #[.int .u64 y.f0, .string y.f1.f0, .string y.f1.f1, .bool y.f1.f2]] W fun e w' => e = .returned (.int .i64 (cmpI x.f0 y.f0)) ∧ ∃ q os', w' = grow (W.drewN q) os' := by
  have hcon := fun W' => compare.walk x.f0 y.f0 W'
  generalize cmpI x.f0 y.f0 = r at hcon ⊢
  go_enter Try.func47, Try.ntmps47
  go_wp2_with (go_at_call 48; refine (hcon _).mono ?_; rintro e w' ⟨rfl, rfl⟩)
  go_ret
  exact ⟨rfl, 0, _, by rw [alloc_eq_grow, alloc_eq_grow, grow_grow]; rfl⟩
theorem below_grow {w wr : World} (h : RowKit.Below w.heap.size w wr) (n : Nat) (os : Array Obj) : RowKit.Below w.heap.size w (grow (wr.drewN n) os) :=
  ⟨h.os, h.tape, h.output, by rw [size_grow]; exact Nat.le_trans h.size (Nat.le_add_right _ _), fun k hk => by
    rw [heap_grow_old (wr.drewN n) os (Nat.lt_of_lt_of_le hk h.size)]
    exact h.block k hk⟩
theorem blk_grow {wr : World} {g : Nat} {o : Obj} (h : wr.heap[g]? = some o) (n : Nat) (os : Array Obj) : (grow (wr.drewN n) os).heap[g]? = some o := by
  rw [heap_grow_old (wr.drewN n) os (blk_lt (w := wr) h)]
  exact h
theorem blk_off4 {w : World} {g h : Nat} {o : Obj} (hb : w.heap[h]? = some o) (hg : h ≠ g) (v0 v1 v2 v3 : Value) : ((((w.setCell ⟨g, 0, none⟩ v0).setCell ⟨g, 1, none⟩ v1).setCell ⟨g, 2, none⟩ v2).setCell ⟨g, 3, none⟩ v3).heap[h]? = some o := by
  rw [RowKit.Below.heap_setCell _ _ _ _ hg, RowKit.Below.heap_setCell _ _ _ _ hg, RowKit.Below.heap_setCell _ _ _ _ hg, RowKit.Below.heap_setCell _ _ _ _ hg]
  exact hb
/-- The greatest of some notes. -/
def Great (m : S39) (l : List S39) : Prop := m ∈ l ∧ ∀ x ∈ l, x.f0 ≤ m.f0
theorem great_up {m n : S39} {l : List S39} (h : Great m l) (hn : m.f0 < n.f0) : Great n (l ++ [n]) :=
  ⟨List.mem_append_right _ (List.mem_singleton.2 rfl), fun x hx => by
    rcases List.mem_append.1 hx with hx | hx
    · have := h.2 x hx; omega
    · obtain rfl := List.mem_singleton.1 hx; omega⟩
theorem great_stay {m n : S39} {l : List S39} (h : Great m l) (hn : ¬ m.f0 < n.f0) : Great m (l ++ [n]) :=
  ⟨List.mem_append_left _ h.1, fun x hx => by
    rcases List.mem_append.1 hx with hx | hx
    · exact h.2 x hx
    · obtain rfl := List.mem_singleton.1 hx; omega⟩
theorem cmp_gt {a b : Int} (h : b < a) : cmpI a b = 1 := by unfold cmpI; rw [if_neg (by omega), if_pos h]
theorem cmp_le {a b : Int} (h : ¬ b < a) : cmpI a b ≤ 0 := by
  unfold cmpI
  split
  · decide
  · try rw [if_neg h]
    omega
set_option maxHeartbeats 4000000 in
set_option maxRecDepth 100000 in
theorem max46.walk (A : Option Addr) (c : Nat) (l : List S39) (w : World) (hr : Kd.C k39 w A l.length l) (hn : l.length ≤ 1000000) (h0 : 0 < l.length) :
    Calls Try.prog 46 #[.slice A l.length c, .func (.func 47) #[] #[]] w fun e w' => ∃ m, Great m l ∧ e = .returned (.agg #[.int .u64 m.f0, .string m.f1.f0, .string m.f1.f1, .bool m.f1.f2]) ∧ RowKit.Below w.heap.size w w' := by
  have HR := Lib.hid hr
  clear hr
  have hlt1 : ¬ ((l.length : Int) < 1) := by omega
  have hfirst := Lib.hid (take_snoc l 0 h0)
  obtain ⟨ad, e', i0, i1, i2, i3⟩ := at39 HR.out (Below.refl _ _) 0 h0
  subst e'
  have hmz := Lib.hid (rfl : l[0] = l[0])
  generalize hn0 : l[0] = n0 at i0 i1 i2 i3
  have HN0 := Lib.hid hn0
  clear hn0 hmz
  have hadz : (ad.add 0) = ad := by unfold Addr.add; split <;> simp_all
  simp only [Nat.zero_mul, hadz] at i0 i1 i2 i3
  clear hadz
  have mixed := Try.sortNotes.mixed
  go_enter Try.func46, Try.ntmps46
  go_wp2_with (first | ((with_reducible refine gate_dst (N := 4) rfl ?_); refine box_event ?hg (N := 4) ?hd (cs := #[.int .u64 0, .string (⟨#[]⟩ : ByteArray), .string (⟨#[]⟩ : ByteArray), .bool false]) (t := 39) ?hr ?_; (case hd => rfl); (case hg => rfl); (case hr => first | (go_simp; done) | (go_simp; rfl)); intro g4 hg4 w4 hb4 hbel4; have j0 := keepc hbel4 i0; have j1 := keepc hbel4 i1; have j2 := keepc hbel4 i2; have j3 := keepc hbel4 i3; clear i0 i1 i2 i3; have HB4 := Lib.hid hbel4; have G4 := Lib.hid (Nat.le_of_eq hg4.symm : w.heap.size ≤ g4); have K4 := Lib.hid hb4; clear hg4 hb4 hbel4) | ((with_reducible refine gate_dst (N := 5) rfl ?_); refine box_event ?hg (N := 5) ?hd (cs := #[.int .u64 0, .string (⟨#[]⟩ : ByteArray), .string (⟨#[]⟩ : ByteArray), .bool false]) (t := 39) ?hr ?_; (case hd => rfl); (case hg => rfl); (case hr => first | (go_simp; done) | (go_simp; rfl)); intro g5 hg5 w5 hb5 hbel5; have HB5 := keepB HB4 hbel5; have G5 := Lib.hid (hg5 ▸ HB4.out.size : w.heap.size ≤ g5); have G45 := Lib.hid (hg5 ▸ Nat.ne_of_gt (blk_lt K4.out) : g5 ≠ g4); have K4' := Lib.hid (blk_below K4.out hbel5); have K5 := Lib.hid hb5; have d0 := (blk_cell hb5 0).trans rfl; have d1 := (blk_cell hb5 1).trans rfl; have d2 := (blk_cell hb5 2).trans rfl; have d3 := (blk_cell hb5 3).trans rfl; have z0 := blk_frozen hb5 0; have z1 := blk_frozen hb5 1; have z2 := blk_frozen hb5 2; have z3 := blk_frozen hb5 3; clear hg5 hb5 hbel5))
  have K50 := Lib.hid (blk_set4 K5.out n0)
  have K40 := Lib.hid (blk_off4 K4'.out (Ne.symm G45.out) (.int .u64 n0.f0) (.string n0.f1.f0) (.string n0.f1.f1) (.bool n0.f1.f2))
  have HB0 := Lib.hid (below_set4 HB5.out G5.out (.int .u64 n0.f0) (.string n0.f1.f0) (.string n0.f1.f1) (.bool n0.f1.f2))
  have HG0 : Hid (Great n0 (l.take 1)) := by
    unfold Hid
    rw [show (1 : Nat) = 0 + 1 from rfl, hfirst.out, HN0.out]
    exact ⟨by simp, fun x hx => by simp at hx; rw [hx]; exact Int.le_refl _⟩
  clear hfirst HB4 HB5 K4 K4' K5 HN0 d0 d1 d2 d3 z0 z1 z2 z3 j0 j1 j2 j3
  go_loopw [6] (fun i wr => ∃ (k : Nat) (m : S39), i = .int .i64 k ∧ 1 ≤ k ∧ k ≤ l.length ∧ Hid (Great m (l.take k)) ∧ Hid (wr.heap[g5]? = some (.cells #[.int .u64 m.f0, .string m.f1.f0, .string m.f1.f1, .bool m.f1.f2] 39 (0, 0))) ∧ Hid (wr.heap[g4]? = some (.cells #[.int .u64 0, .string ⟨#[]⟩, .string ⟨#[]⟩, .bool false] 39 (0, 0))) ∧ Hid (RowKit.Below w.heap.size w wr)) (fun i _ => l.length - (intOf i).toNat)
  case atStart => exact ⟨1, n0, rfl, Nat.le_refl _, h0, HG0, K50, K40, HB0⟩
  case round =>
    clear K50 K40 HB0 HG0
    obtain ⟨k, m, rfl, hk1, hk, HG, K5, K4, HB⟩ := hrel
    by_cases hlt : k < l.length
    · obtain ⟨ad', e', c0, c1, c2, c3⟩ := at39 HR.out HB.out k hlt
      injection e' with e'
      subst e'
      have p0 : (0 : Int) ≤ (k : Int) := by omega
      have p1 : (k : Int) < (l.length : Int) := by omega
      have hnx := Lib.hid (take_snoc l k hlt)
      generalize l[k] = n at *
      have bl : (ad.add (k * 4)).block < wr.heap.size := World.block_lt_of_cell? wr _ c0
      have C0 := fun (q : Nat) (os : Array Obj) => cell_grown bl c0 q os
      have C1 := fun (q : Nat) (os : Array Obj) => cell_grown (a := ⟨(ad.add (k * 4)).block, (ad.add (k * 4)).off + 1, none⟩) bl c1 q os
      have C2 := fun (q : Nat) (os : Array Obj) => cell_grown (a := ⟨(ad.add (k * 4)).block, (ad.add (k * 4)).off + 2, none⟩) bl c2 q os
      have C3 := fun (q : Nat) (os : Array Obj) => cell_grown (a := ⟨(ad.add (k * 4)).block, (ad.add (k * 4)).off + 3, none⟩) bl c3 q os
      have M0 := fun (q : Nat) (os : Array Obj) => (blk_cell (blk_grow K5.out q os) 0).trans (rfl : _ = some (Value.int .u64 m.f0))
      have M1 := fun (q : Nat) (os : Array Obj) => (blk_cell (blk_grow K5.out q os) 1).trans (rfl : _ = some (Value.string m.f1.f0))
      have M2 := fun (q : Nat) (os : Array Obj) => (blk_cell (blk_grow K5.out q os) 2).trans (rfl : _ = some (Value.string m.f1.f1))
      have M3 := fun (q : Nat) (os : Array Obj) => (blk_cell (blk_grow K5.out q os) 3).trans (rfl : _ = some (Value.bool m.f1.f2))
      clear c0 c1 c2 c3
      have cC := fun W => closure47 n m W
      by_cases hgt : m.f0 < n.f0
      · have hr1 := cmp_gt hgt
        simp only [hr1] at cC
        have HG2 := Lib.hid (great_up HG.out hgt)
        clear hgt hr1
        go_wp2
        go_quiet_grown (first | (go_at_call 47; refine Calls.grown_of (cC _)))
        have c0 := C0 nq osq; have c1 := C1 nq osq; have c2 := C2 nq osq; have c3 := C3 nq osq
        have m0 := M0 nq osq; have m1 := M1 nq osq; have m2 := M2 nq osq; have m3 := M3 nq osq
        have z0 := blk_frozen (blk_grow K5.out nq osq) 0; have z1 := blk_frozen (blk_grow K5.out nq osq) 1; have z2 := blk_frozen (blk_grow K5.out nq osq) 2; have z3 := blk_frozen (blk_grow K5.out nq osq) 3
        go_wp2
        go_roundw
        case rel => exact ⟨k + 1, n, by go_num, by omega, hlt, by unfold Hid; rw [hnx.out]; exact HG2, blk_set4 (blk_grow K5.out nq osq) n, blk_off4 (blk_grow K4.out nq osq) (Ne.symm G45.out) _ _ _ _, below_set4 (below_grow HB.out nq osq) G5.out _ _ _ _⟩
        case measure => simp [intOf]; omega
      · have hr1 : ¬ (0 < cmpI n.f0 m.f0) := by have := cmp_le hgt; omega
        generalize cmpI n.f0 m.f0 = r at cC hr1
        have HG2 := Lib.hid (great_stay HG.out hgt)
        clear hgt
        go_wp2
        go_quiet_grown (first | (go_at_call 47; refine Calls.grown_of (cC _)))
        go_wp2
        go_roundw
        case rel => exact ⟨k + 1, m, by go_num, by omega, hlt, by unfold Hid; rw [hnx.out]; exact HG2, blk_grow K5.out nq osq, blk_grow K4.out nq osq, below_grow HB.out nq osq⟩
        case measure => simp [intOf]; omega
    · obtain rfl : k = l.length := by omega
      have m0 := (blk_cell K5.out 0).trans (rfl : _ = some (Value.int .u64 m.f0))
      have m1 := (blk_cell K5.out 1).trans (rfl : _ = some (Value.string m.f1.f0))
      have m2 := (blk_cell K5.out 2).trans (rfl : _ = some (Value.string m.f1.f1))
      have m3 := (blk_cell K5.out 3).trans (rfl : _ = some (Value.bool m.f1.f2))
      have d0 := (blk_cell K4.out 0).trans rfl; have d1 := (blk_cell K4.out 1).trans rfl; have d2 := (blk_cell K4.out 2).trans rfl; have d3 := (blk_cell K4.out 3).trans rfl
      have z0 := blk_frozen K4.out 0; have z1 := blk_frozen K4.out 1; have z2 := blk_frozen K4.out 2; have z3 := blk_frozen K4.out 3
      go_wp2
      refine bodyPost_ret (v := .agg #[.int .u64 m.f0, .string m.f1.f0, .string m.f1.f1, .bool m.f1.f2]) ?_ ?_ ?_
      · simp [results, Try.results46, go_sem, d0, d1, d2, d3]
      · first | rfl | trivial
      · refine ⟨m, ?_, by first | exact trivial | rfl, below_set4 HB.out G4.out _ _ _ _⟩
        have := HG.out
        rwa [List.take_length] at this
theorem field39_0 (n : S39) (w : World) : (Instr.field 39 (.agg #[.int .u64 n.f0, .string n.f1.f0, .string n.f1.f1, .bool n.f1.f2]) 0).run Try.prog w = .ok (.int .u64 n.f0) w := by kernel_rfl
set_option maxHeartbeats 1000000 in
set_option maxRecDepth 100000 in
theorem last.walk (A : Option Addr) (c : Nat) (l : List S39) (w : World) (hr : Kd.C k39 w A l.length l) (hn : l.length ≤ 1000000) :
    Calls Try.prog 23 #[.slice A l.length c] w fun e w' => ∃ x, (l = [] ∧ x = 0 ∨ ∃ m, Great m l ∧ x = m.f0) ∧ e = .returned (.int .u64 x) ∧ RowKit.Below w.heap.size w w' := by
  by_cases h0 : l.length = 0
  · have hl : l = [] := List.length_eq_zero_iff.1 h0
    subst hl
    go_enter Try.func23, Try.ntmps23
    go_wp2
    go_ret
    exact ⟨0, Or.inl ⟨by first | rfl | trivial, rfl⟩, rfl, Below.refl _ _⟩
  · have hz : ¬ ((l.length : Int) = 0) := by omega
    have HM := Lib.hid (max46.walk A c l w hr hn (by omega))
    clear hr
    have hf := field39_0
    go_enter Try.func23, Try.ntmps23
    go_wp2_with (go_at_call 46; refine HM.out.mono ?_; rintro e w1 ⟨m, hm, rfl, hb⟩; have HG := Lib.hid hm; have HB := Lib.hid hb; clear hm hb)
    go_ret
    exact ⟨m.f0, Or.inr ⟨m, HG.out, rfl⟩, rfl, HB.out⟩
end Go.Proofs.Ytipahpkdddijmaa.Q

-- M7
namespace Go.Proofs.Ytipahpkdddijmaa.Q
open Go.WideMaps Go.RowKit Go.Proofs.YtipahpkdddijmaaW.PrintWords Go.Proofs.YtipahpkdddijmaaW.PrintLast Go.Proofs.YtipahpkdddijmaaW.PrintMore Go.Maps
set_option linter.unusedVariables false
set_option linter.unusedSimpArgs false

/-! ### slices.Clone, slices.IndexFunc at notes; clear -/
theorem run_clear_cells {P : Program} (w : World) (t ty e : TypeId) (i : TypeInfo) (z : Value) (ht : P.underlying t = some (.slice e)) (hi : P.info? e = some i) (hz : i.zero = some z)
    (g o n cap : Nat) (cur : Array Value) (te : TypeId) (hg : w.heap[g]? = some (.cells cur te (0, 0))) (hn : 0 < n) (hfit : o + n * z.cells.size ≤ cur.size) (h1 : ∀ v ∈ (Builtin.zeroCells z.cells n).toList, v.oneCell' = true) :
    (Builtin.clear_ #[t] ty #[.slice (some ⟨g, o, none⟩) n cap]).run P w = .ok (.tuple #[]) (w.setRow g (splice cur.toList o (Builtin.zeroCells z.cells n).toList).toArray) := by
  have hst := run_storeCells_at P g o te (Builtin.zeroCells z.cells n).toList 0 cur w hg (by simpa [size_zeroCells] using hfit) h1
  obtain ⟨n, rfl⟩ : ∃ m, n = m + 1 := ⟨n - 1, by omega⟩
  simp [Builtin.clear_, run_underlying ht, typeInfo, zeroValue, hi, hz, hst, splice]
theorem zero_one {z : Value} (h : ∀ v ∈ z.cells.toList, v.oneCell' = true) (hz : 0 < z.cells.size) (n : Nat) : ∀ v ∈ (Builtin.zeroCells z.cells n).toList, v.oneCell' = true := by
  intro v hv
  simp only [Builtin.zeroCells, Array.toList_map, List.mem_map] at hv
  obtain ⟨i, _, rfl⟩ := hv
  have hi : i % z.cells.size < z.cells.size := Nat.mod_lt _ hz
  rw [getElem!_pos z.cells _ hi]
  exact h _ (by simp)
theorem clone44_nil (n c : Nat) (w : World) : Calls Try.prog 44 #[.slice none n c] w fun e w' => e = .returned (.slice none 0 0) ∧ Below w.heap.size w w' := by
  have he := Lib.run_eql_slice_nil_nil (P := Try.prog) w n c Try.underlying22
  go_enter Try.func44, Try.ntmps44
  go_wp2
  go_ret
  exact ⟨rfl, Below.refl _ _⟩
set_option maxHeartbeats 2000000 in
set_option maxRecDepth 100000 in
theorem clone44.walk (ad : Addr) (n c : Nat) (cells : List Value) (w : World) (hl : cells.length = n * 4) (h1 : ∀ u ∈ cells, u.oneCell' = true) (hr : RawAt w ad cells) (hn : n ≤ 1000000) :
    Calls Try.prog 44 #[.slice (some ad) n c] w fun e w' => ∃ v, e = .returned v ∧ w'.ownsRow w.heap.size 39 4 v n cells ∧ Below w.heap.size w w' := by
  have he := Lib.run_eql_slice_some_nil (P := Try.prog) w ad n c Try.underlying22
  obtain ⟨i0, hi, hy0, hy1, hy2⟩ := info_parts info39
  have HL := Lib.hid hl; have H1 := Lib.hid h1; have HR := Lib.hid hr; clear hl h1 hr
  have HO : Hid ((w.alloc (.cells #[] 39)).ownsRow w.heap.size 39 4 (.slice (some ⟨w.heap.size, 0, none⟩) 0 0) 0 []) := ⟨rfl, Or.inr ⟨w.heap.size, 0, #[], rfl, Nat.le_refl _, blk_new w _, Nat.le_refl _, by unfold maxLen; omega, rfl, rfl⟩⟩
  have HB := Lib.hid ((Below.refl w.heap.size w).alloc (Nat.le_refl _) (.cells #[] 39))
  go_enter Try.func44, Try.ntmps44
  go_wp2_with (at_builtin; refine wpList_append_own _ rfl _ _ 22 rfl w.heap.size 39 i0 (.agg #[(.int .u64 0), (.string ⟨#[]⟩), (.string ⟨#[]⟩), (.bool false)]) 4 48 Try.underlying22 hi hy0 hy1 hy2 rfl (by decide) _ _ _ rfl HO.out ad n c cells rfl HL.out ?c1 ?c2 ?c3 ?c4 ?c5 ?_)
  case c1 => exact fun j u hu => keepc (Below.alloc (Below.refl _ _) (Nat.le_refl _) _) (HR.out j u hu)
  case c2 => exact H1.out
  case c3 => unfold maxLen; omega
  case c4 => omega
  case c5 => simp
  intro v' w4 hown' hgrow _
  have HG := Lib.hid (HB.out.grown hgrow (by simp) (own_base HO.out))
  have HOW := Lib.hid hown'
  clear hown' hgrow
  go_wp2
  go_ret
  exact ⟨_, rfl, HOW.out, HG.out⟩

/-- The first place of which p holds; -1: there is none. -/
def idxN (p : S39 → Bool) (l : List S39) : Int := if l.findIdx p < l.length then (l.findIdx p : Nat) else -1
set_option maxHeartbeats 2000000 in
set_option maxRecDepth 100000 in
theorem index45.walk (gm : Nat) (A : Option Addr) (c : Nat) (l : List S39) (p : S39 → Bool) (w : World) (hr : Kd.C k39 w A l.length l) (hn : l.length ≤ 1000000)
    (hp : ∀ W n, n ∈ l → RowKit.Below w.heap.size w W → Calls Try.prog 45 #[.agg #[.int .u64 n.f0, .string n.f1.f0, .string n.f1.f1, .bool n.f1.f2], .pointer (some ⟨gm, 0, none⟩)] W fun e w' => e = .returned (.bool (p n)) ∧ RowKit.Below W.heap.size W w') :
    Calls Try.prog 50 #[.slice A l.length c, .func (.func 45) #[] #[.pointer (some ⟨gm, 0, none⟩)]] w fun e w' => e = .returned (.int .i64 (idxN p l)) ∧ RowKit.Below w.heap.size w w' := by
  have HR := Lib.hid hr
  have HP := Lib.hid hp
  have HB0 : Hid (RowKit.Below w.heap.size w w) := Below.refl _ _
  clear hr hp
  go_enter Try.func50, Try.ntmps50
  go_wp2
  go_loopw [8] (fun i wr => ∃ (k : Nat), i = .int .i64 k ∧ k ≤ l.length ∧ Hid (∀ j (hj : j < k) (hl : j < l.length), p l[j] = false) ∧ Hid (RowKit.Below w.heap.size w wr)) (fun i _ => l.length - (intOf i).toNat)
  case atStart => exact ⟨0, rfl, Nat.zero_le _, fun j hj => absurd hj (Nat.not_lt_zero _), HB0⟩
  case round =>
    obtain ⟨k, rfl, hk, hall, hB⟩ := hrel
    by_cases hlt : k < l.length
    · obtain ⟨ad, e', c0, c1, c2, c3⟩ := at39 HR.out hB.out k hlt
      subst e'
      have p0 : (0 : Int) ≤ (k : Int) := by omega
      have p1 : (k : Int) < (l.length : Int) := by omega
      have HC := Lib.hid (HP.out wr l[k] (List.getElem_mem hlt) hB.out)
      cases hpk : p l[k]
      · rw [hpk] at HC
        have hn2 : Hid (∀ j (hj : j < k + 1) (hl : j < l.length), p l[j] = false) := fun j hj hl => by
          rcases Nat.eq_or_lt_of_le (Nat.le_of_lt_succ hj) with rfl | h
          · exact hpk
          · exact hall.out j h hl
        clear hpk
        go_wp2_with (go_at_call 45; refine HC.out.mono ?_; rintro e w1 ⟨rfl, hb1⟩; have HB1 := keepB hB hb1; clear hb1)
        go_roundw
        case rel => exact ⟨k + 1, by go_num, hlt, hn2, HB1⟩
        case measure => simp [intOf]; omega
      · rw [hpk] at HC
        have HI : Hid (idxN p l = k) := by
          have h1 : l.findIdx p = k := (List.findIdx_eq hlt).2 ⟨hpk, fun j hj => by simpa using hall.out j hj (by omega)⟩
          unfold Hid idxN
          rw [h1, if_pos hlt]
        clear hpk
        go_wp2_with (go_at_call 45; refine HC.out.mono ?_; rintro e w1 ⟨rfl, hb1⟩; have HB1 := keepB hB hb1; clear hb1)
        go_ret
        exact ⟨by rw [HI.out]; rfl, HB1.out⟩
    · have HI : Hid (idxN p l = -1) := by
        have h1 : l.findIdx p = l.length := List.findIdx_eq_length.2 (fun x hx => by
          obtain ⟨j, hj, rfl⟩ := List.getElem_of_mem hx
          exact hall.out j (by omega) hj)
        unfold Hid idxN
        rw [h1, if_neg (Nat.lt_irrefl _)]
      go_wp2
      go_ret
      exact ⟨by rw [HI.out]; rfl, hB.out⟩
set_option maxHeartbeats 2000000 in
set_option maxRecDepth 100000 in
theorem index28.walk (A : Option Addr) (c : Nat) (l : List S39) (p : S39 → Bool) (w : World) (hr : Kd.C k39 w A l.length l) (hn : l.length ≤ 1000000)
    (hp : ∀ W n, n ∈ l → RowKit.Below w.heap.size w W → Calls Try.prog 28 #[.agg #[.int .u64 n.f0, .string n.f1.f0, .string n.f1.f1, .bool n.f1.f2]] W fun e w' => e = .returned (.bool (p n)) ∧ RowKit.Below W.heap.size W w') :
    Calls Try.prog 50 #[.slice A l.length c, .func (.func 28) #[] #[]] w fun e w' => e = .returned (.int .i64 (idxN p l)) ∧ RowKit.Below w.heap.size w w' := by
  have HR := Lib.hid hr
  have HP := Lib.hid hp
  have HB0 : Hid (RowKit.Below w.heap.size w w) := Below.refl _ _
  clear hr hp
  go_enter Try.func50, Try.ntmps50
  go_wp2
  go_loopw [8] (fun i wr => ∃ (k : Nat), i = .int .i64 k ∧ k ≤ l.length ∧ Hid (∀ j (hj : j < k) (hl : j < l.length), p l[j] = false) ∧ Hid (RowKit.Below w.heap.size w wr)) (fun i _ => l.length - (intOf i).toNat)
  case atStart => exact ⟨0, rfl, Nat.zero_le _, fun j hj => absurd hj (Nat.not_lt_zero _), HB0⟩
  case round =>
    obtain ⟨k, rfl, hk, hall, hB⟩ := hrel
    by_cases hlt : k < l.length
    · obtain ⟨ad, e', c0, c1, c2, c3⟩ := at39 HR.out hB.out k hlt
      subst e'
      have p0 : (0 : Int) ≤ (k : Int) := by omega
      have p1 : (k : Int) < (l.length : Int) := by omega
      have HC := Lib.hid (HP.out wr l[k] (List.getElem_mem hlt) hB.out)
      cases hpk : p l[k]
      · rw [hpk] at HC
        have hn2 : Hid (∀ j (hj : j < k + 1) (hl : j < l.length), p l[j] = false) := fun j hj hl => by
          rcases Nat.eq_or_lt_of_le (Nat.le_of_lt_succ hj) with rfl | h
          · exact hpk
          · exact hall.out j h hl
        clear hpk
        go_wp2_with (go_at_call 28; refine HC.out.mono ?_; rintro e w1 ⟨rfl, hb1⟩; have HB1 := keepB hB hb1; clear hb1)
        go_roundw
        case rel => exact ⟨k + 1, by go_num, hlt, hn2, HB1⟩
        case measure => simp [intOf]; omega
      · rw [hpk] at HC
        have HI : Hid (idxN p l = k) := by
          have h1 : l.findIdx p = k := (List.findIdx_eq hlt).2 ⟨hpk, fun j hj => by simpa using hall.out j hj (by omega)⟩
          unfold Hid idxN
          rw [h1, if_pos hlt]
        clear hpk
        go_wp2_with (go_at_call 28; refine HC.out.mono ?_; rintro e w1 ⟨rfl, hb1⟩; have HB1 := keepB hB hb1; clear hb1)
        go_ret
        exact ⟨by rw [HI.out]; rfl, HB1.out⟩
    · have HI : Hid (idxN p l = -1) := by
        have h1 : l.findIdx p = l.length := List.findIdx_eq_length.2 (fun x hx => by
          obtain ⟨j, hj, rfl⟩ := List.getElem_of_mem hx
          exact hall.out j (by omega) hj)
        unfold Hid idxN
        rw [h1, if_neg (Nat.lt_irrefl _)]
      go_wp2
      go_ret
      exact ⟨by rw [HI.out]; rfl, hB.out⟩

/-! ### which notes are live -/
def same39 (a b : S39) : Bool := a.f0 == b.f0 && (a.f1.f0.toList == b.f1.f0.toList && (a.f1.f1.toList == b.f1.f1.toList && (a.f1.f2 == b.f1.f2)))
def live (all : List S39) (n : S39) : Bool := same39 (dflt (cnt all n.f1.f0)) n
theorem wpList_look_no (w : World) {ops : Array Oper} {rest : List Oper} {o : Oper} {a : Act} {Q : Exit → Act → World → Prop} (hg : o.guard = none) (m x : Operand) (hop : o.op = Op.lookup 76 m x false)
    (B k : Nat) (D : DataW Unit) (l : List S39) (hm : a.eval m = .map (some B)) (hown : w.ownsMap Try.prog 9 noteR B k D) (hH : HasMap D l) (nm : ByteArray) (hx : a.eval x = .string nm) (hs : nm.size ≤ maxLen) (q : S39) (hq : dflt (cnt l nm) = q)
    (hK : wpList Try.prog ops Q rest (a.put o.dst (.agg #[.int .u64 q.f0, .string q.f1.f0, .string q.f1.f1, .bool q.f1.f2])) w) :
    wpList Try.prog ops Q (o :: rest) a w := by
  subst hq
  refine wpList_plain hg fun K' hK' => ?_
  unfold Oper.wp
  simp [execOp, hop, hm, hx, look_no hown hH hs, Result.andThen]
  exact hK' _ _ hK
attribute [local go_sem] eqA39
set_option maxHeartbeats 2000000 in
set_option maxRecDepth 100000 in
theorem closure45.walk (gm B k : Nat) (D : DataW Unit) (all : List S39) (n : S39) (W : World) (hc : W.cell? ⟨gm, 0, none⟩ = some (.map (some B))) (hM : W.ownsMap Try.prog 9 noteR B k D) (hH : HasMap D all) (hs : n.f1.f0.size ≤ maxLen) :
    Calls Try.prog 45 #[.agg #[.int .u64 n.f0, .string n.f1.f0, .string n.f1.f1, .bool n.f1.f2], .pointer (some ⟨gm, 0, none⟩)] W fun e w' => e = .returned (.bool (!live all n)) ∧ RowKit.Below W.heap.size W w' := by
  have hlt : gm < W.heap.size := World.block_lt_of_cell? W ⟨gm, 0, none⟩ hc
  have hne : gm ≠ W.heap.size := Nat.ne_of_lt hlt
  have HB0 : Hid (RowKit.Below W.heap.size W W) := Below.refl _ _
  have HM := Lib.hid (hM.alloc (.cells #[.int .u64 n.f0, .string n.f1.f0, .string n.f1.f1, .bool n.f1.f2] 39))
  have hc' : (W.alloc (.cells #[.int .u64 n.f0, .string n.f1.f0, .string n.f1.f1, .bool n.f1.f2] 39)).cell? ⟨gm, 0, none⟩ = some (.map (some B)) := keepc (HB0.out.alloc (Nat.le_refl _) _) hc
  have HH := Lib.hid hH
  have HS := Lib.hid hs
  unfold live
  generalize hq : dflt (cnt all n.f1.f0) = q
  have HQ := Lib.hid hq
  clear hM hH hs hq hc
  go_enter Try.func45, Try.ntmps45
  go_wp2_with (at_lookup; refine wpList_look_no _ rfl _ _ rfl B k D all rfl HM.out HH.out n.f1.f0 rfl HS.out q HQ.out ?_)
  all_goals (go_ret; refine ⟨?_, HB0.out.alloc (Nat.le_refl _) _⟩; simp_all [same39])
end Go.Proofs.Ytipahpkdddijmaa.Q

-- M8
namespace Go.Proofs.Ytipahpkdddijmaa.Q
open Go.WideMaps Go.RowKit Go.Proofs.YtipahpkdddijmaaW.PrintWords Go.Proofs.YtipahpkdddijmaaW.PrintLast Go.Proofs.YtipahpkdddijmaaW.PrintMore Go.Maps
set_option linter.unusedVariables false
set_option linter.unusedSimpArgs false

/-! ### slices.DeleteFunc at notes, change.Live -/
/-- Block g holds these notes, and spare places behind them. -/
structure RowG (w : World) (g cap : Nat) (rs : List S39) : Prop where
  ex : ∃ cur, w.heap[g]? = some (.cells cur 39 (0, 0)) ∧ cur.size = cap * 4 ∧ cur.toList.take (rs.length * 4) = fl rs ∧ rs.length ≤ cap
theorem RowG.lt {w : World} {g cap : Nat} {rs : List S39} (h : RowG w g cap rs) : g < w.heap.size := by
  obtain ⟨cur, h1, _⟩ := h.ex
  exact blk_lt h1
theorem RowG.below {w w1 : World} {g cap : Nat} {rs : List S39} (h : RowG w g cap rs) (hb : Below w.heap.size w w1) : RowG w1 g cap rs := by
  obtain ⟨cur, h1, r⟩ := h.ex
  exact ⟨⟨cur, (hb.block g (blk_lt h1)).trans h1, r⟩⟩
theorem RowG.cell {w : World} {g cap : Nat} {rs : List S39} (h : RowG w g cap rs) (j i : Nat) (hj : j < rs.length) (hi : i < 4) : w.cell? ⟨g, j * 4 + i, none⟩ = (enc39 rs[j])[i]? := by
  obtain ⟨cur, h1, h2, h3, h4⟩ := h.ex
  rw [blk_cell h1]
  have e1 : (fl rs)[j * 4 + i]? = (enc39 rs[j])[i]? := by rw [fl_at rs j i hi, List.getElem?_eq_getElem hj]; rfl
  rw [← e1, ← h3, List.getElem?_take_of_lt (by omega), Array.getElem?_toList]
theorem RowG.cells {w : World} {g cap : Nat} {rs : List S39} (h : RowG w g cap rs) (j : Nat) (hj : j < rs.length) :
    w.cell? ⟨g, j * 4, none⟩ = some (.int .u64 rs[j].f0) ∧ w.cell? ⟨g, j * 4 + 1, none⟩ = some (.string rs[j].f1.f0) ∧ w.cell? ⟨g, j * 4 + 2, none⟩ = some (.string rs[j].f1.f1) ∧ w.cell? ⟨g, j * 4 + 3, none⟩ = some (.bool rs[j].f1.f2) :=
  ⟨h.cell j 0 hj (by decide), h.cell j 1 hj (by decide), h.cell j 2 hj (by decide), h.cell j 3 hj (by decide)⟩
theorem RowG.frz {w : World} {g cap : Nat} {rs : List S39} (h : RowG w g cap rs) (k : Nat) : w.frozen? ⟨g, k, none⟩ = false ∧ w.frozen? ⟨g, k + 1, none⟩ = false ∧ w.frozen? ⟨g, k + 2, none⟩ = false ∧ w.frozen? ⟨g, k + 3, none⟩ = false := by
  obtain ⟨cur, h1, _⟩ := h.ex
  exact ⟨blk_frozen h1 _, blk_frozen h1 _, blk_frozen h1 _, blk_frozen h1 _⟩
theorem fl_set (rs : List S39) (a : Nat) (x : S39) (ha : a < rs.length) : fl (rs.set a x) = ((((fl rs).set (a * 4) (.int .u64 x.f0)).set (a * 4 + 1) (.string x.f1.f0)).set (a * 4 + 2) (.string x.f1.f1)).set (a * 4 + 3) (.bool x.f1.f2) := by
  apply List.ext_getElem?
  intro t
  have e1 : t = t / 4 * 4 + t % 4 := by omega
  have hm : t % 4 < 4 := Nat.mod_lt _ (by decide)
  have hlen := fl_len rs
  by_cases h : t / 4 = a
  · subst h
    rw [show (fl (rs.set (t / 4) x))[t]? = (enc39 x)[t % 4]? by
      have e3 := fl_at (rs.set (t / 4) x) (t / 4) (t % 4) hm
      rw [← e1] at e3
      rw [e3, List.getElem?_set_self ha]; rfl]
    rcases (show t % 4 = 0 ∨ t % 4 = 1 ∨ t % 4 = 2 ∨ t % 4 = 3 by omega) with h | h | h | h
    · have e2 : t = t / 4 * 4 := by omega
      rw [h]
      conv => rhs; rw [e2]
      simp [List.getElem?_set, enc39]
      omega
    · have e2 : t = t / 4 * 4 + 1 := by omega
      rw [h]
      conv => rhs; rw [e2]
      simp [List.getElem?_set, enc39, show (t / 4 * 4 + 1) / 4 = t / 4 by omega]
      omega
    · have e2 : t = t / 4 * 4 + 2 := by omega
      rw [h]
      conv => rhs; rw [e2]
      simp [List.getElem?_set, enc39, show (t / 4 * 4 + 2) / 4 = t / 4 by omega]
      omega
    · have e2 : t = t / 4 * 4 + 3 := by omega
      rw [h]
      conv => rhs; rw [e2]
      simp [List.getElem?_set, enc39, show (t / 4 * 4 + 3) / 4 = t / 4 by omega]
      omega
  · rw [List.getElem?_set_ne (by omega), List.getElem?_set_ne (by omega), List.getElem?_set_ne (by omega), List.getElem?_set_ne (by omega)]
    have e3 := fl_at (rs.set a x) (t / 4) (t % 4) hm
    have e4 := fl_at rs (t / 4) (t % 4) hm
    rw [← e1] at e3 e4
    rw [e3, e4, List.getElem?_set_ne (by omega)]
theorem RowG.set4 {w : World} {g cap : Nat} {rs : List S39} (h : RowG w g cap rs) (a : Nat) (x : S39) (ha : a < rs.length) :
    RowG ((((w.setCell ⟨g, a * 4, none⟩ (.int .u64 x.f0)).setCell ⟨g, a * 4 + 1, none⟩ (.string x.f1.f0)).setCell ⟨g, a * 4 + 2, none⟩ (.string x.f1.f1)).setCell ⟨g, a * 4 + 3, none⟩ (.bool x.f1.f2)) g cap (rs.set a x) := by
  obtain ⟨cur, h1, h2, h3, h4⟩ := h.ex
  refine ⟨⟨_, blk_set (blk_set (blk_set (blk_set h1 _ _) _ _) _ _) _ _, by simpa using h2, ?_, by simpa using h4⟩⟩
  rw [fl_set rs a x ha, ← h3, List.length_set]
  simp [List.take_set]
theorem below_setg {B g k : Nat} {w w' : World} (h : Below B w w') (hg : B ≤ g) (v0 v1 v2 v3 : Value) :
    Below B w ((((w'.setCell ⟨g, k, none⟩ v0).setCell ⟨g, k + 1, none⟩ v1).setCell ⟨g, k + 2, none⟩ v2).setCell ⟨g, k + 3, none⟩ v3) :=
  (((h.setCell (p := ⟨g, k, none⟩) hg v0).setCell (p := ⟨g, k + 1, none⟩) hg v1).setCell (p := ⟨g, k + 2, none⟩) hg v2).setCell (p := ⟨g, k + 3, none⟩) hg v3
theorem splice_length {α : Type} (L : List α) (off : Nat) (cs : List α) (h : off + cs.length ≤ L.length) : (splice L off cs).length = L.length := by unfold splice; simp; omega
theorem splice_take {α : Type} (L : List α) (off : Nat) (cs : List α) (h : off ≤ L.length) : (splice L off cs).take off = L.take off := by
  unfold splice
  rw [List.take_append_of_le_length (by rw [List.length_take]; omega), List.take_take, Nat.min_self]
theorem below_setRow {B g : Nat} {w w' : World} (h : Below B w w') (hg : B ≤ g) (cs : Array Value) : Below B w (w'.setRow g cs) :=
  ⟨h.os, h.tape, h.output, by rw [setRow_size]; exact h.size, fun k hk => (setRow_other _ _ _ _ (by omega)).trans (h.block k hk)⟩
/-- What the closure leans on: the map, and the variable that leads to it. -/
structure InvM (W : World) (gm B k : Nat) (D : DataW Unit) : Prop where
  c : W.cell? ⟨gm, 0, none⟩ = some (.map (some B))
  m : W.ownsMap Try.prog 9 noteR B k D
theorem InvM.below {W W1 : World} {base gm B k : Nat} {D : DataW Unit} (h : InvM W gm B k D) (hg : gm < base) (hB : B < base) (hb : Below base W W1) : InvM W1 gm B k D :=
  ⟨(hb.cell (p := ⟨gm, 0, none⟩) hg).trans h.c, owns_blk h.m (hb.block B hB)⟩
theorem one39 : ∀ v ∈ (Value.agg #[(.int .u64 0), (.string ⟨#[]⟩), (.string ⟨#[]⟩), (.bool false)]).cells.toList, v.oneCell' = true := by
  intro v hv
  simp [Value.cells] at hv
  rcases hv with rfl | rfl | rfl <;> rfl
theorem filter_snoc {q : S39 → Bool} {l : List S39} {b : Nat} (hb : b < l.length) : (l.take (b + 1)).filter q = (l.take b).filter q ++ (if q l[b] then [l[b]] else []) := by
  rw [take_snoc l b hb, List.filter_append]
  congr 1
  simp only [List.filter_cons, List.filter_nil]
theorem set_take {α : Type} (rs : List α) (a : Nat) (x : α) (h : a < rs.length) : (rs.set a x).take (a + 1) = rs.take a ++ [x] := by
  rw [take_snoc (rs.set a x) a (by rw [List.length_set]; exact h), List.getElem_set_self]
  congr 1
  apply List.ext_getElem?
  intro j
  by_cases hj : j < a
  · rw [List.getElem?_take_of_lt hj, List.getElem?_take_of_lt hj, List.getElem?_set_ne (by omega)]
  · rw [List.getElem?_take_eq_none (by omega), List.getElem?_take_eq_none (by omega)]
theorem drop_get {l rs : List S39} {b : Nat} (h : rs.drop b = l.drop b) (hb : b < l.length) (hl : rs.length = l.length) : rs[b]'(by omega) = l[b] := by
  have h1 := congrArg (fun x => x[0]?) h
  simp only [List.getElem?_drop, Nat.add_zero] at h1
  rw [List.getElem?_eq_getElem hb, List.getElem?_eq_getElem (by omega)] at h1
  injection h1
theorem RowG.raw {w : World} {g cap : Nat} {rs : List S39} (h : RowG w g cap rs) : RawAt w ⟨g, 0, none⟩ (fl rs) := by
  obtain ⟨cur, h1, h2, h3, h4⟩ := h.ex
  intro j u hu
  have : (Addr.add ⟨g, 0, none⟩ j) = ⟨g, j, none⟩ := by unfold Addr.add; split <;> simp_all
  rw [this, blk_cell h1]
  have hj := (List.getElem?_eq_some_iff.1 hu).1
  rw [← h3, List.getElem?_take] at hu
  split at hu
  · simpa using hu
  · cases hu
theorem RowG.C {w : World} {g cap : Nat} {rs : List S39} (h : RowG w g cap rs) (hn : rs.length ≤ 1000000) : Kd.C k39 w (some ⟨g, 0, none⟩) rs.length rs := raw_C h.raw (by omega)
set_option maxHeartbeats 8000000 in
set_option maxRecDepth 100000 in
theorem delete43.walk (base g cap gm B k : Nat) (D : DataW Unit) (all l : List S39) (w : World) (hG : RowG w g cap l) (hg : base ≤ g) (hgm : gm < base) (hBb : B < base) (hI : InvM w gm B k D) (hbw : base ≤ w.heap.size) (hH : HasMap D all)
    (hs : ∀ n ∈ l, n.f1.f0.size ≤ maxLen) (hn : l.length ≤ 1000000) (hcap : cap ≤ maxLen) :
    Calls Try.prog 43 #[.slice (some ⟨g, 0, none⟩) l.length cap, .func (.func 45) #[] #[.pointer (some ⟨gm, 0, none⟩)]] w fun e w' =>
      e = .returned (.slice (some ⟨g, 0, none⟩) (l.filter (live all)).length cap) ∧ RowG w' g cap (l.filter (live all)) ∧ Below base w w' := by
  have HP : Hid (∀ W n, n ∈ l → Below base w W → Calls Try.prog 45 #[.agg #[.int .u64 n.f0, .string n.f1.f0, .string n.f1.f1, .bool n.f1.f2], .pointer (some ⟨gm, 0, none⟩)] W fun e w' => e = .returned (.bool (!live all n)) ∧ Below W.heap.size W w') :=
    fun W n hn hb => closure45.walk gm B k D all n W (hI.below hgm hBb hb).c (hI.below hgm hBb hb).m hH (hs n hn)
  have HIX := Lib.hid (index45.walk gm (some ⟨g, 0, none⟩) cap l (fun n => !live all n) w (hG.C hn) hn (fun W n hn hb => HP.out W n hn (hb.mono hbw)))
  have HG0 := Lib.hid hG
  have HGB := Lib.hid hg
  have HBW := Lib.hid hbw
  have HLC : Hid (l.length ≤ cap) := by obtain ⟨_, _, _, _, h⟩ := hG.ex; exact h
  clear hG hg hI hbw hs hH hgm hBb
  obtain ⟨i1, hi, hy0, hy1, hy2⟩ := info_parts info39
  by_cases hx : l.findIdx (fun n => !live all n) < l.length
  · obtain ⟨i0, hi0⟩ : ∃ i0, l.findIdx (fun n => !live all n) = i0 := ⟨_, rfl⟩
    have e1 : idxN (fun n => !live all n) l = (i0 : Nat) := by unfold idxN; rw [if_pos hx, hi0]
    rw [hi0] at hx
    have h1 := (List.findIdx_eq hx).1 hi0
    have HT : Hid (l.take i0 = (l.take (i0 + 1)).filter (live all)) := by
      unfold Hid
      rw [filter_snoc hx, if_neg (by simpa using h1.1), List.append_nil]
      symm
      rw [List.filter_eq_self]
      intro x hx'
      obtain ⟨j, hj, rfl⟩ := List.getElem_of_mem hx'
      simp at hj
      have := h1.2 j (by omega)
      simpa using this
    rw [e1] at HIX
    clear e1 hi0 h1
    have hne2 : ((i0 : Int) == -1) = false := beq_eq_false_iff_ne.2 (by omega)
    go_enter Try.func43, Try.ntmps43
    go_wp2_with (go_at_call 50; refine HIX.out.mono ?_; rintro e w1 ⟨rfl, hb1⟩; have HB1 := Lib.hid hb1; clear hb1)
    have HG1 := Lib.hid (HG0.out.below HB1.out)
    have HB1' := Lib.hid (HB1.out.mono HBW.out)
    clear HG0 HIX HB1
    go_loopw [5, 6] (fun i j wr => ∃ (a b : Nat) (rs : List S39), i = .int .i64 a ∧ j = .int .i64 b ∧ a < b ∧ b ≤ l.length ∧ Hid (rs.length = l.length) ∧ Hid (rs.take a = (l.take b).filter (live all)) ∧ Hid (rs.drop b = l.drop b) ∧ Hid (RowG wr g cap rs) ∧ Hid (Below base w wr)) (fun i j _ => l.length - (intOf j).toNat)
    case atStart => exact ⟨i0, i0 + 1, l, rfl, by go_num, Nat.lt_succ_self _, hx, rfl, HT, rfl, HG1, HB1'⟩
    case round =>
      clear HT HG1 HB1'
      obtain ⟨a, b, rs, rfl, rfl, hab, hbl, HL, HTK, HDR, HG, HB⟩ := hrel
      by_cases hlt : b < l.length
      · have hbr : b < rs.length := by have := HL.out; omega
        have HX := Lib.hid (drop_get HDR.out hlt HL.out)
        have hmem := List.getElem_mem hlt
        have HC := Lib.hid (fun W (hb : Below wr.heap.size wr W) => HP.out W l[b] hmem (HB.out.trans (hb.mono (Nat.le_trans HBW.out HB.out.size))))
        obtain ⟨c0, c1, c2, c3⟩ := HG.out.cells b hbr
        rw [HX.out] at c0 c1 c2 c3
        have HF := Lib.hid (filter_snoc (q := live all) hlt)
        have p0 : (0 : Int) ≤ (b : Int) := by omega
        have p1 : (b : Int) < (l.length : Int) := by omega
        have q0 : (0 : Int) ≤ (a : Int) := by omega
        have q1 : (a : Int) < (l.length : Int) := by omega
        clear hmem
        generalize l[b] = x at *
        cases hq : live all x
        · rw [hq] at HC
          have HF2 : Hid (rs.take a = (l.take (b + 1)).filter (live all)) := by unfold Hid; rw [HF.out, if_neg (by rw [hq]; decide), List.append_nil]; exact HTK.out
          have HDR2 : Hid (rs.drop (b + 1) = l.drop (b + 1)) := by unfold Hid; rw [← List.drop_drop, ← List.drop_drop]; rw [HDR.out]
          clear hq
          go_wp2_with (first | ((with_reducible refine gate_dst (N := 7) rfl ?_); refine box_event ?hg (N := 7) ?hd (cs := #[.int .u64 0, .string (⟨#[]⟩ : ByteArray), .string (⟨#[]⟩ : ByteArray), .bool false]) (t := 39) ?hr ?_; (case hd => rfl); (case hg => rfl); (case hr => first | (go_simp; done) | (go_simp; rfl)); intro g7 hg7 w7 hb7 hbel7; have HB7 := Lib.hid hbel7; have G7 := Lib.hid (Nat.le_of_eq hg7.symm : wr.heap.size ≤ g7); have K7 := Lib.hid hb7; have d0 := (blk_cell hb7 0).trans rfl; have d1 := (blk_cell hb7 1).trans rfl; have d2 := (blk_cell hb7 2).trans rfl; have d3 := (blk_cell hb7 3).trans rfl; have z0 := blk_frozen hb7 0; have z1 := blk_frozen hb7 1; have z2 := blk_frozen hb7 2; have z3 := blk_frozen hb7 3; clear hg7 hb7 hbel7) | (go_at_call 45; refine (HC.out _ (below_set4 HB7.out G7.out _ _ _ _)).mono ?_; rintro e w8 ⟨rfl, hb8⟩; have HB8 := Lib.hid ((below_set4 HB7.out G7.out (.int .u64 x.f0) (.string x.f1.f0) (.string x.f1.f1) (.bool x.f1.f2)).trans (hb8.mono (below_set4 HB7.out G7.out _ _ _ _).size)); have K8 := Lib.hid (blk_below (blk_set4 K7.out x) hb8); have k0 := (blk_cell K8.out 0).trans (rfl : _ = some (Value.int .u64 x.f0)); have k1 := (blk_cell K8.out 1).trans (rfl : _ = some (Value.string x.f1.f0)); have k2 := (blk_cell K8.out 2).trans (rfl : _ = some (Value.string x.f1.f1)); have k3 := (blk_cell K8.out 3).trans (rfl : _ = some (Value.bool x.f1.f2)); have HG8 := Lib.hid (HG.out.below HB8.out); obtain ⟨t0, t1, t2, t3⟩ := HG8.out.cells a (by have := HL.out; omega); obtain ⟨s0, s1, s2, s3⟩ := HG8.out.frz (a * 4); clear hb8))
          go_roundw
          case rel => exact ⟨a, b + 1, rs, rfl, by go_num, by omega, hlt, HL, HF2, HDR2, HG8, HB.out.trans (HB8.out.mono (Nat.le_trans HBW.out HB.out.size))⟩
          case measure => simp [intOf]; omega
        · rw [hq] at HC
          have har : a < rs.length := by omega
          have HF2 : Hid ((rs.set a x).take (a + 1) = (l.take (b + 1)).filter (live all)) := by
            unfold Hid
            rw [HF.out, if_pos hq, ← HTK.out, set_take rs a x har]
          have HDR2 : Hid ((rs.set a x).drop (b + 1) = l.drop (b + 1)) := by
            unfold Hid
            rw [List.drop_set, if_pos (by omega), ← List.drop_drop, ← List.drop_drop, HDR.out]
          clear hq
          go_wp2_with (first | ((with_reducible refine gate_dst (N := 7) rfl ?_); refine box_event ?hg (N := 7) ?hd (cs := #[.int .u64 0, .string (⟨#[]⟩ : ByteArray), .string (⟨#[]⟩ : ByteArray), .bool false]) (t := 39) ?hr ?_; (case hd => rfl); (case hg => rfl); (case hr => first | (go_simp; done) | (go_simp; rfl)); intro g7 hg7 w7 hb7 hbel7; have HB7 := Lib.hid hbel7; have G7 := Lib.hid (Nat.le_of_eq hg7.symm : wr.heap.size ≤ g7); have K7 := Lib.hid hb7; have d0 := (blk_cell hb7 0).trans rfl; have d1 := (blk_cell hb7 1).trans rfl; have d2 := (blk_cell hb7 2).trans rfl; have d3 := (blk_cell hb7 3).trans rfl; have z0 := blk_frozen hb7 0; have z1 := blk_frozen hb7 1; have z2 := blk_frozen hb7 2; have z3 := blk_frozen hb7 3; clear hg7 hb7 hbel7) | (go_at_call 45; refine (HC.out _ (below_set4 HB7.out G7.out _ _ _ _)).mono ?_; rintro e w8 ⟨rfl, hb8⟩; have HB8 := Lib.hid ((below_set4 HB7.out G7.out (.int .u64 x.f0) (.string x.f1.f0) (.string x.f1.f1) (.bool x.f1.f2)).trans (hb8.mono (below_set4 HB7.out G7.out _ _ _ _).size)); have K8 := Lib.hid (blk_below (blk_set4 K7.out x) hb8); have k0 := (blk_cell K8.out 0).trans (rfl : _ = some (Value.int .u64 x.f0)); have k1 := (blk_cell K8.out 1).trans (rfl : _ = some (Value.string x.f1.f0)); have k2 := (blk_cell K8.out 2).trans (rfl : _ = some (Value.string x.f1.f1)); have k3 := (blk_cell K8.out 3).trans (rfl : _ = some (Value.bool x.f1.f2)); have HG8 := Lib.hid (HG.out.below HB8.out); obtain ⟨t0, t1, t2, t3⟩ := HG8.out.cells a (by have := HL.out; omega); obtain ⟨s0, s1, s2, s3⟩ := HG8.out.frz (a * 4); clear hb8))
          have HG9 := Lib.hid (HG8.out.set4 a x (by have := HL.out; omega))
          have HB9 := Lib.hid (below_setg (k := a * 4) (HB.out.trans (HB8.out.mono (Nat.le_trans HBW.out HB.out.size))) HGB.out (.int .u64 x.f0) (.string x.f1.f0) (.string x.f1.f1) (.bool x.f1.f2))
          go_roundw
          case rel => exact ⟨a + 1, b + 1, rs.set a x, by go_num, by go_num, by omega, hlt, by unfold Hid; rw [List.length_set]; exact HL, HF2, HDR2, HG9, HB9⟩
          case measure => simp [intOf]; omega
      · obtain rfl : b = l.length := by omega
        have HE : Hid (rs.take a = l.filter (live all)) := by
          have := HTK.out
          rwa [List.take_length] at this
        have hla : (l.filter (live all)).length = a := by rw [← HE.out, List.length_take]; have := HL.out; omega
        have hcap2 : a < cap := Nat.lt_of_lt_of_le hab HLC.out
        have hcne : ¬ (cap = a) := by omega
        obtain ⟨cur, hcur, hsz, htk, hle⟩ := HG.out.ex
        have HCUR := Lib.hid hcur
        have HTA : Hid (cur.toList.take (a * 4) = fl (rs.take a)) := by
          have e1 : a * 4 = min (a * 4) (rs.length * 4) := by have := HL.out; omega
          unfold Hid
          rw [e1, ← List.take_take, htk]
          unfold fl
          rw [List.map_take]
          have : ∀ (L : List (List Value)) (n : Nat), (∀ c ∈ L, c.length = 4) → (L.flatten).take (n * 4) = (L.take n).flatten := by
            intro L
            induction L with
            | nil => intro n _; simp
            | cons c L ih =>
              intro n hc
              rcases n with _ | n
              · simp
              · rw [List.flatten_cons, List.take_succ_cons, List.flatten_cons, List.take_append, hc c List.mem_cons_self, List.take_of_length_le (by rw [hc c List.mem_cons_self]; omega), show (n + 1) * 4 - 4 = n * 4 by omega, ih n (fun d hd => hc d (List.mem_cons_of_mem _ hd))]
          exact this _ a (fun c hc => by obtain ⟨n, _, rfl⟩ := List.mem_map.1 hc; rfl)
        have hsz' := Lib.hid hsz
        have hn0 : 0 < l.length - a := by omega
        have hfit : a * 4 + (l.length - a) * (Value.agg #[(.int .u64 0), (.string ⟨#[]⟩), (.string ⟨#[]⟩), (.bool false)]).cells.size ≤ cur.size := by
          rw [hsz]
          show a * 4 + (l.length - a) * 4 ≤ cap * 4
          have := HLC.out
          omega
        have hlt' : ¬ ((l.length : Int) < (l.length : Int)) := by omega
        clear hsz htk hcur hle
        go_wp2
        rw [run_clear_cells wr 22 0 39 i1 (.agg #[(.int .u64 0), (.string ⟨#[]⟩), (.string ⟨#[]⟩), (.bool false)]) Try.underlying22 hi hy0 g (a * 4) (l.length - a) (cap - a) cur 39 HCUR.out hn0 hfit (zero_one one39 (by decide) _)]
        simp only [Result.andThen]
        rw [Oper.upon_value]
        obtain ⟨w9, hw9⟩ : ∃ w9, w9 = wr.setRow g (splice cur.toList (a * 4) (Builtin.zeroCells (Value.agg #[(.int .u64 0), (.string ⟨#[]⟩), (.string ⟨#[]⟩), (.bool false)]).cells (l.length - a)).toList).toArray := ⟨_, rfl⟩
        rw [← hw9]
        have HW9 := Lib.hid hw9
        clear hw9
        go_wp2
        go_ret
        refine ⟨?_, ?_, ?_⟩
        · rw [hla]; rfl
        · rw [HW9.out]
          refine ⟨⟨_, setRow_heap _ _ _ _ _ _ HCUR.out, ?_, ?_, by rw [hla]; omega⟩⟩
          · rw [List.size_toArray, splice_length _ _ _ (by rw [Array.length_toList, Array.length_toList, size_zeroCells]; exact hfit)]; simpa using hsz'.out
          · show (splice _ _ _).take _ = _
            rw [hla, splice_take _ _ _ (by rw [Array.length_toList, hsz'.out]; omega), HTA.out, HE.out]
        · rw [HW9.out]
          exact below_setRow HB.out HGB.out _
  · have e1 : idxN (fun n => !live all n) l = -1 := by unfold idxN; rw [if_neg hx]
    have HE : Hid (l.filter (live all) = l) := by
      unfold Hid
      rw [List.filter_eq_self]
      intro x hx'
      have h1 : l.findIdx (fun n => !live all n) = l.length := by have := List.findIdx_le_length (p := fun n => !live all n) (xs := l); omega
      have := List.findIdx_eq_length.1 h1 x hx'
      simpa using this
    rw [e1] at HIX
    clear e1 hx
    go_enter Try.func43, Try.ntmps43
    go_wp2_with (go_at_call 50; refine HIX.out.mono ?_; rintro e w1 ⟨rfl, hb1⟩; have HB1 := Lib.hid hb1; clear hb1)
    go_ret
    rw [HE.out]
    exact ⟨rfl, HG0.out.below HB1.out, HB1.out.mono HBW.out⟩
end Go.Proofs.Ytipahpkdddijmaa.Q

-- M9
namespace Go.Proofs.Ytipahpkdddijmaa.Q
open Go.WideMaps Go.RowKit Go.Proofs.YtipahpkdddijmaaW.PrintWords Go.Proofs.YtipahpkdddijmaaW.PrintLast Go.Proofs.YtipahpkdddijmaaW.PrintMore Go.Maps
set_option linter.unusedVariables false
set_option linter.unusedSimpArgs false

/-! ### change.Live -/
theorem rowG_of {w : World} {base : Nat} {g cap : Nat} {l : List S39} (h : NRow w base (.slice (some ⟨g, 0, none⟩) l.length cap) l) : RowG w g cap l ∧ base ≤ g ∧ cap ≤ maxLen := by
  rcases h.2 with ⟨h1, _⟩ | ⟨g', cap', cur, hv, hg, hh, hn, hm, hsz, hcur⟩
  · cases h1
  · injection hv with e1 e2 e3
    injection e1 with e1; injection e1 with e1
    subst e1; subst e3
    exact ⟨⟨⟨cur, hh, hsz, hcur, hn⟩⟩, hg, hm⟩
theorem ofRowG {w : World} {base : Nat} {g cap : Nat} {l : List S39} (h : RowG w g cap l) (hg : base ≤ g) (hm : cap ≤ maxLen) : NRow w base (.slice (some ⟨g, 0, none⟩) l.length cap) l := by
  obtain ⟨cur, hh, hsz, hcur, hn⟩ := h.ex
  exact ⟨fl_len l, Or.inr ⟨g, cap, cur, rfl, hg, hh, hn, hm, hsz, hcur⟩⟩
set_option maxHeartbeats 1000000 in
set_option maxRecDepth 100000 in
theorem delete_nil (gm : Nat) (w : World) : Calls Try.prog 43 #[.slice none 0 0, .func (.func 45) #[] #[.pointer (some ⟨gm, 0, none⟩)]] w fun e w' => e = .returned (.slice none 0 0) ∧ Below w.heap.size w w' := by
  have HIX := Lib.hid (index45.walk gm none 0 [] (fun _ => true) w ⟨rfl, by decide, fun h => absurd h (by decide)⟩ (by decide) (fun W n hn => by cases hn))
  have e1 : idxN (fun _ => true) ([] : List S39) = -1 := rfl
  rw [e1] at HIX
  clear e1
  go_enter Try.func43, Try.ntmps43
  go_wp2_with (go_at_call 50; refine HIX.out.mono ?_; rintro e w1 ⟨rfl, hb1⟩; have HB1 := Lib.hid hb1; clear hb1)
  go_ret
  exact ⟨rfl, HB1.out⟩
theorem delete_any (base gm B k : Nat) (D : DataW Unit) (all l : List S39) (v : Value) (w : World) (h : NRow w base v l) (hgm : gm < base) (hBb : B < base) (hI : InvM w gm B k D) (hbw : base ≤ w.heap.size) (hH : HasMap D all)
    (hs : ∀ n ∈ l, n.f1.f0.size ≤ maxLen) (hn : l.length ≤ 1000000) :
    Calls Try.prog 43 #[v, .func (.func 45) #[] #[.pointer (some ⟨gm, 0, none⟩)]] w fun e w' => ∃ v', e = .returned v' ∧ NRow w' base v' (l.filter (live all)) ∧ Below base w w' := by
  rcases h.2 with ⟨rfl, h0⟩ | ⟨g, cap, cur, rfl, hg, hh, h1, h2, h3, h4⟩
  · have hl : l = [] := List.length_eq_zero_iff.1 h0
    subst hl
    refine (delete_nil gm w).mono ?_
    rintro e w' ⟨rfl, hb⟩
    exact ⟨_, rfl, NRow.nil _ _, hb.mono hbw⟩
  · obtain ⟨hG, hg', hm⟩ := rowG_of h
    refine (delete43.walk base g cap gm B k D all l w hG hg' hgm hBb hI hbw hH hs hn hm).mono ?_
    rintro e w' ⟨rfl, hG', hb⟩
    exact ⟨_, rfl, ofRowG hG' hg' hm, hb⟩
theorem clone_any (A : Option Addr) (c : Nat) (l : List S39) (w : World) (hr : Kd.C k39 w A l.length l) (hn : l.length ≤ 1000000) :
    Calls Try.prog 44 #[.slice A l.length c] w fun e w' => ∃ v, e = .returned v ∧ NRow w' w.heap.size v l ∧ Below w.heap.size w w' := by
  cases A with
  | none =>
    have hl : l = [] := by
      rcases Nat.eq_zero_or_pos l.length with h | h
      · exact List.length_eq_zero_iff.1 h
      · obtain ⟨_, e, _⟩ := hr.2.2 h; cases e
    subst hl
    refine (clone44_nil 0 c w).mono ?_
    rintro e w' ⟨rfl, hb⟩
    exact ⟨_, rfl, NRow.nil _ _, hb⟩
  | some ad => exact clone44.walk ad l.length c (fl l) w (fl_len l) (fl_one l) (C_raw hr) hn
set_option maxHeartbeats 2000000 in
set_option maxRecDepth 100000 in
theorem live.walk (A0 : Option Addr) (c0 : Nat) (all : List S39) (A1 : Option Addr) (c1 : Nat) (l : List S39) (w : World) (hr0 : Kd.C k39 w A0 all.length all) (hc0 : all.length ≤ c0) (hr1 : Kd.C k39 w A1 l.length l)
    (hn0 : all.length ≤ 1000000) (hs0 : ∀ n ∈ all, n.f1.f0.size ≤ maxLen) (hn1 : l.length ≤ 1000000) (hs1 : ∀ n ∈ l, n.f1.f0.size ≤ maxLen) :
    Calls Try.prog 20 #[.slice A0 all.length c0, .slice A1 l.length c1] w fun e w' => ∃ v, e = .returned v ∧ NRow w' w.heap.size v (l.filter (live all)) ∧ Below w.heap.size w w' := by
  have HC := Lib.hid (counting.walk A0 c0 all w hr0 hc0 hn0 hs0)
  have HR1 := Lib.hid hr1
  have HS1 := Lib.hid hs1
  have HCL := fun W hW => Lib.hid (clone_any A1 c1 l W (Kd.C_below HR1.out hW) hn1)
  have HDE := fun base gm B k D v W h a b c d e => Lib.hid (delete_any base gm B k D all l v W h a b c d e HS1.out hn1)
  clear hr0 hr1 hs0 hs1
  go_enter Try.func20, Try.ntmps20
  go_wp2_with (first
    | (go_at_call 39; refine HC.out.mono ?_; rintro e w1 ⟨D, rfl, hm, hH, hb⟩; have HM := Lib.hid hm; have HH := Lib.hid hH; have HB := Lib.hid hb; clear hm hH hb)
    | ((with_reducible refine gate_dst (N := 5) rfl ?_); refine box_event ?hg (N := 5) ?hd (cs := #[.map none]) (t := 76) ?hr ?_; (case hd => rfl); (case hg => rfl); (case hr => first | (go_simp; done) | (go_simp; rfl)); intro gm hg5 w5 hb5 hbel5; have HM5 := Lib.hid (owns_below HM.out hbel5); have HB5 := keepB HB hbel5; have GM := Lib.hid (hg5 ▸ HM.out.lt : w.heap.size < gm); have K5 := Lib.hid hb5; have d0 := (blk_cell hb5 0).trans (rfl : _ = some (Value.map none)); have z0 := blk_frozen hb5 0; clear hg5 hb5 hbel5)
    | (go_at_call 44; refine (HCL _ (HB5.out.setCell (p := ⟨gm, 0, none⟩) (Nat.le_of_lt GM.out) (.map (some w.heap.size)))).out.mono ?_; rintro e w6 ⟨v6, rfl, hn6, hb6⟩; have HN6 := Lib.hid hn6; have HB6 := Lib.hid hb6; clear hn6 hb6)
    | (go_at_call 43; refine (HDE (w5.setCell ⟨gm, 0, none⟩ (.map (some w.heap.size))).heap.size gm w.heap.size all.length D v6 w6 HN6.out (by have := blk_lt K5.out; simpa using this) (by have := HM5.out.lt; simpa using this) ((InvM.mk ((blk_cell (blk_set K5.out 0 _) 0).trans rfl) (HM5.out.setCell (Nat.ne_of_lt GM.out) _) : InvM (w5.setCell ⟨gm, 0, none⟩ (.map (some w.heap.size))) gm w.heap.size all.length D).below (by have := blk_lt K5.out; simpa using this) (by have := HM5.out.lt; simpa using this) HB6.out) HB6.out.size HH.out).out.mono ?_; rintro e w7 ⟨v7, rfl, hn7, hb7⟩; have HN7 := Lib.hid hn7; have HB7 := Lib.hid hb7; clear hn7 hb7))
  go_ret
  have HA := HB5.out.setCell (p := ⟨gm, 0, none⟩) (Nat.le_of_lt GM.out) (.map (some w.heap.size))
  exact ⟨v7, rfl, HN7.out.mono HA.size, HA.trans ((HB6.out.trans HB7.out).mono HA.size)⟩
end Go.Proofs.Ytipahpkdddijmaa.Q

-- Qx2
namespace Go.Proofs.Ytipahpkdddijmaa.Q
open Go.RowKit Go.Proofs.YtipahpkdddijmaaW.PrintWords Go.Proofs.YtipahpkdddijmaaW.PrintLast Go.Proofs.YtipahpkdddijmaaW.PrintMore
attribute [local go_sem] max2_int min2_int max_two min_two max_three min_three max_four min_four   -- for this text's walks alone
set_option linter.unusedVariables false
set_option linter.unusedSimpArgs false

theorem eqA52 (d : Nat) (w : World) (x0 y0 : ByteArray) (x1 y1 : ByteArray) :
    (Op.equalIn (d + 2) 52 (.agg #[.string x0, .string x1]) (.agg #[.string y0, .string y1])).run Try.prog w = .ok (x0.toList == y0.toList && (x1.toList == y1.toList)) w := by
  refine eqA_of Try.underlying52 (by kernel_rfl) ?_
  refine eqf_cons (by rfl) (by go_simp; rfl) (by go_simp; rfl) (by go_simp) ?_
  exact eqf_last (by rfl) (by go_simp; rfl) (by go_simp; rfl) (by go_simp)
end Go.Proofs.Ytipahpkdddijmaa.Q

-- Qx3
namespace Go.Proofs.Ytipahpkdddijmaa.Q
open Go.RowKit Go.Proofs.YtipahpkdddijmaaW.PrintWords Go.Proofs.YtipahpkdddijmaaW.PrintLast Go.Proofs.YtipahpkdddijmaaW.PrintMore
attribute [local go_sem] max2_int min2_int max_two min_two max_three min_three max_four min_four   -- for this text's walks alone
set_option linter.unusedVariables false
set_option linter.unusedSimpArgs false

-- NOT PRINTED: function 10 (cellarerlaw12_Few)

-- NOT PRINTED: function 50 (api_Note_50)

-- NOT PRINTED: function 27 (api_Note_27)

/-! ### wire_lay: function 51 -/
def wire_lay.l0 : Nat → Int → List Int → Int → Int → Option (ByteArray)
  | 0, _, _, _, _ => none
  | k + 1, x0, x5, x9, x10 => if x10 < x9 then (if 0 ≤ (wrap64 (8 * x10)) then (if 0 ≤ x10 then (if x10 < (x5.length : Int) then (wire_lay.l0 k x0 (x5.set (x10 : Int).toNat ((shr .u64 x0 (wrap64 (8 * x10))) % 256)) x9 (wrap64 (x10 + 1))) else (none)) else (none)) else (none)) else (some (strOfNums x5))
def wire_lay.f (k : Nat) (a0 : Int) (a1 : Int) : Option (ByteArray) := if 0 ≤ a1 then (if (a1 : Int).toNat ≤ 281474976710656 then (wire_lay.l0 k a0 (List.replicate (a1 : Int).toNat 0) a1 0) else (none)) else (none)
theorem wire_lay.mono_l : ∀ k, (∀ y0 y1 y2 y3, LeO (wire_lay.l0 k y0 y1 y2 y3) (wire_lay.l0 (k + 1) y0 y1 y2 y3))
  | 0 => fun _ _ _ _ r h => by simp [wire_lay.l0] at h
  | k + 1 => by
    have ih0 := wire_lay.mono_l k
    · intro y0 y1 y2 y3
      unfold wire_lay.l0
      repeat' first
      | (with_reducible exact ih0 _ _ _ _)
      | (with_reducible exact LeO.refl _)
      | (with_reducible exact LeO.none _)
      | (with_reducible refine LeO.ite ?_ ?_)
      | (with_reducible refine LeO.bind ?_ (fun _ => ?_))
      | exact ih0 _ _ _ _
      | exact LeO.none _
      | refine LeO.ite ?_ ?_
      | refine LeO.bind ?_ (fun _ => ?_)
theorem wire_lay.mono : ∀ a0 a1 k, LeO (wire_lay.f k a0 a1) (wire_lay.f (k + 1) a0 a1) := by
  intro a0 a1 k
  have ih0 := wire_lay.mono_l k
  unfold wire_lay.f
  repeat' first
      | (with_reducible exact ih0 _ _ _ _)
      | (with_reducible exact LeO.refl _)
      | (with_reducible exact LeO.none _)
      | (with_reducible refine LeO.ite ?_ ?_)
      | (with_reducible refine LeO.bind ?_ (fun _ => ?_))
      | exact ih0 _ _ _ _
      | exact LeO.none _
      | refine LeO.ite ?_ ?_
      | refine LeO.bind ?_ (fun _ => ?_)
set_option maxHeartbeats 8000000 in
set_option maxRecDepth 100000 in
theorem wire_lay.calls (k : Nat) (a0 : Int) (a1 : Int) (r : ByteArray) (w : World) (h : wire_lay.f k a0 a1 = some r) :
    Calls Try.prog 51 #[.int .u64 a0, .int .i64 a1] w fun e w' => e = .returned (.string r) ∧ Below w.heap.size w w' := by
  have HB := Aside0.mk (Below.refl w.heap.size w)
  have H : (if 0 ≤ a1 then (if (a1 : Int).toNat ≤ 281474976710656 then (wire_lay.l0 k a0 (List.replicate (a1 : Int).toNat 0) a1 0) else (none)) else (none)) = some r := h
  clear h
  by_cases c3 : 0 ≤ a1
  · rw [if_pos c3] at H
    have c3b0 := eq_true c3
    have c3b1 : decide (0 ≤ a1) = true := decide_eq_true c3
    clear c3
    by_cases c4 : (a1 : Int).toNat ≤ 281474976710656
    · rw [if_pos c4] at H
      have c4b0 := eq_true c4
      have c4b1 : decide ((a1 : Int).toNat ≤ 281474976710656) = true := decide_eq_true c4
      clear c4
      obtain ⟨y101, hy101⟩ : ∃ y_ : List Int, y_ = (List.replicate (a1 : Int).toNat 0) := ⟨_, rfl⟩
      replace H : (wire_lay.l0 k a0 y101 a1 0) = some r := by first | (rw [hy101]; with_reducible exact H) | (have H2_ := (Option.bind_some _ _).symm.trans H; rw [hy101]; with_reducible exact H2_) | (have H2_ := (Option.bind_some _ _).symm.trans H; with_reducible exact H2_) | with_reducible exact H | (rw [hy101]; exact H) | exact H
      have Ny101 := Aside0.mk hy101
      clear hy101
      have H' := Aside0.mk H
      clear H
      go_enter Try.func51, Try.ntmps51
      go_wp2_with (first | ((with_reducible refine gate_dst (N := 8) rfl ?_); refine Kd.R_make (Kd.int .u8) _ 5 rfl (N := 8) rfl 88 _ _ rfl a1 rfl rfl Try.underlying88 (.int .u8 0) 1 info5 rfl (by decide) (by omega) 0 (ok := fun _ => True) (okp := fun _ => True) rfl (fun _ hk => hk) trivial (of_decide_eq_true (by first | (with_reducible assumption) | assumption)) (Nat.le_trans (Nat.mul_le_mul_right _ (of_decide_eq_true (by first | (with_reducible assumption) | assumption) : a1.toNat ≤ 281474976710656)) (by omega)) (Below.refl _ _) (Nat.le_refl _) ?_; intro v102 w5 ho6 hb hg_ hnew_; clear hg_ hnew_; (first | rw [← Ny101.out] at ho6 | (simp only [Int.reduceToNat] at ho6; rw [← Ny101.out] at ho6)); have n0_ := Aside0.mk (Kd.R_lower ho6 (below_size (by repeat (first | (with_reducible first | exact HB.out | apply below_alloc | apply pw_below_drewN | apply below_drew1) | exact HB.out)))); have n1_ := Aside0.mk (below_step (by repeat (first | (with_reducible first | exact HB.out | apply below_alloc | apply pw_below_drewN | apply below_drew1) | exact HB.out)) hb); clear HB; have HO103 := n0_; have HB := n1_; clear n0_ n1_; clear hb ho6))
      go_loopg [10] k (fun kq v10 w' => ∃ (x5_1 : List Int) (x10_1 : Int), v10 = .int .i64 x10_1 ∧ Aside0 (wire_lay.l0 kq a0 x5_1 a1 x10_1 = some r) ∧ Aside0 (kq ≤ k) ∧ Aside0 (Kd.R (Kd.int .u8) 5 w' w.heap.size (fun _ => True) v102 x5_1) ∧ Aside0 (Below w.heap.size w w'))
      case atStart => exact ⟨(y101), (0), (by first | rfl | (simp; done) | (simp [*]; done)), H', ⟨Nat.le_refl _⟩, ⟨by (with_reducible repeat (first | apply Kd.R_alloc | apply Kd.R_drewN | apply Kd.R_drew)); exact HO103.out⟩, ⟨by repeat (first | (with_reducible first | exact HB.out | apply below_alloc | apply pw_below_drewN | apply below_drew1) | exact HB.out)⟩⟩
      case round =>
        clear H'
        try clear p2
        try clear c3
        try clear c3b0
        try clear c3b1
        try clear c4
        try clear c4b0
        try clear c4b1
        try clear c5
        obtain ⟨x5_1, x10_1, rfl, HA, HK1, HO_5, HB⟩ := hrel
        cases gk with
        | zero => exact absurd HA.out (by simp [wire_lay.l0])
        | succ k1 =>
          have H := HA.out
          clear HA
          simp only [wire_lay.l0] at H
          by_cases c7 : x10_1 < a1
          · rw [if_pos c7] at H
            have c7b0 : decide (x10_1 < a1) = true := decide_eq_true c7
            clear c7
            obtain ⟨ji8, hji8⟩ : ∃ j_ : Int, (wrap64 (8 * x10_1)) = j_ := ⟨_, rfl⟩
            replace H : (if 0 ≤ (ji8) then (if 0 ≤ x10_1 then (if x10_1 < (x5_1.length : Int) then (wire_lay.l0 k1 a0 (x5_1.set (x10_1 : Int).toNat ((shr .u64 a0 (ji8)) % 256)) a1 (wrap64 (x10_1 + 1))) else (none)) else (none)) else (none)) = some r := by first | (rw [hji8] at H; exact H) | (simp only [hji8] at H ⊢; exact H)
            have hji8w : (IntKind.i64.wrap (8 * x10_1)) = ji8 := (i64_w _).trans hji8
            by_cases c9 : 0 ≤ (ji8)
            · rw [if_pos c9] at H
              have c9b0 := eq_true c9
              have c9b1 : decide (0 ≤ (ji8)) = true := decide_eq_true c9
              clear c9
              obtain ⟨ji10, hji10⟩ : ∃ j_ : Int, (shr .u64 a0 (ji8)) = j_ := ⟨_, rfl⟩
              replace H : (if 0 ≤ x10_1 then (if x10_1 < (x5_1.length : Int) then (wire_lay.l0 k1 a0 (x5_1.set (x10_1 : Int).toNat ((ji10) % 256)) a1 (wrap64 (x10_1 + 1))) else (none)) else (none)) = some r := by first | (rw [hji10] at H; exact H) | (simp only [hji10] at H ⊢; exact H)
              have hji10_ : (a0 / 2 ^ min (ji8).toNat 64) = ji10 := hji10
              have hji10z : (ji8) ≤ 64 → (a0 / 2 ^ (ji8).toNat) = ji10 := shr_small hji10
              by_cases c11 : 0 ≤ x10_1
              · rw [if_pos c11] at H
                have c11b0 : decide (0 ≤ x10_1) = true := decide_eq_true c11
                clear c11
                by_cases c12 : x10_1 < (x5_1.length : Int)
                · rw [if_pos c12] at H
                  have c12b0 : decide (x10_1 < (x5_1.length : Int)) = true := decide_eq_true c12
                  clear c12
                  obtain ⟨y104, hy104⟩ : ∃ y_ : List Int, y_ = (x5_1.set (x10_1 : Int).toNat ((ji10) % 256)) := ⟨_, rfl⟩
                  replace H : (wire_lay.l0 k1 a0 y104 a1 (wrap64 (x10_1 + 1))) = some r := by first | (rw [hy104]; with_reducible exact H) | (have H2_ := (Option.bind_some _ _).symm.trans H; rw [hy104]; with_reducible exact H2_) | (have H2_ := (Option.bind_some _ _).symm.trans H; with_reducible exact H2_) | with_reducible exact H | (rw [hy104]; exact H) | exact H
                  have Ny104 := Aside0.mk hy104
                  clear hy104
                  have H' := Aside0.mk H
                  clear H
                  have p13 : 0 ≤ (x10_1 : Int) := of_decide_eq_true (by first | (with_reducible assumption) | assumption)
                  have q13 : (x10_1 : Int) < ((x5_1.length : Int) : Int) := of_decide_eq_true (by first | (with_reducible assumption) | assumption)
                  obtain ⟨go13, co13, eo13, gb13, gl13, cl13, HG13⟩ := Kd.R_form HO_5.out (by omega)
                  (first | cases eo13 | (injection eo13 with ea_ en_ ec_; (first | subst ea_ | (injection ea_ with ea_; subst ea_)); subst ec_; clear en_))
                  have GB13 := Aside0.mk gb13
                  have GG13 := Aside0.mk HG13
                  clear gb13 gl13 HG13
                  obtain ⟨hx13_0, hf13_0⟩ := Kd.R_celln 0 HO_5.out (x10_1 : Int) p13 q13
                  replace p13 := eq_true p13
                  replace q13 := eq_true q13
                  have HP14 := Kd.R_putg HO_5.out (x10_1 : Int) ((ji10) % 256)
                  go_wp2_with (first | ((with_reducible refine gate_store (t := 5) (p := 20) rfl ?_); refine store_event (t := 5) (p := 20) (v := ?vo_w15) (w1 := (wr.setCell ⟨go13, (x10_1 : Int).toNat, none⟩ (.int .u8 ((ji10) % 256)))) ?hg ?ho ?hn ?hr ?_; (case ho => rfl); (case hg => rfl); (case hn => rfl); (case hr => first | (go_simp; done) | (go_simp; rfl)); intro w15 hw; have hg : wr.grownBy w15 (some go13) := (by rw [hw]; exact HP14.2); have hp_ : Kd.R (Kd.int .u8) 5 w15 w.heap.size (fun _ => True) (.slice (some ⟨go13, 0, none⟩) x5_1.length co13) y104 := (by rw [hw, Ny104.out]; exact HP14.1); clear HP14; have n0_ := Aside0.mk (hp_); have n1_ := Aside0.mk ((by rw [hw]; exact below_set (HB.out) GB13.out : Below w.heap.size w w15)); clear HO_5; clear HB; have HO_5 := n0_; have HB := n1_; clear n0_ n1_; clear hg hw hp_))
                  go_roundg k1
                  case measure => have := HK1.out; omega
                  case rel => exact ⟨(y104), (wrap64 (x10_1 + 1)), (by first | rfl | (simp; done) | (simp [*]; done)), H', ⟨by have := HK1.out; omega⟩, ⟨by (with_reducible repeat (first | apply Kd.R_alloc | apply Kd.R_drewN | apply Kd.R_drew)); exact HO_5.out⟩, ⟨by repeat (first | (with_reducible first | exact HB.out | apply below_alloc | apply pw_below_drewN | apply below_drew1) | exact HB.out)⟩⟩
                · rw [if_neg c12] at H
                  exact absurd H (by simp)
              · rw [if_neg c11] at H
                exact absurd H (by simp)
            · rw [if_neg c9] at H
              exact absurd H (by simp)
          · rw [if_neg c7] at H
            have c7b0 : decide (x10_1 < a1) = false := decide_eq_false c7
            clear c7
            obtain rfl := Option.some.inj H
            have hcv16 := own_string (P := Try.prog) Try.underlying88 Try.underlying5 Try.underlying9 (Kd.own_of_R HO_5.out)
            go_wp2
            go_ret
            exact ⟨by first | rfl | (simp [errW_none, errW_some] <;> rfl) | (simp [*, errW_none, errW_some] <;> rfl), by repeat (first | (with_reducible first | exact HB.out | apply below_alloc | apply pw_below_drewN | apply below_drew1) | exact HB.out)⟩
    · rw [if_neg c4] at H
      exact absurd H (by simp)
  · rw [if_neg c3] at H
    exact absurd H (by simp)

/-! ### wire_Num: function 29 -/
def wire_Num.f (k : Nat) (a0 : Int) : Option (ByteArray) := (wire_lay.f k a0 8).bind fun t105 => (some t105)
theorem wire_Num.mono : ∀ a0 k, LeO (wire_Num.f k a0) (wire_Num.f (k + 1) a0) := by
  intro a0 k
  unfold wire_Num.f
  repeat' first
      | (with_reducible exact wire_lay.mono _ _ _)
      | (with_reducible exact LeO.refl _)
      | (with_reducible exact LeO.none _)
      | (with_reducible refine LeO.ite ?_ ?_)
      | (with_reducible refine LeO.bind ?_ (fun _ => ?_))
      | exact wire_lay.mono _ _ _
      | exact LeO.none _
      | refine LeO.ite ?_ ?_
      | refine LeO.bind ?_ (fun _ => ?_)
set_option maxHeartbeats 8000000 in
set_option maxRecDepth 100000 in
theorem wire_Num.calls (k : Nat) (a0 : Int) (r : ByteArray) (w : World) (h : wire_Num.f k a0 = some r) :
    Calls Try.prog 29 #[.int .u64 a0] w fun e w' => e = .returned (.string r) ∧ Below w.heap.size w w' := by
  have HB := Aside0.mk (Below.refl w.heap.size w)
  have H : ((wire_lay.f k a0 8).bind fun t105 => (some t105)) = some r := h
  clear h
  replace H := Option.bind_eq_some_iff.mp H
  obtain ⟨t105, A20, H⟩ := H
  replace H : (some t105) = some r := H
  have A2 := Aside0.mk A20
  clear A20
  obtain rfl := Option.some.inj H
  go_enter Try.func29, Try.ntmps29
  go_wp2_with (first | ((with_reducible refine gate_callee (f := 51) rfl ?_); refine goesL_ (some 4) rfl rfl Try.func51 (by kernel_rfl) rfl #[.int .u64 a0, .int .i64 8] rfl (by (try simp only [List.map_toArray, List.map_cons, List.map_nil]); first | done | rfl | (simp only [List.length_drop, List.length_take]; rfl)) ?_; (with_reducible refine (wire_lay.calls k a0 8 t105 _ A2.out).mono ?_); rintro e w3 ⟨rfl, hb⟩; refine ⟨_, rfl, ?_⟩; have n0_ := Aside0.mk (below_step (by repeat (first | (with_reducible first | exact HB.out | apply below_alloc | apply pw_below_drewN | apply below_drew1) | exact HB.out)) hb); clear HB; have HB := n0_; clear n0_; (try clear hb); (try clear hb2); (try clear hk); (try clear hi)))
  go_ret
  exact ⟨by first | rfl | (simp [errW_none, errW_some] <;> rfl) | (simp [*, errW_none, errW_some] <;> rfl), by repeat (first | (with_reducible first | exact HB.out | apply below_alloc | apply pw_below_drewN | apply below_drew1) | exact HB.out)⟩

/-! ### change_gone: function 30 -/
def change_gone.f (k : Nat) (a0 : Bool) : Option (ByteArray) := if a0 = true then ((wire_Num.f k 1).bind fun t106 => (some t106)) else ((wire_Num.f k 0).bind fun t107 => (some t107))
theorem change_gone.mono : ∀ a0 k, LeO (change_gone.f k a0) (change_gone.f (k + 1) a0) := by
  intro a0 k
  unfold change_gone.f
  repeat' first
      | (with_reducible exact wire_Num.mono _ _)
      | (with_reducible exact LeO.refl _)
      | (with_reducible exact LeO.none _)
      | (with_reducible refine LeO.ite ?_ ?_)
      | (with_reducible refine LeO.bind ?_ (fun _ => ?_))
      | exact wire_Num.mono _ _
      | exact LeO.none _
      | refine LeO.ite ?_ ?_
      | refine LeO.bind ?_ (fun _ => ?_)
set_option maxHeartbeats 8000000 in
set_option maxRecDepth 100000 in
theorem change_gone.calls (k : Nat) (a0 : Bool) (r : ByteArray) (w : World) (h : change_gone.f k a0 = some r) :
    Calls Try.prog 30 #[.bool a0] w fun e w' => e = .returned (.string r) ∧ Below w.heap.size w w' := by
  have HB := Aside0.mk (Below.refl w.heap.size w)
  have H : (if a0 = true then ((wire_Num.f k 1).bind fun t106 => (some t106)) else ((wire_Num.f k 0).bind fun t107 => (some t107))) = some r := h
  clear h
  by_cases c2 : a0 = true
  · subst c2
    have H1 : ((wire_Num.f k 1).bind fun t106 => (some t106)) = some r := by rw [if_pos rfl] at H; exact H
    clear H
    have H := H1
    clear H1
    replace H := Option.bind_eq_some_iff.mp H
    obtain ⟨t106, A30, H⟩ := H
    replace H : (some t106) = some r := H
    have A3 := Aside0.mk A30
    clear A30
    obtain rfl := Option.some.inj H
    go_enter Try.func30, Try.ntmps30
    go_wp2_with (first | ((with_reducible refine gate_callee (f := 29) rfl ?_); refine goesL_ (some 4) rfl rfl Try.func29 (by kernel_rfl) rfl #[.int .u64 1] rfl (by (try simp only [List.map_toArray, List.map_cons, List.map_nil]); first | done | rfl | (simp only [List.length_drop, List.length_take]; rfl)) ?_; (with_reducible refine (wire_Num.calls k 1 t106 _ A3.out).mono ?_); rintro e w4 ⟨rfl, hb⟩; refine ⟨_, rfl, ?_⟩; have n0_ := Aside0.mk (below_step (by repeat (first | (with_reducible first | exact HB.out | apply below_alloc | apply pw_below_drewN | apply below_drew1) | exact HB.out)) hb); clear HB; have HB := n0_; clear n0_; (try clear hb); (try clear hb2); (try clear hk); (try clear hi)))
    go_ret
    exact ⟨by first | rfl | (simp [errW_none, errW_some] <;> rfl) | (simp [*, errW_none, errW_some] <;> rfl), by repeat (first | (with_reducible first | exact HB.out | apply below_alloc | apply pw_below_drewN | apply below_drew1) | exact HB.out)⟩
  · replace c2 := Bool.eq_false_iff.mpr c2
    subst c2
    have H1 : ((wire_Num.f k 0).bind fun t107 => (some t107)) = some r := by rw [if_neg (show ¬ (false = true) by decide)] at H; exact H
    clear H
    have H := H1
    clear H1
    replace H := Option.bind_eq_some_iff.mp H
    obtain ⟨t107, A50, H⟩ := H
    replace H : (some t107) = some r := H
    have A5 := Aside0.mk A50
    clear A50
    obtain rfl := Option.some.inj H
    go_enter Try.func30, Try.ntmps30
    go_wp2_with (first | ((with_reducible refine gate_callee (f := 29) rfl ?_); refine goesL_ (some 5) rfl rfl Try.func29 (by kernel_rfl) rfl #[.int .u64 0] rfl (by (try simp only [List.map_toArray, List.map_cons, List.map_nil]); first | done | rfl | (simp only [List.length_drop, List.length_take]; rfl)) ?_; (with_reducible refine (wire_Num.calls k 0 t107 _ A5.out).mono ?_); rintro e w6 ⟨rfl, hb⟩; refine ⟨_, rfl, ?_⟩; have n0_ := Aside0.mk (below_step (by repeat (first | (with_reducible first | exact HB.out | apply below_alloc | apply pw_below_drewN | apply below_drew1) | exact HB.out)) hb); clear HB; have HB := n0_; clear n0_; (try clear hb); (try clear hb2); (try clear hk); (try clear hi)))
    go_ret
    exact ⟨by first | rfl | (simp [errW_none, errW_some] <;> rfl) | (simp [*, errW_none, errW_some] <;> rfl), by repeat (first | (with_reducible first | exact HB.out | apply below_alloc | apply pw_below_drewN | apply below_drew1) | exact HB.out)⟩

-- NOT PRINTED: function 82 (abi_NoEscape)

-- NOT PRINTED: function 67 (strings_Builder_copyCheck)

-- NOT PRINTED: function 52 (strings_Builder_WriteString)

-- NOT PRINTED: function 53 (wire_Text)

-- NOT PRINTED: function 54 (strings_Builder_String)

-- NOT PRINTED: function 31 (wire_List)

-- NOT PRINTED: function 11 (change_Lay)

/-! ### cellarerref12_May: function 17 -/
def cellarerref12_May.f (a0_0 : Int) (a0_1 : ByteArray) (a0_2 : ByteArray) (a0_3 : Bool) : Option (Bool) := if a0_0 > 0 then (if 1 ≤ (a0_1.size : Int) then (if (a0_1.size : Int) ≤ 200 then (if (a0_2.size : Int) ≤ 4000 then (if a0_3 = true then (some (a0_2.toList == ([] : List UInt8))) else (some true)) else (some false)) else (some false)) else (some false)) else (some false)
set_option maxHeartbeats 8000000 in
set_option maxRecDepth 100000 in
theorem cellarerref12_May.calls (a0_0 : Int) (a0_1 : ByteArray) (a0_2 : ByteArray) (a0_3 : Bool) (r : Bool) (w : World) (h : cellarerref12_May.f a0_0 a0_1 a0_2 a0_3 = some r) :
    Calls Try.prog 17 #[.agg #[.int .u64 a0_0, .string a0_1, .string a0_2, .bool a0_3]] w fun e w' => e = .returned (.bool r) ∧ Below w.heap.size w w' := by
  have hu39 := Try.underlying39
  have HB := Aside0.mk (Below.refl w.heap.size w)
  have H : (if a0_0 > 0 then (if 1 ≤ (a0_1.size : Int) then (if (a0_1.size : Int) ≤ 200 then (if (a0_2.size : Int) ≤ 4000 then (if a0_3 = true then (some (a0_2.toList == ([] : List UInt8))) else (some true)) else (some false)) else (some false)) else (some false)) else (some false)) = some r := h
  clear h
  by_cases c2 : a0_0 > 0
  · rw [if_pos c2] at H
    have c2b0 : decide (0 < a0_0) = true := decide_eq_true c2
    clear c2
    by_cases c3 : 1 ≤ (a0_1.size : Int)
    · rw [if_pos c3] at H
      have c3b0 : decide (1 ≤ (a0_1.size : Int)) = true := decide_eq_true c3
      have c3b1 : decide (1 ≤ a0_1.size) = true := decide_eq_true (by omega)
      clear c3
      by_cases c4 : (a0_1.size : Int) ≤ 200
      · rw [if_pos c4] at H
        have c4b0 : decide ((a0_1.size : Int) ≤ 200) = true := decide_eq_true c4
        have c4b1 : decide (a0_1.size ≤ 200) = true := decide_eq_true (by omega)
        clear c4
        by_cases c5 : (a0_2.size : Int) ≤ 4000
        · rw [if_pos c5] at H
          have c5b0 : decide ((a0_2.size : Int) ≤ 4000) = true := decide_eq_true c5
          have c5b1 : decide (a0_2.size ≤ 4000) = true := decide_eq_true (by omega)
          clear c5
          by_cases c6 : a0_3 = true
          · subst c6
            have H1 : (some (a0_2.toList == ([] : List UInt8))) = some r := by rw [if_pos rfl] at H; exact H
            clear H
            have H := H1
            clear H1
            obtain rfl := Option.some.inj H
            go_enter Try.func17, Try.ntmps17
            go_wp2_with (first | ((with_reducible refine gate_dst (N := 1) rfl ?_); (try (refine gate_guard (by rfl) ?_; dsimp only)); refine box_event ?hg (N := 1) ?hd (cs := #[.int .u64 a0_0, .string a0_1, .string a0_2, .bool true]) (t := 39) ?hr ?_; (case hd => rfl); (case hg => rfl); (case hr => first | (go_simp; done) | (go_simp; rfl)); intro gb108 hg w7 hbox hb; have n0_ := Aside0.mk (below_step (by repeat (first | (with_reducible first | exact HB.out | apply below_alloc | apply pw_below_drewN | apply below_drew1) | exact HB.out)) hb); have n1_ := Aside0.mk (hbox); have n2_ := Aside0.mk ((by rw [hg]; exact (below_size (by repeat (first | (with_reducible first | exact HB.out | apply below_alloc | apply pw_below_drewN | apply below_drew1) | exact HB.out))) : w.heap.size ≤ gb108)); have n3_ := Aside0.mk ((by rw [hg]; exact (below_size (by repeat (first | (with_reducible first | exact HB.out | apply below_alloc | apply pw_below_drewN | apply below_drew1) | exact HB.out))) : w.heap.size ≤ gb108)); clear HB; have HB := n0_; have BK108 := n1_; have GW108 := n2_; have GE108 := n3_; clear n0_ n1_ n2_ n3_; clear hb hbox hg; have hcz8_0 : w7.cell? ⟨gb108, 0, none⟩ = some (.int .u64 a0_0) := (blk_cell BK108.out 0).trans rfl; have hcz8_1 : w7.cell? ⟨gb108, 1, none⟩ = some (.string a0_1) := (blk_cell BK108.out 1).trans rfl; have hcz8_2 : w7.cell? ⟨gb108, 2, none⟩ = some (.string a0_2) := (blk_cell BK108.out 2).trans rfl; have hcz8_3 : w7.cell? ⟨gb108, 3, none⟩ = some (.bool true) := (blk_cell BK108.out 3).trans rfl; have hfz8_0 := blk_frozen BK108.out 0; have hfz8_1 := blk_frozen BK108.out 1; have hfz8_2 := blk_frozen BK108.out 2; have hfz8_3 := blk_frozen BK108.out 3))
            go_ret
            exact ⟨by first | rfl | (simp [errW_none, errW_some] <;> rfl) | (simp [*, errW_none, errW_some] <;> rfl), by repeat (first | (with_reducible first | exact HB.out | apply below_alloc | apply pw_below_drewN | apply below_drew1 | refine below_set ?_ GE108.out) | exact HB.out)⟩
          · replace c6 := Bool.eq_false_iff.mpr c6
            subst c6
            have H1 : (some true) = some r := by rw [if_neg (show ¬ (false = true) by decide)] at H; exact H
            clear H
            have H := H1
            clear H1
            obtain rfl := Option.some.inj H
            go_enter Try.func17, Try.ntmps17
            go_wp2_with (first | ((with_reducible refine gate_dst (N := 1) rfl ?_); (try (refine gate_guard (by rfl) ?_; dsimp only)); refine box_event ?hg (N := 1) ?hd (cs := #[.int .u64 a0_0, .string a0_1, .string a0_2, .bool false]) (t := 39) ?hr ?_; (case hd => rfl); (case hg => rfl); (case hr => first | (go_simp; done) | (go_simp; rfl)); intro gb108 hg w9 hbox hb; have n0_ := Aside0.mk (below_step (by repeat (first | (with_reducible first | exact HB.out | apply below_alloc | apply pw_below_drewN | apply below_drew1) | exact HB.out)) hb); have n1_ := Aside0.mk (hbox); have n2_ := Aside0.mk ((by rw [hg]; exact (below_size (by repeat (first | (with_reducible first | exact HB.out | apply below_alloc | apply pw_below_drewN | apply below_drew1) | exact HB.out))) : w.heap.size ≤ gb108)); have n3_ := Aside0.mk ((by rw [hg]; exact (below_size (by repeat (first | (with_reducible first | exact HB.out | apply below_alloc | apply pw_below_drewN | apply below_drew1) | exact HB.out))) : w.heap.size ≤ gb108)); clear HB; have HB := n0_; have BK108 := n1_; have GW108 := n2_; have GE108 := n3_; clear n0_ n1_ n2_ n3_; clear hb hbox hg; have hcz10_0 : w9.cell? ⟨gb108, 0, none⟩ = some (.int .u64 a0_0) := (blk_cell BK108.out 0).trans rfl; have hcz10_1 : w9.cell? ⟨gb108, 1, none⟩ = some (.string a0_1) := (blk_cell BK108.out 1).trans rfl; have hcz10_2 : w9.cell? ⟨gb108, 2, none⟩ = some (.string a0_2) := (blk_cell BK108.out 2).trans rfl; have hcz10_3 : w9.cell? ⟨gb108, 3, none⟩ = some (.bool false) := (blk_cell BK108.out 3).trans rfl; have hfz10_0 := blk_frozen BK108.out 0; have hfz10_1 := blk_frozen BK108.out 1; have hfz10_2 := blk_frozen BK108.out 2; have hfz10_3 := blk_frozen BK108.out 3))
            go_ret
            exact ⟨by first | rfl | (simp [errW_none, errW_some] <;> rfl) | (simp [*, errW_none, errW_some] <;> rfl), by repeat (first | (with_reducible first | exact HB.out | apply below_alloc | apply pw_below_drewN | apply below_drew1 | refine below_set ?_ GE108.out) | exact HB.out)⟩
        · rw [if_neg c5] at H
          have c5b0 : decide ((a0_2.size : Int) ≤ 4000) = false := decide_eq_false c5
          have c5b1 : decide (a0_2.size ≤ 4000) = false := decide_eq_false (by omega)
          clear c5
          obtain rfl := Option.some.inj H
          go_enter Try.func17, Try.ntmps17
          go_wp2_with (first | ((with_reducible refine gate_dst (N := 1) rfl ?_); (try (refine gate_guard (by rfl) ?_; dsimp only)); refine box_event ?hg (N := 1) ?hd (cs := #[.int .u64 a0_0, .string a0_1, .string a0_2, .bool a0_3]) (t := 39) ?hr ?_; (case hd => rfl); (case hg => rfl); (case hr => first | (go_simp; done) | (go_simp; rfl)); intro gb108 hg w11 hbox hb; have n0_ := Aside0.mk (below_step (by repeat (first | (with_reducible first | exact HB.out | apply below_alloc | apply pw_below_drewN | apply below_drew1) | exact HB.out)) hb); have n1_ := Aside0.mk (hbox); have n2_ := Aside0.mk ((by rw [hg]; exact (below_size (by repeat (first | (with_reducible first | exact HB.out | apply below_alloc | apply pw_below_drewN | apply below_drew1) | exact HB.out))) : w.heap.size ≤ gb108)); have n3_ := Aside0.mk ((by rw [hg]; exact (below_size (by repeat (first | (with_reducible first | exact HB.out | apply below_alloc | apply pw_below_drewN | apply below_drew1) | exact HB.out))) : w.heap.size ≤ gb108)); clear HB; have HB := n0_; have BK108 := n1_; have GW108 := n2_; have GE108 := n3_; clear n0_ n1_ n2_ n3_; clear hb hbox hg; have hcz12_0 : w11.cell? ⟨gb108, 0, none⟩ = some (.int .u64 a0_0) := (blk_cell BK108.out 0).trans rfl; have hcz12_1 : w11.cell? ⟨gb108, 1, none⟩ = some (.string a0_1) := (blk_cell BK108.out 1).trans rfl; have hcz12_2 : w11.cell? ⟨gb108, 2, none⟩ = some (.string a0_2) := (blk_cell BK108.out 2).trans rfl; have hcz12_3 : w11.cell? ⟨gb108, 3, none⟩ = some (.bool a0_3) := (blk_cell BK108.out 3).trans rfl; have hfz12_0 := blk_frozen BK108.out 0; have hfz12_1 := blk_frozen BK108.out 1; have hfz12_2 := blk_frozen BK108.out 2; have hfz12_3 := blk_frozen BK108.out 3))
          go_ret
          exact ⟨by first | rfl | (simp [errW_none, errW_some] <;> rfl) | (simp [*, errW_none, errW_some] <;> rfl), by repeat (first | (with_reducible first | exact HB.out | apply below_alloc | apply pw_below_drewN | apply below_drew1 | refine below_set ?_ GE108.out) | exact HB.out)⟩
      · rw [if_neg c4] at H
        have c4b0 : decide ((a0_1.size : Int) ≤ 200) = false := decide_eq_false c4
        have c4b1 : decide (a0_1.size ≤ 200) = false := decide_eq_false (by omega)
        clear c4
        obtain rfl := Option.some.inj H
        go_enter Try.func17, Try.ntmps17
        go_wp2_with (first | ((with_reducible refine gate_dst (N := 1) rfl ?_); (try (refine gate_guard (by rfl) ?_; dsimp only)); refine box_event ?hg (N := 1) ?hd (cs := #[.int .u64 a0_0, .string a0_1, .string a0_2, .bool a0_3]) (t := 39) ?hr ?_; (case hd => rfl); (case hg => rfl); (case hr => first | (go_simp; done) | (go_simp; rfl)); intro gb108 hg w13 hbox hb; have n0_ := Aside0.mk (below_step (by repeat (first | (with_reducible first | exact HB.out | apply below_alloc | apply pw_below_drewN | apply below_drew1) | exact HB.out)) hb); have n1_ := Aside0.mk (hbox); have n2_ := Aside0.mk ((by rw [hg]; exact (below_size (by repeat (first | (with_reducible first | exact HB.out | apply below_alloc | apply pw_below_drewN | apply below_drew1) | exact HB.out))) : w.heap.size ≤ gb108)); have n3_ := Aside0.mk ((by rw [hg]; exact (below_size (by repeat (first | (with_reducible first | exact HB.out | apply below_alloc | apply pw_below_drewN | apply below_drew1) | exact HB.out))) : w.heap.size ≤ gb108)); clear HB; have HB := n0_; have BK108 := n1_; have GW108 := n2_; have GE108 := n3_; clear n0_ n1_ n2_ n3_; clear hb hbox hg; have hcz14_0 : w13.cell? ⟨gb108, 0, none⟩ = some (.int .u64 a0_0) := (blk_cell BK108.out 0).trans rfl; have hcz14_1 : w13.cell? ⟨gb108, 1, none⟩ = some (.string a0_1) := (blk_cell BK108.out 1).trans rfl; have hcz14_2 : w13.cell? ⟨gb108, 2, none⟩ = some (.string a0_2) := (blk_cell BK108.out 2).trans rfl; have hcz14_3 : w13.cell? ⟨gb108, 3, none⟩ = some (.bool a0_3) := (blk_cell BK108.out 3).trans rfl; have hfz14_0 := blk_frozen BK108.out 0; have hfz14_1 := blk_frozen BK108.out 1; have hfz14_2 := blk_frozen BK108.out 2; have hfz14_3 := blk_frozen BK108.out 3))
        go_ret
        exact ⟨by first | rfl | (simp [errW_none, errW_some] <;> rfl) | (simp [*, errW_none, errW_some] <;> rfl), by repeat (first | (with_reducible first | exact HB.out | apply below_alloc | apply pw_below_drewN | apply below_drew1 | refine below_set ?_ GE108.out) | exact HB.out)⟩
    · rw [if_neg c3] at H
      have c3b0 : decide (1 ≤ (a0_1.size : Int)) = false := decide_eq_false c3
      have c3b1 : decide (1 ≤ a0_1.size) = false := decide_eq_false (by omega)
      clear c3
      obtain rfl := Option.some.inj H
      go_enter Try.func17, Try.ntmps17
      go_wp2_with (first | ((with_reducible refine gate_dst (N := 1) rfl ?_); (try (refine gate_guard (by rfl) ?_; dsimp only)); refine box_event ?hg (N := 1) ?hd (cs := #[.int .u64 a0_0, .string a0_1, .string a0_2, .bool a0_3]) (t := 39) ?hr ?_; (case hd => rfl); (case hg => rfl); (case hr => first | (go_simp; done) | (go_simp; rfl)); intro gb108 hg w15 hbox hb; have n0_ := Aside0.mk (below_step (by repeat (first | (with_reducible first | exact HB.out | apply below_alloc | apply pw_below_drewN | apply below_drew1) | exact HB.out)) hb); have n1_ := Aside0.mk (hbox); have n2_ := Aside0.mk ((by rw [hg]; exact (below_size (by repeat (first | (with_reducible first | exact HB.out | apply below_alloc | apply pw_below_drewN | apply below_drew1) | exact HB.out))) : w.heap.size ≤ gb108)); have n3_ := Aside0.mk ((by rw [hg]; exact (below_size (by repeat (first | (with_reducible first | exact HB.out | apply below_alloc | apply pw_below_drewN | apply below_drew1) | exact HB.out))) : w.heap.size ≤ gb108)); clear HB; have HB := n0_; have BK108 := n1_; have GW108 := n2_; have GE108 := n3_; clear n0_ n1_ n2_ n3_; clear hb hbox hg; have hcz16_0 : w15.cell? ⟨gb108, 0, none⟩ = some (.int .u64 a0_0) := (blk_cell BK108.out 0).trans rfl; have hcz16_1 : w15.cell? ⟨gb108, 1, none⟩ = some (.string a0_1) := (blk_cell BK108.out 1).trans rfl; have hcz16_2 : w15.cell? ⟨gb108, 2, none⟩ = some (.string a0_2) := (blk_cell BK108.out 2).trans rfl; have hcz16_3 : w15.cell? ⟨gb108, 3, none⟩ = some (.bool a0_3) := (blk_cell BK108.out 3).trans rfl; have hfz16_0 := blk_frozen BK108.out 0; have hfz16_1 := blk_frozen BK108.out 1; have hfz16_2 := blk_frozen BK108.out 2; have hfz16_3 := blk_frozen BK108.out 3))
      go_ret
      exact ⟨by first | rfl | (simp [errW_none, errW_some] <;> rfl) | (simp [*, errW_none, errW_some] <;> rfl), by repeat (first | (with_reducible first | exact HB.out | apply below_alloc | apply pw_below_drewN | apply below_drew1 | refine below_set ?_ GE108.out) | exact HB.out)⟩
  · rw [if_neg c2] at H
    have c2b0 : decide (0 < a0_0) = false := decide_eq_false c2
    clear c2
    obtain rfl := Option.some.inj H
    go_enter Try.func17, Try.ntmps17
    go_wp2_with (first | ((with_reducible refine gate_dst (N := 1) rfl ?_); (try (refine gate_guard (by rfl) ?_; dsimp only)); refine box_event ?hg (N := 1) ?hd (cs := #[.int .u64 a0_0, .string a0_1, .string a0_2, .bool a0_3]) (t := 39) ?hr ?_; (case hd => rfl); (case hg => rfl); (case hr => first | (go_simp; done) | (go_simp; rfl)); intro gb108 hg w17 hbox hb; have n0_ := Aside0.mk (below_step (by repeat (first | (with_reducible first | exact HB.out | apply below_alloc | apply pw_below_drewN | apply below_drew1) | exact HB.out)) hb); have n1_ := Aside0.mk (hbox); have n2_ := Aside0.mk ((by rw [hg]; exact (below_size (by repeat (first | (with_reducible first | exact HB.out | apply below_alloc | apply pw_below_drewN | apply below_drew1) | exact HB.out))) : w.heap.size ≤ gb108)); have n3_ := Aside0.mk ((by rw [hg]; exact (below_size (by repeat (first | (with_reducible first | exact HB.out | apply below_alloc | apply pw_below_drewN | apply below_drew1) | exact HB.out))) : w.heap.size ≤ gb108)); clear HB; have HB := n0_; have BK108 := n1_; have GW108 := n2_; have GE108 := n3_; clear n0_ n1_ n2_ n3_; clear hb hbox hg; have hcz18_0 : w17.cell? ⟨gb108, 0, none⟩ = some (.int .u64 a0_0) := (blk_cell BK108.out 0).trans rfl; have hcz18_1 : w17.cell? ⟨gb108, 1, none⟩ = some (.string a0_1) := (blk_cell BK108.out 1).trans rfl; have hcz18_2 : w17.cell? ⟨gb108, 2, none⟩ = some (.string a0_2) := (blk_cell BK108.out 2).trans rfl; have hcz18_3 : w17.cell? ⟨gb108, 3, none⟩ = some (.bool a0_3) := (blk_cell BK108.out 3).trans rfl; have hfz18_0 := blk_frozen BK108.out 0; have hfz18_1 := blk_frozen BK108.out 1; have hfz18_2 := blk_frozen BK108.out 2; have hfz18_3 := blk_frozen BK108.out 3))
    go_ret
    exact ⟨by first | rfl | (simp [errW_none, errW_some] <;> rfl) | (simp [*, errW_none, errW_some] <;> rfl), by repeat (first | (with_reducible first | exact HB.out | apply below_alloc | apply pw_below_drewN | apply below_drew1 | refine below_set ?_ GE108.out) | exact HB.out)⟩

/-! ### cellarerref02_Num: function 32 -/
def cellarerref02_Num.l0 : Nat → Int → ByteArray → Int → Option (ByteArray)
  | 0, _, _, _ => none
  | k + 1, x0, x3, x4 => if x4 < 8 then ((some (([(Int.tmod x0 256) % 256] : List Int) : List Int)).bind fun y109 => (if x3.size + (strOfNums y109).size ≤ 9223372036854775807 then (cellarerref02_Num.l0 k (IntKind.u64.wrap (Int.tdiv x0 256)) (x3 ++ (strOfNums y109)) (wrap64 (x4 + 1))) else (none))) else (some x3)
def cellarerref02_Num.f (k : Nat) (a0 : Int) : Option (ByteArray) := cellarerref02_Num.l0 k a0 (⟨#[]⟩ : ByteArray) 0
theorem cellarerref02_Num.mono_l : ∀ k, (∀ y0 y1 y2, LeO (cellarerref02_Num.l0 k y0 y1 y2) (cellarerref02_Num.l0 (k + 1) y0 y1 y2))
  | 0 => fun _ _ _ r h => by simp [cellarerref02_Num.l0] at h
  | k + 1 => by
    have ih0 := cellarerref02_Num.mono_l k
    · intro y0 y1 y2
      unfold cellarerref02_Num.l0
      repeat' first
      | (with_reducible exact ih0 _ _ _)
      | (with_reducible exact LeO.refl _)
      | (with_reducible exact LeO.none _)
      | (with_reducible refine LeO.ite ?_ ?_)
      | (with_reducible refine LeO.bind ?_ (fun _ => ?_))
      | exact ih0 _ _ _
      | exact LeO.none _
      | refine LeO.ite ?_ ?_
      | refine LeO.bind ?_ (fun _ => ?_)
theorem cellarerref02_Num.mono : ∀ a0 k, LeO (cellarerref02_Num.f k a0) (cellarerref02_Num.f (k + 1) a0) := by
  intro a0 k
  have ih0 := cellarerref02_Num.mono_l k
  unfold cellarerref02_Num.f
  repeat' first
      | (with_reducible exact ih0 _ _ _)
      | (with_reducible exact LeO.refl _)
      | (with_reducible exact LeO.none _)
      | (with_reducible refine LeO.ite ?_ ?_)
      | (with_reducible refine LeO.bind ?_ (fun _ => ?_))
      | exact ih0 _ _ _
      | exact LeO.none _
      | refine LeO.ite ?_ ?_
      | refine LeO.bind ?_ (fun _ => ?_)
set_option maxHeartbeats 8000000 in
set_option maxRecDepth 100000 in
theorem cellarerref02_Num.calls (k : Nat) (a0 : Int) (r : ByteArray) (w : World) (h : cellarerref02_Num.f k a0 = some r) :
    Calls Try.prog 32 #[.int .u64 a0] w fun e w' => e = .returned (.string r) ∧ Below w.heap.size w w' := by
  have HB := Aside0.mk (Below.refl w.heap.size w)
  have H : (cellarerref02_Num.l0 k a0 (⟨#[]⟩ : ByteArray) 0) = some r := h
  clear h
  have H' := Aside0.mk H
  clear H
  go_enter Try.func32, Try.ntmps32
  go_wp2
  go_loopg [0, 3, 4] k (fun kq v0 v3 v4 w' => ∃ (x0_1 : Int) (x3_1 : ByteArray) (x4_1 : Int), v0 = .int .u64 x0_1 ∧ v3 = .string x3_1 ∧ v4 = .int .i64 x4_1 ∧ Aside0 (cellarerref02_Num.l0 kq x0_1 x3_1 x4_1 = some r) ∧ Aside0 (kq ≤ k) ∧ Aside0 (Below w.heap.size w w'))
  case atStart => exact ⟨(a0), ((⟨#[]⟩ : ByteArray)), (0), (by first | rfl | (simp; done) | (simp [*]; done)), (by first | rfl | (simp; done) | (simp [*]; done)), (by first | rfl | (simp; done) | (simp [*]; done)), H', ⟨Nat.le_refl _⟩, ⟨by repeat (first | (with_reducible first | exact HB.out | apply below_alloc | apply pw_below_drewN | apply below_drew1) | exact HB.out)⟩⟩
  case round =>
    clear H'
    obtain ⟨x0_1, x3_1, x4_1, rfl, rfl, rfl, HA, HK1, HB⟩ := hrel
    cases gk with
    | zero => exact absurd HA.out (by simp [cellarerref02_Num.l0])
    | succ k1 =>
      have H := HA.out
      clear HA
      simp only [cellarerref02_Num.l0] at H
      by_cases c2 : x4_1 < 8
      · rw [if_pos c2] at H
        have c2b0 : decide (x4_1 < 8) = true := decide_eq_true c2
        clear c2
        obtain ⟨y109, hy109⟩ : ∃ y_ : List Int, y_ = (([(Int.tmod x0_1 256) % 256] : List Int)) := ⟨_, rfl⟩
        replace H : (if x3_1.size + (strOfNums y109).size ≤ 9223372036854775807 then (cellarerref02_Num.l0 k1 (IntKind.u64.wrap (Int.tdiv x0_1 256)) (x3_1 ++ (strOfNums y109)) (wrap64 (x4_1 + 1))) else (none)) = some r := by first | (rw [hy109]; with_reducible exact H) | (have H2_ := (Option.bind_some _ _).symm.trans H; rw [hy109]; with_reducible exact H2_) | (have H2_ := (Option.bind_some _ _).symm.trans H; with_reducible exact H2_) | with_reducible exact H | (rw [hy109]; exact H) | exact H
        have Ny109 := Aside0.mk hy109
        clear hy109
        by_cases c3 : x3_1.size + (strOfNums y109).size ≤ 9223372036854775807
        · rw [if_pos c3] at H
          have c3b0 := eq_true c3
          have c3b1 : decide (x3_1.size + (strOfNums y109).size ≤ 9223372036854775807) = true := decide_eq_true c3
          try have c3b2 : (9223372036854775807 < x3_1.size + (strOfNums y109).size) = False := eq_false (Nat.not_lt.2 c3)
          have H' := Aside0.mk H
          clear H
          go_wp2_with (first | ((with_reducible refine gate_dst (N := 13) rfl ?_); refine Kd.R_lit (Kd.int .u8) _ 5 ?hg (N := 13) ?hd (xs := ([(Int.tmod x0_1 256) % 256] : List Int)) (inner := [.int .u8 ((Int.tmod x0_1 256) % 256)]) (ok := fun _ => True) (okp := fun _ => True) ?hr ?hp (fun _ hk => hk) trivial (Below.refl _ _) (Nat.le_refl _) (by simp) ?_; (case hd => rfl); (case hg => rfl); (case hr => first | (go_simp; done) | (go_simp; rfl)); (case hp => exact (Reps.one (show Kd.M (Kd.int .u8) _ _ _ ((Int.tmod x0_1 256) % 256) [.int .u8 ((Int.tmod x0_1 256) % 256)] from rfl) (Reps.none _ _))); intro v110 w4 ho5 hb hg_ hnew_; clear hg_ hnew_; (first | rw [← Ny109.out] at ho5 | (simp only [Int.reduceToNat] at ho5; rw [← Ny109.out] at ho5)); have n0_ := Aside0.mk (Kd.R_lower ho5 (below_size (by repeat (first | (with_reducible first | exact HB.out | apply below_alloc | apply pw_below_drewN | apply below_drew1) | exact HB.out)))); have n1_ := Aside0.mk (below_step (by repeat (first | (with_reducible first | exact HB.out | apply below_alloc | apply pw_below_drewN | apply below_drew1) | exact HB.out)) hb); clear HB; have HO111 := n0_; have HB := n1_; clear n0_ n1_; clear hb ho5; have hcv6 := own_string (P := Try.prog) Try.underlying88 Try.underlying5 Try.underlying9 (Kd.own_of_R HO111.out)))
          go_roundg k1
          case measure => have := HK1.out; omega
          case rel => exact ⟨(IntKind.u64.wrap (Int.tdiv x0_1 256)), (x3_1 ++ (strOfNums y109)), (wrap64 (x4_1 + 1)), (by first | rfl | (simp; done) | (simp [*]; done)), (by first | rfl | (simp; done) | (simp [*]; done)), (by first | rfl | (simp; done) | (simp [*]; done)), H', ⟨by have := HK1.out; omega⟩, ⟨by repeat (first | (with_reducible first | exact HB.out | apply below_alloc | apply pw_below_drewN | apply below_drew1) | exact HB.out)⟩⟩
        · rw [if_neg c3] at H
          exact absurd H (by simp)
      · rw [if_neg c2] at H
        have c2b0 : decide (x4_1 < 8) = false := decide_eq_false c2
        clear c2
        obtain rfl := Option.some.inj H
        go_wp2
        go_ret
        exact ⟨by first | rfl | (simp [errW_none, errW_some] <;> rfl) | (simp [*, errW_none, errW_some] <;> rfl), by repeat (first | (with_reducible first | exact HB.out | apply below_alloc | apply pw_below_drewN | apply below_drew1) | exact HB.out)⟩

/-! ### cellarerref02_Count: function 55 -/
def cellarerref02_Count.f (a0 : Int) : Option (ByteArray) := some (strOfNums (([(Int.tmod a0 256) % 256, (wrap64 (Int.tdiv a0 256)) % 256] : List Int)))
set_option maxHeartbeats 8000000 in
set_option maxRecDepth 100000 in
theorem cellarerref02_Count.calls (a0 : Int) (r : ByteArray) (w : World) (h : cellarerref02_Count.f a0 = some r) :
    Calls Try.prog 55 #[.int .i64 a0] w fun e w' => e = .returned (.string r) ∧ Below w.heap.size w w' := by
  have HB := Aside0.mk (Below.refl w.heap.size w)
  have H : (some (strOfNums (([(Int.tmod a0 256) % 256, (wrap64 (Int.tdiv a0 256)) % 256] : List Int)))) = some r := h
  clear h
  obtain ⟨y112, hy112⟩ : ∃ y_ : List Int, y_ = (([(Int.tmod a0 256) % 256, (wrap64 (Int.tdiv a0 256)) % 256] : List Int)) := ⟨_, rfl⟩
  replace H : (some (strOfNums y112)) = some r := by first | (rw [hy112]; with_reducible exact H) | (have H2_ := (Option.bind_some _ _).symm.trans H; rw [hy112]; with_reducible exact H2_) | (have H2_ := (Option.bind_some _ _).symm.trans H; with_reducible exact H2_) | with_reducible exact H | (rw [hy112]; exact H) | exact H
  have Ny112 := Aside0.mk hy112
  clear hy112
  obtain rfl := Option.some.inj H
  go_enter Try.func55, Try.ntmps55
  go_wp2_with (first | ((with_reducible refine gate_dst (N := 9) rfl ?_); refine Kd.R_lit (Kd.int .u8) _ 5 ?hg (N := 9) ?hd (xs := ([(Int.tmod a0 256) % 256, (wrap64 (Int.tdiv a0 256)) % 256] : List Int)) (inner := [.int .u8 ((Int.tmod a0 256) % 256), .int .u8 ((wrap64 (Int.tdiv a0 256)) % 256)]) (ok := fun _ => True) (okp := fun _ => True) ?hr ?hp (fun _ hk => hk) trivial (Below.refl _ _) (Nat.le_refl _) (by simp) ?_; (case hd => rfl); (case hg => rfl); (case hr => first | (go_simp; done) | (go_simp; rfl)); (case hp => exact (Reps.one (show Kd.M (Kd.int .u8) _ _ _ ((Int.tmod a0 256) % 256) [.int .u8 ((Int.tmod a0 256) % 256)] from rfl) (Reps.one (show Kd.M (Kd.int .u8) _ _ _ ((wrap64 (Int.tdiv a0 256)) % 256) [.int .u8 ((wrap64 (Int.tdiv a0 256)) % 256)] from rfl) (Reps.none _ _)))); intro v113 w2 ho3 hb hg_ hnew_; clear hg_ hnew_; (first | rw [← Ny112.out] at ho3 | (simp only [Int.reduceToNat] at ho3; rw [← Ny112.out] at ho3)); have n0_ := Aside0.mk (Kd.R_lower ho3 (below_size (by repeat (first | (with_reducible first | exact HB.out | apply below_alloc | apply pw_below_drewN | apply below_drew1) | exact HB.out)))); have n1_ := Aside0.mk (below_step (by repeat (first | (with_reducible first | exact HB.out | apply below_alloc | apply pw_below_drewN | apply below_drew1) | exact HB.out)) hb); clear HB; have HO114 := n0_; have HB := n1_; clear n0_ n1_; clear hb ho3; have hcv4 := own_string (P := Try.prog) Try.underlying88 Try.underlying5 Try.underlying9 (Kd.own_of_R HO114.out)))
  go_ret
  exact ⟨by first | rfl | (simp [errW_none, errW_some] <;> rfl) | (simp [*, errW_none, errW_some] <;> rfl), by repeat (first | (with_reducible first | exact HB.out | apply below_alloc | apply pw_below_drewN | apply below_drew1) | exact HB.out)⟩

/-! ### cellarerref02_Text: function 56 -/
def cellarerref02_Text.f (a0 : ByteArray) : Option (ByteArray) := (cellarerref02_Count.f (a0.size : Int)).bind fun t115 => (if t115.size + a0.size ≤ 9223372036854775807 then (some (t115 ++ a0)) else (none))
set_option maxHeartbeats 8000000 in
set_option maxRecDepth 100000 in
theorem cellarerref02_Text.calls (a0 : ByteArray) (r : ByteArray) (w : World) (h : cellarerref02_Text.f a0 = some r) :
    Calls Try.prog 56 #[.string a0] w fun e w' => e = .returned (.string r) ∧ Below w.heap.size w w' := by
  have HB := Aside0.mk (Below.refl w.heap.size w)
  have H : ((cellarerref02_Count.f (a0.size : Int)).bind fun t115 => (if t115.size + a0.size ≤ 9223372036854775807 then (some (t115 ++ a0)) else (none))) = some r := h
  clear h
  replace H := Option.bind_eq_some_iff.mp H
  obtain ⟨t115, A20, H⟩ := H
  replace H : (if t115.size + a0.size ≤ 9223372036854775807 then (some (t115 ++ a0)) else (none)) = some r := H
  have A2 := Aside0.mk A20
  clear A20
  by_cases c3 : t115.size + a0.size ≤ 9223372036854775807
  · rw [if_pos c3] at H
    have c3b0 := eq_true c3
    have c3b1 : decide (t115.size + a0.size ≤ 9223372036854775807) = true := decide_eq_true c3
    try have c3b2 : (9223372036854775807 < t115.size + a0.size) = False := eq_false (Nat.not_lt.2 c3)
    obtain rfl := Option.some.inj H
    go_enter Try.func56, Try.ntmps56
    go_wp2_with (first | ((with_reducible refine gate_callee (f := 55) rfl ?_); refine goesL_ (some 5) rfl rfl Try.func55 (by kernel_rfl) rfl #[.int .i64 (a0.size : Int)] rfl (by (try simp only [List.map_toArray, List.map_cons, List.map_nil]); first | done | rfl | (simp only [List.length_drop, List.length_take]; rfl)) ?_; (with_reducible refine (cellarerref02_Count.calls (a0.size : Int) t115 _ A2.out).mono ?_); rintro e w4 ⟨rfl, hb⟩; refine ⟨_, rfl, ?_⟩; have n0_ := Aside0.mk (below_step (by repeat (first | (with_reducible first | exact HB.out | apply below_alloc | apply pw_below_drewN | apply below_drew1) | exact HB.out)) hb); clear HB; have HB := n0_; clear n0_; (try clear hb); (try clear hb2); (try clear hk); (try clear hi)))
    go_ret
    exact ⟨by first | rfl | (simp [errW_none, errW_some] <;> rfl) | (simp [*, errW_none, errW_some] <;> rfl), by repeat (first | (with_reducible first | exact HB.out | apply below_alloc | apply pw_below_drewN | apply below_drew1) | exact HB.out)⟩
  · rw [if_neg c3] at H
    exact absurd H (by simp)

/-! ### cellarerref02_List: function 33 -/
def cellarerref02_List.l0 : Nat → List ByteArray → ByteArray → Int → Option (ByteArray × Bool)
  | 0, _, _, _ => none
  | k + 1, x0, x4, x5 => if x5 < (x0.length : Int) then (if 0 ≤ x5 then (if ((rdOf ByteArray.empty x0 x5).size : Int) > 4000 then (some ((⟨#[]⟩ : ByteArray), false)) else ((cellarerref02_Text.f (rdOf ByteArray.empty x0 x5)).bind fun t119 => (if x4.size + t119.size ≤ 9223372036854775807 then (cellarerref02_List.l0 k x0 (x4 ++ t119) (wrap64 (x5 + 1))) else (none)))) else (none)) else (some (x4, true))
def cellarerref02_List.f (k : Nat) (l0 : List ByteArray) : Option (ByteArray × Bool) := if (l0.length : Int) > 4000 then (some ((⟨#[]⟩ : ByteArray), false)) else ((cellarerref02_Count.f (l0.length : Int)).bind fun t116 => (cellarerref02_List.l0 k l0 t116 0))
theorem cellarerref02_List.mono_l : ∀ k, (∀ y0 y1 y2, LeO (cellarerref02_List.l0 k y0 y1 y2) (cellarerref02_List.l0 (k + 1) y0 y1 y2))
  | 0 => fun _ _ _ r h => by simp [cellarerref02_List.l0] at h
  | k + 1 => by
    have ih0 := cellarerref02_List.mono_l k
    · intro y0 y1 y2
      unfold cellarerref02_List.l0
      repeat' first
      | (with_reducible exact ih0 _ _ _)
      | (with_reducible exact LeO.refl _)
      | (with_reducible exact LeO.none _)
      | (with_reducible refine LeO.ite ?_ ?_)
      | (with_reducible refine LeO.bind ?_ (fun _ => ?_))
      | exact ih0 _ _ _
      | exact LeO.none _
      | refine LeO.ite ?_ ?_
      | refine LeO.bind ?_ (fun _ => ?_)
theorem cellarerref02_List.mono : ∀ a0 k, LeO (cellarerref02_List.f k a0) (cellarerref02_List.f (k + 1) a0) := by
  intro a0 k
  have ih0 := cellarerref02_List.mono_l k
  unfold cellarerref02_List.f
  repeat' first
      | (with_reducible exact ih0 _ _ _)
      | (with_reducible exact LeO.refl _)
      | (with_reducible exact LeO.none _)
      | (with_reducible refine LeO.ite ?_ ?_)
      | (with_reducible refine LeO.bind ?_ (fun _ => ?_))
      | exact ih0 _ _ _
      | exact LeO.none _
      | refine LeO.ite ?_ ?_
      | refine LeO.bind ?_ (fun _ => ?_)
set_option maxHeartbeats 8000000 in
set_option maxRecDepth 100000 in
theorem cellarerref02_List.calls (k : Nat) (A0 : Option Addr) (c0 : Nat) (l0 : List ByteArray) (r1 : ByteArray) (r2 : Bool) (w : World) (hr0 : Kd.C Kd.string w A0 l0.length l0) (hc0 : l0.length ≤ c0) (h : cellarerref02_List.f k l0 = some (r1, r2)) :
    Calls Try.prog 33 #[.slice A0 l0.length c0] w fun e w' => e = .returned (.tuple #[.string r1, .bool r2]) ∧ Below w.heap.size w w' := by
  have HR0 := Aside0.mk hr0
  have HC0 := Aside0.mk hc0
  clear hr0 hc0
  have HB := Aside0.mk (Below.refl w.heap.size w)
  have H : (if (l0.length : Int) > 4000 then (some ((⟨#[]⟩ : ByteArray), false)) else ((cellarerref02_Count.f (l0.length : Int)).bind fun t116 => (cellarerref02_List.l0 k l0 t116 0))) = some (r1, r2) := h
  clear h
  by_cases c2 : (l0.length : Int) > 4000
  · rw [if_pos c2] at H
    have c2b0 : decide (4000 < (l0.length : Int)) = true := decide_eq_true c2
    have c2b1 : decide (4000 < l0.length) = true := decide_eq_true (by omega)
    clear c2
    simp only [Option.some.injEq, Prod.mk.injEq] at H
    obtain ⟨rfl, rfl⟩ := H
    go_enter Try.func33, Try.ntmps33
    go_wp2
    go_ret2
    exact ⟨by first | rfl | (simp [errW_none, errW_some] <;> rfl) | (simp [*, errW_none, errW_some] <;> rfl), by repeat (first | (with_reducible first | exact HB.out | apply below_alloc | apply pw_below_drewN | apply below_drew1) | exact HB.out)⟩
  · rw [if_neg c2] at H
    have c2b0 : decide (4000 < (l0.length : Int)) = false := decide_eq_false c2
    have c2b1 : decide (4000 < l0.length) = false := decide_eq_false (by omega)
    clear c2
    replace H := Option.bind_eq_some_iff.mp H
    obtain ⟨t116, A30, H⟩ := H
    replace H : (cellarerref02_List.l0 k l0 t116 0) = some (r1, r2) := H
    have A3 := Aside0.mk A30
    clear A30
    have H' := Aside0.mk H
    clear H
    go_enter Try.func33, Try.ntmps33
    go_wp2_with (first | ((with_reducible refine gate_callee (f := 55) rfl ?_); refine goesL_ (some 11) rfl rfl Try.func55 (by kernel_rfl) rfl #[.int .i64 (l0.length : Int)] rfl (by (try simp only [List.map_toArray, List.map_cons, List.map_nil]); first | done | rfl | (simp only [List.length_drop, List.length_take]; rfl)) ?_; (with_reducible refine (cellarerref02_Count.calls (l0.length : Int) t116 _ A3.out).mono ?_); rintro e w4 ⟨rfl, hb⟩; refine ⟨_, rfl, ?_⟩; have n0_ := Aside0.mk (below_step (by repeat (first | (with_reducible first | exact HB.out | apply below_alloc | apply pw_below_drewN | apply below_drew1) | exact HB.out)) hb); clear HB; have HB := n0_; clear n0_; (try clear hb); (try clear hb2); (try clear hk); (try clear hi)))
    go_loopg [4, 5] k (fun kq v4 v5 w' => ∃ (x4_1 : ByteArray) (x5_1 : Int), v4 = .string x4_1 ∧ v5 = .int .i64 x5_1 ∧ Aside0 (cellarerref02_List.l0 kq l0 x4_1 x5_1 = some (r1, r2)) ∧ Aside0 (kq ≤ k) ∧ Aside0 (Below w.heap.size w w'))
    case atStart => exact ⟨(t116), (0), (by first | rfl | (simp; done) | (simp [*]; done)), (by first | rfl | (simp; done) | (simp [*]; done)), H', ⟨Nat.le_refl _⟩, ⟨by repeat (first | (with_reducible first | exact HB.out | apply below_alloc | apply pw_below_drewN | apply below_drew1) | exact HB.out)⟩⟩
    case round =>
      clear H'
      try clear c2
      try clear c2b0
      try clear c2b1
      try clear p2
      try clear c3
      obtain ⟨x4_1, x5_1, rfl, rfl, HA, HK1, HB⟩ := hrel
      cases gk with
      | zero => exact absurd HA.out (by simp [cellarerref02_List.l0])
      | succ k1 =>
        have H := HA.out
        clear HA
        simp only [cellarerref02_List.l0] at H
        by_cases c5 : x5_1 < (l0.length : Int)
        · rw [if_pos c5] at H
          have c5b0 : decide (x5_1 < (l0.length : Int)) = true := decide_eq_true c5
          clear c5
          by_cases c6 : 0 ≤ x5_1
          · rw [if_pos c6] at H
            have c6b0 : decide (0 ≤ x5_1) = true := decide_eq_true c6
            clear c6
            by_cases c7 : ((rdOf ByteArray.empty l0 x5_1).size : Int) > 4000
            · rw [if_pos c7] at H
              have c7b0 : decide (4000 < ((rdOf ByteArray.empty l0 x5_1).size : Int)) = true := decide_eq_true c7
              have c7b1 : decide (4000 < (rdOf ByteArray.empty l0 x5_1).size) = true := decide_eq_true (by omega)
              clear c7
              simp only [Option.some.injEq, Prod.mk.injEq] at H
              obtain ⟨rfl, rfl⟩ := H
              have p117 : 0 ≤ (x5_1 : Int) := of_decide_eq_true (by first | (with_reducible assumption) | assumption)
              have q117 : x5_1 < (l0.length : Int) := of_decide_eq_true (by first | (with_reducible assumption) | assumption)
              obtain ⟨ad117, e117, hx117_0⟩ := Kd.at_string HR0.out x5_1 p117 q117
              cases e117
              replace hx117_0 := (HB.out.cell (World.block_lt_of_cell? w _ hx117_0)).trans hx117_0
              replace p117 := eq_true p117
              replace q117 := eq_true q117
              go_wp2
              go_ret2
              exact ⟨by first | rfl | (simp [errW_none, errW_some] <;> rfl) | (simp [*, errW_none, errW_some] <;> rfl), by repeat (first | (with_reducible first | exact HB.out | apply below_alloc | apply pw_below_drewN | apply below_drew1) | exact HB.out)⟩
            · rw [if_neg c7] at H
              have c7b0 : decide (4000 < ((rdOf ByteArray.empty l0 x5_1).size : Int)) = false := decide_eq_false c7
              have c7b1 : decide (4000 < (rdOf ByteArray.empty l0 x5_1).size) = false := decide_eq_false (by omega)
              clear c7
              replace H := Option.bind_eq_some_iff.mp H
              obtain ⟨t119, A80, H⟩ := H
              replace H : (if x4_1.size + t119.size ≤ 9223372036854775807 then (cellarerref02_List.l0 k1 l0 (x4_1 ++ t119) (wrap64 (x5_1 + 1))) else (none)) = some (r1, r2) := H
              have A8 := Aside0.mk A80
              clear A80
              by_cases c9 : x4_1.size + t119.size ≤ 9223372036854775807
              · rw [if_pos c9] at H
                have c9b0 := eq_true c9
                have c9b1 : decide (x4_1.size + t119.size ≤ 9223372036854775807) = true := decide_eq_true c9
                try have c9b2 : (9223372036854775807 < x4_1.size + t119.size) = False := eq_false (Nat.not_lt.2 c9)
                have H' := Aside0.mk H
                clear H
                have p117 : 0 ≤ (x5_1 : Int) := of_decide_eq_true (by first | (with_reducible assumption) | assumption)
                have q117 : x5_1 < (l0.length : Int) := of_decide_eq_true (by first | (with_reducible assumption) | assumption)
                obtain ⟨ad117, e117, hx117_0⟩ := Kd.at_string HR0.out x5_1 p117 q117
                cases e117
                replace hx117_0 := (HB.out.cell (World.block_lt_of_cell? w _ hx117_0)).trans hx117_0
                replace p117 := eq_true p117
                replace q117 := eq_true q117
                have p118 : 0 ≤ (x5_1 : Int) := of_decide_eq_true (by first | (with_reducible assumption) | assumption)
                have q118 : x5_1 < (l0.length : Int) := of_decide_eq_true (by first | (with_reducible assumption) | assumption)
                obtain ⟨ad118, e118, hx118_0⟩ := Kd.at_string HR0.out x5_1 p118 q118
                obtain rfl : ad117 = ad118 := (by injection e118)
                replace hx118_0 := (HB.out.cell (World.block_lt_of_cell? w _ hx118_0)).trans hx118_0
                replace p118 := eq_true p118
                replace q118 := eq_true q118
                go_wp2_with (first | ((with_reducible refine gate_callee (f := 56) rfl ?_); refine goesL_ (some 29) rfl rfl Try.func56 (by kernel_rfl) rfl #[.string (rdOf ByteArray.empty l0 x5_1)] rfl (by (try simp only [List.map_toArray, List.map_cons, List.map_nil]); first | done | rfl | (simp only [List.length_drop, List.length_take]; rfl)) ?_; (with_reducible refine (cellarerref02_Text.calls (rdOf ByteArray.empty l0 x5_1) t119 _ A8.out).mono ?_); rintro e w10 ⟨rfl, hb⟩; refine ⟨_, rfl, ?_⟩; have n0_ := Aside0.mk (below_step (by repeat (first | (with_reducible first | exact HB.out | apply below_alloc | apply pw_below_drewN | apply below_drew1) | exact HB.out)) hb); clear HB; have HB := n0_; clear n0_; (try clear hb); (try clear hb2); (try clear hk); (try clear hi)))
                go_roundg k1
                case measure => have := HK1.out; omega
                case rel => exact ⟨(x4_1 ++ t119), (wrap64 (x5_1 + 1)), (by first | rfl | (simp; done) | (simp [*]; done)), (by first | rfl | (simp; done) | (simp [*]; done)), H', ⟨by have := HK1.out; omega⟩, ⟨by repeat (first | (with_reducible first | exact HB.out | apply below_alloc | apply pw_below_drewN | apply below_drew1) | exact HB.out)⟩⟩
              · rw [if_neg c9] at H
                exact absurd H (by simp)
          · rw [if_neg c6] at H
            exact absurd H (by simp)
        · rw [if_neg c5] at H
          have c5b0 : decide (x5_1 < (l0.length : Int)) = false := decide_eq_false c5
          clear c5
          simp only [Option.some.injEq, Prod.mk.injEq] at H
          obtain ⟨rfl, rfl⟩ := H
          go_wp2
          go_ret2
          exact ⟨by first | rfl | (simp [errW_none, errW_some] <;> rfl) | (simp [*, errW_none, errW_some] <;> rfl), by repeat (first | (with_reducible first | exact HB.out | apply below_alloc | apply pw_below_drewN | apply below_drew1) | exact HB.out)⟩

-- NOT PRINTED: function 12 (cellarerref12_Lay)

/-! ### wire_cut: function 59 -/
def wire_cut.f (a0 : ByteArray) (a1 : Int) : Option (ByteArray × ByteArray × Int) := if (a0.size : Int) < a1 then (some ((⟨#[]⟩ : ByteArray), (⟨#[]⟩ : ByteArray), 3)) else (if 0 ≤ a1 then (if a1 ≤ (a0.size : Int) then (some (a0.extract 0 (a1 : Int).toNat, a0.extract (a1 : Int).toNat a0.size, 0)) else (none)) else (none))
set_option maxHeartbeats 8000000 in
set_option maxRecDepth 100000 in
theorem wire_cut.calls (a0 : ByteArray) (a1 : Int) (r1 : ByteArray) (r2 : ByteArray) (r3 : Int) (w : World) (h : wire_cut.f a0 a1 = some (r1, r2, r3)) :
    Calls Try.prog 59 #[.string a0, .int .i64 a1] w fun e w' => e = .returned (.tuple #[.string r1, .string r2, .int .i64 r3]) ∧ Drawn0 w w' := by
  have H : (if (a0.size : Int) < a1 then (some ((⟨#[]⟩ : ByteArray), (⟨#[]⟩ : ByteArray), 3)) else (if 0 ≤ a1 then (if a1 ≤ (a0.size : Int) then (some (a0.extract 0 (a1 : Int).toNat, a0.extract (a1 : Int).toNat a0.size, 0)) else (none)) else (none))) = some (r1, r2, r3) := h
  clear h
  by_cases c3 : (a0.size : Int) < a1
  · rw [if_pos c3] at H
    have c3b0 : decide ((a0.size : Int) < a1) = true := decide_eq_true c3
    clear c3
    simp only [Option.some.injEq, Prod.mk.injEq] at H
    obtain ⟨rfl, rfl, rfl⟩ := H
    go_enter Try.func59, Try.ntmps59
    go_wp2
    repeat (go_quiet (fail); try go_wp2)
    go_ret3
    exact ⟨by first | rfl | (simp; done) | (simp [*]; done), by repeat (first | exact Drawn0.refl _ | apply Drawn0.step)⟩
  · rw [if_neg c3] at H
    have c3b0 : decide ((a0.size : Int) < a1) = false := decide_eq_false c3
    clear c3
    by_cases c4 : 0 ≤ a1
    · rw [if_pos c4] at H
      have c4b0 := eq_true c4
      have c4b1 : decide (0 ≤ a1) = true := decide_eq_true c4
      clear c4
      by_cases c5 : a1 ≤ (a0.size : Int)
      · rw [if_pos c5] at H
        have c5b0 := eq_true c5
        have c5b1 : decide (a1 ≤ (a0.size : Int)) = true := decide_eq_true c5
        clear c5
        have c6b0 := eq_true (of_decide_eq_true (by first | (with_reducible assumption) | assumption) : 0 ≤ a1)
        have c7b0 := eq_true (of_decide_eq_true (by first | (with_reducible assumption) | assumption) : a1 ≤ (a0.size : Int))
        simp only [Option.some.injEq, Prod.mk.injEq] at H
        obtain ⟨rfl, rfl, rfl⟩ := H
        go_enter Try.func59, Try.ntmps59
        go_wp2
        repeat (go_quiet (fail); try go_wp2)
        go_ret3
        exact ⟨by first | rfl | (simp; done) | (simp [*]; done), by repeat (first | exact Drawn0.refl _ | apply Drawn0.step)⟩
      · rw [if_neg c5] at H
        exact absurd H (by simp)
    · rw [if_neg c4] at H
      exact absurd H (by simp)

/-! ### wire_read: function 60 -/
def wire_read.l0 : Nat → ByteArray → Int → Int → Int → Option (Int)
  | 0, _, _, _, _ => none
  | k + 1, x0, x3, x6, x7 => if x7 < x6 then (if 0 ≤ x7 then (if x7 < (x0.size : Int) then (if 0 ≤ (wrap64 (8 * x7)) then (wire_read.l0 k x0 (Go.bits .or .u64 x3 (shl .u64 (IntKind.u64.wrap (bt x0 x7)) (wrap64 (8 * x7)))) x6 (wrap64 (x7 + 1))) else (none)) else (none)) else (none)) else (some x3)
def wire_read.f (k : Nat) (a0 : ByteArray) : Option (Int) := wire_read.l0 k a0 0 (a0.size : Int) 0
theorem wire_read.mono_l : ∀ k, (∀ y0 y1 y2 y3, LeO (wire_read.l0 k y0 y1 y2 y3) (wire_read.l0 (k + 1) y0 y1 y2 y3))
  | 0 => fun _ _ _ _ r h => by simp [wire_read.l0] at h
  | k + 1 => by
    have ih0 := wire_read.mono_l k
    · intro y0 y1 y2 y3
      unfold wire_read.l0
      repeat' first
      | (with_reducible exact ih0 _ _ _ _)
      | (with_reducible exact LeO.refl _)
      | (with_reducible exact LeO.none _)
      | (with_reducible refine LeO.ite ?_ ?_)
      | (with_reducible refine LeO.bind ?_ (fun _ => ?_))
      | exact ih0 _ _ _ _
      | exact LeO.none _
      | refine LeO.ite ?_ ?_
      | refine LeO.bind ?_ (fun _ => ?_)
theorem wire_read.mono : ∀ a0 k, LeO (wire_read.f k a0) (wire_read.f (k + 1) a0) := by
  intro a0 k
  have ih0 := wire_read.mono_l k
  unfold wire_read.f
  repeat' first
      | (with_reducible exact ih0 _ _ _ _)
      | (with_reducible exact LeO.refl _)
      | (with_reducible exact LeO.none _)
      | (with_reducible refine LeO.ite ?_ ?_)
      | (with_reducible refine LeO.bind ?_ (fun _ => ?_))
      | exact ih0 _ _ _ _
      | exact LeO.none _
      | refine LeO.ite ?_ ?_
      | refine LeO.bind ?_ (fun _ => ?_)
set_option maxHeartbeats 8000000 in
set_option maxRecDepth 100000 in
theorem wire_read.calls (k : Nat) (a0 : ByteArray) (r : Int) (w : World) (h : wire_read.f k a0 = some r) :
    Calls Try.prog 60 #[.string a0] w fun e w' => e = .returned (.int .u64 r) ∧ Drawn0 w w' := by
  have H : (wire_read.l0 k a0 0 (a0.size : Int) 0) = some r := h
  clear h
  have H' := Aside0.mk H
  clear H
  go_enter Try.func60, Try.ntmps60
  go_wp2
  go_loopg [3, 7] k (fun kq v3 v7 w' => ∃ (x3_1 : Int) (x7_1 : Int), v3 = .int .u64 x3_1 ∧ v7 = .int .i64 x7_1 ∧ Aside0 (wire_read.l0 kq a0 x3_1 (a0.size : Int) x7_1 = some r) ∧ Aside0 (kq ≤ k) ∧ Drawn0 w w')
  case atStart => exact ⟨(0), (0), (by first | rfl | (simp; done) | (simp [*]; done)), (by first | rfl | (simp; done) | (simp [*]; done)), H', ⟨Nat.le_refl _⟩, by repeat (first | exact Drawn0.refl _ | apply Drawn0.step)⟩
  case round =>
    clear H'
    obtain ⟨x3_1, x7_1, rfl, rfl, HA, HK1, ⟨m1, rfl⟩⟩ := hrel
    cases gk with
    | zero => exact absurd HA.out (by simp [wire_read.l0])
    | succ k1 =>
      have H := HA.out
      clear HA
      simp only [wire_read.l0] at H
      by_cases c2 : x7_1 < (a0.size : Int)
      · rw [if_pos c2] at H
        have c2b0 : decide (x7_1 < (a0.size : Int)) = true := decide_eq_true c2
        clear c2
        by_cases c3 : 0 ≤ x7_1
        · rw [if_pos c3] at H
          have c3b0 : decide (0 ≤ x7_1) = true := decide_eq_true c3
          clear c3
          by_cases c4 : x7_1 < (a0.size : Int)
          · rw [if_pos c4] at H
            have c4b0 : decide (x7_1 < (a0.size : Int)) = true := decide_eq_true c4
            clear c4
            obtain ⟨ji6, hji6⟩ : ∃ j_ : Int, (wrap64 (8 * x7_1)) = j_ := ⟨_, rfl⟩
            replace H : (if 0 ≤ (ji6) then (wire_read.l0 k1 a0 (Go.bits .or .u64 x3_1 (shl .u64 (IntKind.u64.wrap (bt a0 x7_1)) (ji6))) (a0.size : Int) (wrap64 (x7_1 + 1))) else (none)) = some r := by first | (rw [hji6] at H; exact H) | (simp only [hji6] at H ⊢; exact H)
            have hji6w : (IntKind.i64.wrap (8 * x7_1)) = ji6 := (i64_w _).trans hji6
            by_cases c7 : 0 ≤ (ji6)
            · rw [if_pos c7] at H
              have c7b0 := eq_true c7
              have c7b1 : decide (0 ≤ (ji6)) = true := decide_eq_true c7
              clear c7
              obtain ⟨ji8, hji8⟩ : ∃ j_ : Int, (shl .u64 (IntKind.u64.wrap (bt a0 x7_1)) (ji6)) = j_ := ⟨_, rfl⟩
              replace H : (wire_read.l0 k1 a0 (Go.bits .or .u64 x3_1 (ji8)) (a0.size : Int) (wrap64 (x7_1 + 1))) = some r := by first | (rw [hji8] at H; exact H) | (simp only [hji8] at H ⊢; exact H)
              have hji8_ : (IntKind.u64.wrap ((IntKind.u64.wrap (bt a0 x7_1)) * 2 ^ min (ji6).toNat 64)) = ji8 := hji8
              have hji8z : (ji6) ≤ 64 → (IntKind.u64.wrap ((IntKind.u64.wrap (bt a0 x7_1)) * 2 ^ (ji6).toNat)) = ji8 := shl_small hji8
              have H' := Aside0.mk H
              clear H
              have p5 : 0 ≤ (x7_1 : Int) := of_decide_eq_true (by first | (with_reducible assumption) | assumption)
              have q5 : x7_1 < (a0.size : Int) := of_decide_eq_true (by first | (with_reducible assumption) | assumption)
              have hx5 := bt_at a0 x7_1
              replace p5 := eq_true p5
              replace q5 := eq_true q5
              go_wp2
              go_roundg k1
              case measure => have := HK1.out; omega
              case rel => exact ⟨(Go.bits .or .u64 x3_1 (ji8)), (wrap64 (x7_1 + 1)), (by first | rfl | (simp; done) | (simp only [← hji8] <;> (first | rfl | simp)) | (simp [*]; done)), (by first | rfl | (simp; done) | (simp [*]; done)), H', ⟨by have := HK1.out; omega⟩, by repeat (first | exact Drawn0.refl _ | apply Drawn0.step)⟩
            · rw [if_neg c7] at H
              exact absurd H (by simp)
          · rw [if_neg c4] at H
            exact absurd H (by simp)
        · rw [if_neg c3] at H
          exact absurd H (by simp)
      · rw [if_neg c2] at H
        have c2b0 : decide (x7_1 < (a0.size : Int)) = false := decide_eq_false c2
        clear c2
        obtain rfl := Option.some.inj H
        go_wp2
        go_ret
        exact ⟨by first | rfl | (simp; done) | (simp [*]; done), by repeat (first | exact Drawn0.refl _ | apply Drawn0.step)⟩

/-! ### wire_count: function 68 -/
def wire_count.f (k : Nat) (a0 : ByteArray) : Option (Int × ByteArray × Int) := (wire_cut.f a0 2).bind fun bt120 => ((wire_read.f k bt120.1).bind fun t123 => (if bt120.2.2 = 0 then (if (wrap64 (t123)) > 4000 then (some (0, (⟨#[]⟩ : ByteArray), 2)) else (some (wrap64 (t123), bt120.2.1, 0))) else (some (0, (⟨#[]⟩ : ByteArray), bt120.2.2))))
theorem wire_count.mono : ∀ a0 k, LeO (wire_count.f k a0) (wire_count.f (k + 1) a0) := by
  intro a0 k
  unfold wire_count.f
  repeat' first
      | (with_reducible exact wire_read.mono _ _)
      | (with_reducible exact LeO.refl _)
      | (with_reducible exact LeO.none _)
      | (with_reducible refine LeO.ite ?_ ?_)
      | (with_reducible refine LeO.bind ?_ (fun _ => ?_))
      | exact wire_read.mono _ _
      | exact LeO.none _
      | refine LeO.ite ?_ ?_
      | refine LeO.bind ?_ (fun _ => ?_)
set_option maxHeartbeats 8000000 in
set_option maxRecDepth 100000 in
theorem wire_count.calls (k : Nat) (a0 : ByteArray) (r1 : Int) (r2 : ByteArray) (r3 : Int) (w : World) (h : wire_count.f k a0 = some (r1, r2, r3)) :
    Calls Try.prog 68 #[.string a0] w fun e w' => e = .returned (.tuple #[.int .i64 r1, .string r2, .int .i64 r3]) ∧ Drawn0 w w' := by
  have H : ((wire_cut.f a0 2).bind fun bt120 => ((wire_read.f k bt120.1).bind fun t123 => (if bt120.2.2 = 0 then (if (wrap64 (t123)) > 4000 then (some (0, (⟨#[]⟩ : ByteArray), 2)) else (some (wrap64 (t123), bt120.2.1, 0))) else (some (0, (⟨#[]⟩ : ByteArray), bt120.2.2))))) = some (r1, r2, r3) := h
  clear h
  replace H := Option.bind_eq_some_iff.mp H
  obtain ⟨⟨t120, t121, t122⟩, A20, H⟩ := H
  replace H : ((wire_read.f k t120).bind fun t123 => (if t122 = 0 then (if (wrap64 (t123)) > 4000 then (some (0, (⟨#[]⟩ : ByteArray), 2)) else (some (wrap64 (t123), t121, 0))) else (some (0, (⟨#[]⟩ : ByteArray), t122)))) = some (r1, r2, r3) := H
  have A2 := Aside0.mk A20
  clear A20
  replace H := Option.bind_eq_some_iff.mp H
  obtain ⟨t123, A30, H⟩ := H
  replace H : (if t122 = 0 then (if (wrap64 (t123)) > 4000 then (some (0, (⟨#[]⟩ : ByteArray), 2)) else (some (wrap64 (t123), t121, 0))) else (some (0, (⟨#[]⟩ : ByteArray), t122))) = some (r1, r2, r3) := H
  have A3 := Aside0.mk A30
  clear A30
  by_cases c4 : t122 = 0
  · rw [if_pos c4] at H
    have c4b0 : (t122 == 0) = true := beq_iff_eq.mpr c4
    have c4b1 : (t122 != 0) = false := bne_eq_false_iff_eq.mpr c4
    clear c4
    by_cases c5 : (wrap64 (t123)) > 4000
    · rw [if_pos c5] at H
      have c5b0 : decide (4000 < (wrap64 (t123))) = true := decide_eq_true c5
      clear c5
      simp only [Option.some.injEq, Prod.mk.injEq] at H
      obtain ⟨rfl, rfl, rfl⟩ := H
      go_enter Try.func68, Try.ntmps68
      go_wp2_with (first | ((with_reducible refine gate_callee (f := 59) rfl ?_); refine goesL_ (some 11) rfl rfl Try.func59 (by kernel_rfl) rfl #[.string a0, .int .i64 2] rfl (by (try simp only [List.map_toArray, List.map_cons, List.map_nil]); first | done | rfl | (simp only [List.length_drop, List.length_take]; rfl)) ?_; (with_reducible refine (wire_cut.calls a0 2 t120 t121 t122 _ A2.out).mono ?_); rintro e w' ⟨rfl, ⟨nd, rfl⟩⟩; refine ⟨_, rfl, ?_⟩) | ((with_reducible refine gate_callee (f := 60) rfl ?_); refine goesL_ (some 16) rfl rfl Try.func60 (by kernel_rfl) rfl #[.string t120] rfl (by (try simp only [List.map_toArray, List.map_cons, List.map_nil]); first | done | rfl | (simp only [List.length_drop, List.length_take]; rfl)) ?_; (with_reducible refine (wire_read.calls k t120 t123 _ A3.out).mono ?_); rintro e w' ⟨rfl, ⟨nd, rfl⟩⟩; refine ⟨_, rfl, ?_⟩))
      go_ret3
      exact ⟨by first | rfl | (simp; done) | (simp [*]; done), by repeat (first | exact Drawn0.refl _ | apply Drawn0.step)⟩
    · rw [if_neg c5] at H
      have c5b0 : decide (4000 < (wrap64 (t123))) = false := decide_eq_false c5
      clear c5
      simp only [Option.some.injEq, Prod.mk.injEq] at H
      obtain ⟨rfl, rfl, rfl⟩ := H
      go_enter Try.func68, Try.ntmps68
      go_wp2_with (first | ((with_reducible refine gate_callee (f := 59) rfl ?_); refine goesL_ (some 11) rfl rfl Try.func59 (by kernel_rfl) rfl #[.string a0, .int .i64 2] rfl (by (try simp only [List.map_toArray, List.map_cons, List.map_nil]); first | done | rfl | (simp only [List.length_drop, List.length_take]; rfl)) ?_; (with_reducible refine (wire_cut.calls a0 2 t120 t121 t122 _ A2.out).mono ?_); rintro e w' ⟨rfl, ⟨nd, rfl⟩⟩; refine ⟨_, rfl, ?_⟩) | ((with_reducible refine gate_callee (f := 60) rfl ?_); refine goesL_ (some 16) rfl rfl Try.func60 (by kernel_rfl) rfl #[.string t120] rfl (by (try simp only [List.map_toArray, List.map_cons, List.map_nil]); first | done | rfl | (simp only [List.length_drop, List.length_take]; rfl)) ?_; (with_reducible refine (wire_read.calls k t120 t123 _ A3.out).mono ?_); rintro e w' ⟨rfl, ⟨nd, rfl⟩⟩; refine ⟨_, rfl, ?_⟩))
      go_ret3
      exact ⟨by first | rfl | (simp; done) | (simp [*]; done), by repeat (first | exact Drawn0.refl _ | apply Drawn0.step)⟩
  · rw [if_neg c4] at H
    have c4b0 : (t122 == 0) = false := beq_eq_false_iff_ne.mpr c4
    have c4b1 : (t122 != 0) = true := bne_iff_ne.mpr c4
    simp only [Option.some.injEq, Prod.mk.injEq] at H
    obtain ⟨rfl, rfl, rfl⟩ := H
    go_enter Try.func68, Try.ntmps68
    go_wp2_with (first | ((with_reducible refine gate_callee (f := 59) rfl ?_); refine goesL_ (some 11) rfl rfl Try.func59 (by kernel_rfl) rfl #[.string a0, .int .i64 2] rfl (by (try simp only [List.map_toArray, List.map_cons, List.map_nil]); first | done | rfl | (simp only [List.length_drop, List.length_take]; rfl)) ?_; (with_reducible refine (wire_cut.calls a0 2 t120 t121 t122 _ A2.out).mono ?_); rintro e w' ⟨rfl, ⟨nd, rfl⟩⟩; refine ⟨_, rfl, ?_⟩) | ((with_reducible refine gate_callee (f := 60) rfl ?_); refine goesL_ (some 16) rfl rfl Try.func60 (by kernel_rfl) rfl #[.string t120] rfl (by (try simp only [List.map_toArray, List.map_cons, List.map_nil]); first | done | rfl | (simp only [List.length_drop, List.length_take]; rfl)) ?_; (with_reducible refine (wire_read.calls k t120 t123 _ A3.out).mono ?_); rintro e w' ⟨rfl, ⟨nd, rfl⟩⟩; refine ⟨_, rfl, ?_⟩))
    go_ret3
    exact ⟨by first | rfl | (simp; done) | (simp [*]; done), by repeat (first | exact Drawn0.refl _ | apply Drawn0.step)⟩

-- NOT PRINTED: function 57 (wire_TakeList)

-- NOT PRINTED: function 34 (wire_Whole)

-- NOT PRINTED: function 35 (slices_Chunk_string_string)

/-! ### wire_TakeNum: function 36 -/
def wire_TakeNum.f (k : Nat) (a0 : ByteArray) : Option (Int × ByteArray × Int) := (wire_cut.f a0 8).bind fun bt127 => (if bt127.2.2 = 0 then ((wire_read.f k bt127.1).bind fun t130 => (some (t130, bt127.2.1, 0))) else (some (0, (⟨#[]⟩ : ByteArray), bt127.2.2)))
theorem wire_TakeNum.mono : ∀ a0 k, LeO (wire_TakeNum.f k a0) (wire_TakeNum.f (k + 1) a0) := by
  intro a0 k
  unfold wire_TakeNum.f
  repeat' first
      | (with_reducible exact wire_read.mono _ _)
      | (with_reducible exact LeO.refl _)
      | (with_reducible exact LeO.none _)
      | (with_reducible refine LeO.ite ?_ ?_)
      | (with_reducible refine LeO.bind ?_ (fun _ => ?_))
      | exact wire_read.mono _ _
      | exact LeO.none _
      | refine LeO.ite ?_ ?_
      | refine LeO.bind ?_ (fun _ => ?_)
set_option maxHeartbeats 8000000 in
set_option maxRecDepth 100000 in
theorem wire_TakeNum.calls (k : Nat) (a0 : ByteArray) (r1 : Int) (r2 : ByteArray) (r3 : Int) (w : World) (h : wire_TakeNum.f k a0 = some (r1, r2, r3)) :
    Calls Try.prog 36 #[.string a0] w fun e w' => e = .returned (.tuple #[.int .u64 r1, .string r2, .int .i64 r3]) ∧ Drawn0 w w' := by
  have H : ((wire_cut.f a0 8).bind fun bt127 => (if bt127.2.2 = 0 then ((wire_read.f k bt127.1).bind fun t130 => (some (t130, bt127.2.1, 0))) else (some (0, (⟨#[]⟩ : ByteArray), bt127.2.2)))) = some (r1, r2, r3) := h
  clear h
  replace H := Option.bind_eq_some_iff.mp H
  obtain ⟨⟨t127, t128, t129⟩, A20, H⟩ := H
  replace H : (if t129 = 0 then ((wire_read.f k t127).bind fun t130 => (some (t130, t128, 0))) else (some (0, (⟨#[]⟩ : ByteArray), t129))) = some (r1, r2, r3) := H
  have A2 := Aside0.mk A20
  clear A20
  by_cases c3 : t129 = 0
  · rw [if_pos c3] at H
    have c3b0 : (t129 == 0) = true := beq_iff_eq.mpr c3
    have c3b1 : (t129 != 0) = false := bne_eq_false_iff_eq.mpr c3
    clear c3
    replace H := Option.bind_eq_some_iff.mp H
    obtain ⟨t130, A40, H⟩ := H
    replace H : (some (t130, t128, 0)) = some (r1, r2, r3) := H
    have A4 := Aside0.mk A40
    clear A40
    simp only [Option.some.injEq, Prod.mk.injEq] at H
    obtain ⟨rfl, rfl, rfl⟩ := H
    go_enter Try.func36, Try.ntmps36
    go_wp2_with (first | ((with_reducible refine gate_callee (f := 59) rfl ?_); refine goesL_ (some 10) rfl rfl Try.func59 (by kernel_rfl) rfl #[.string a0, .int .i64 8] rfl (by (try simp only [List.map_toArray, List.map_cons, List.map_nil]); first | done | rfl | (simp only [List.length_drop, List.length_take]; rfl)) ?_; (with_reducible refine (wire_cut.calls a0 8 t127 t128 t129 _ A2.out).mono ?_); rintro e w' ⟨rfl, ⟨nd, rfl⟩⟩; refine ⟨_, rfl, ?_⟩) | ((with_reducible refine gate_callee (f := 60) rfl ?_); refine goesL_ (some 18) rfl rfl Try.func60 (by kernel_rfl) rfl #[.string t127] rfl (by (try simp only [List.map_toArray, List.map_cons, List.map_nil]); first | done | rfl | (simp only [List.length_drop, List.length_take]; rfl)) ?_; (with_reducible refine (wire_read.calls k t127 t130 _ A4.out).mono ?_); rintro e w' ⟨rfl, ⟨nd, rfl⟩⟩; refine ⟨_, rfl, ?_⟩))
    go_ret3
    exact ⟨by first | rfl | (simp; done) | (simp [*]; done), by repeat (first | exact Drawn0.refl _ | apply Drawn0.step)⟩
  · rw [if_neg c3] at H
    have c3b0 : (t129 == 0) = false := beq_eq_false_iff_ne.mpr c3
    have c3b1 : (t129 != 0) = true := bne_iff_ne.mpr c3
    simp only [Option.some.injEq, Prod.mk.injEq] at H
    obtain ⟨rfl, rfl, rfl⟩ := H
    go_enter Try.func36, Try.ntmps36
    go_wp2_with (first | ((with_reducible refine gate_callee (f := 59) rfl ?_); refine goesL_ (some 10) rfl rfl Try.func59 (by kernel_rfl) rfl #[.string a0, .int .i64 8] rfl (by (try simp only [List.map_toArray, List.map_cons, List.map_nil]); first | done | rfl | (simp only [List.length_drop, List.length_take]; rfl)) ?_; (with_reducible refine (wire_cut.calls a0 8 t127 t128 t129 _ A2.out).mono ?_); rintro e w' ⟨rfl, ⟨nd, rfl⟩⟩; refine ⟨_, rfl, ?_⟩))
    go_ret3
    exact ⟨by first | rfl | (simp; done) | (simp [*]; done), by repeat (first | exact Drawn0.refl _ | apply Drawn0.step)⟩

-- NOT PRINTED: function 13 (change_Take)

end Go.Proofs.Ytipahpkdddijmaa.Q

-- Qx4
namespace Go.Proofs.Ytipahpkdddijmaa.Q
open Go.RowKit Go.Proofs.YtipahpkdddijmaaW.PrintWords Go.Proofs.YtipahpkdddijmaaW.PrintLast Go.Proofs.YtipahpkdddijmaaW.PrintMore
attribute [local go_sem] max2_int min2_int max_two min_two max_three min_three max_four min_four   -- for this text's walks alone
set_option linter.unusedVariables false
set_option linter.unusedSimpArgs false

attribute [local go_sem high] eqA39 eqA52
/-! ### cellarerref02_count: function 61 -/
def cellarerref02_count.f (a0 : ByteArray) : Option (Int × Int) := if (a0.size : Int) < 2 then (some (0, 3)) else (if 0 < (a0.size : Int) then (if 1 < (a0.size : Int) then (if (wrap64 ((wrap64 (bt a0 0)) + (wrap64 (256 * (wrap64 (bt a0 1)))))) > 4000 then (some (0, 2)) else (some (wrap64 ((wrap64 (bt a0 0)) + (wrap64 (256 * (wrap64 (bt a0 1))))), 0))) else (none)) else (none))
set_option maxHeartbeats 8000000 in
set_option maxRecDepth 100000 in
theorem cellarerref02_count.calls (a0 : ByteArray) (r1 : Int) (r2 : Int) (w : World) (h : cellarerref02_count.f a0 = some (r1, r2)) :
    Calls Try.prog 61 #[.string a0] w fun e w' => e = .returned (.tuple #[.int .i64 r1, .int .i64 r2]) ∧ Drawn0 w w' := by
  have H : (if (a0.size : Int) < 2 then (some (0, 3)) else (if 0 < (a0.size : Int) then (if 1 < (a0.size : Int) then (if (wrap64 ((wrap64 (bt a0 0)) + (wrap64 (256 * (wrap64 (bt a0 1)))))) > 4000 then (some (0, 2)) else (some (wrap64 ((wrap64 (bt a0 0)) + (wrap64 (256 * (wrap64 (bt a0 1))))), 0))) else (none)) else (none))) = some (r1, r2) := h
  clear h
  by_cases c2 : (a0.size : Int) < 2
  · rw [if_pos c2] at H
    have c2b0 : decide ((a0.size : Int) < 2) = true := decide_eq_true c2
    have c2b1 : decide (a0.size < 2) = true := decide_eq_true (by omega)
    clear c2
    simp only [Option.some.injEq, Prod.mk.injEq] at H
    obtain ⟨rfl, rfl⟩ := H
    go_enter Try.func61, Try.ntmps61
    go_wp2
    repeat (go_quiet (fail); try go_wp2)
    go_ret2
    exact ⟨by first | rfl | (simp; done) | (simp [*]; done), by repeat (first | exact Drawn0.refl _ | apply Drawn0.step)⟩
  · rw [if_neg c2] at H
    have c2b0 : decide ((a0.size : Int) < 2) = false := decide_eq_false c2
    have c2b1 : decide (a0.size < 2) = false := decide_eq_false (by omega)
    clear c2
    by_cases c3 : 0 < (a0.size : Int)
    · rw [if_pos c3] at H
      have c3b0 : decide (0 < (a0.size : Int)) = true := decide_eq_true c3
      have c3b1 : decide (0 < a0.size) = true := decide_eq_true (by omega)
      clear c3
      by_cases c5 : 1 < (a0.size : Int)
      · rw [if_pos c5] at H
        have c5b0 : decide (1 < (a0.size : Int)) = true := decide_eq_true c5
        have c5b1 : decide (1 < a0.size) = true := decide_eq_true (by omega)
        clear c5
        by_cases c7 : (wrap64 ((wrap64 (bt a0 0)) + (wrap64 (256 * (wrap64 (bt a0 1)))))) > 4000
        · rw [if_pos c7] at H
          have c7b0 : decide (4000 < (wrap64 ((wrap64 (bt a0 0)) + (wrap64 (256 * (wrap64 (bt a0 1))))))) = true := decide_eq_true c7
          clear c7
          simp only [Option.some.injEq, Prod.mk.injEq] at H
          obtain ⟨rfl, rfl⟩ := H
          have p4 : 0 ≤ (0 : Int) := (by omega)
          have q4 : 0 < a0.size := (by have : (0 : Int) < (a0.size : Int) := of_decide_eq_true (by first | (with_reducible assumption) | assumption); omega)
          have hx4 : ∀ h : 0 < a0.size, ((a0[0]'h).toNat : Int) = bt a0 0 := bt_at a0 0
          clear p4
          have qi4 : (0 < (a0.size : Int)) = True := eq_true (of_decide_eq_true (by first | (with_reducible assumption) | assumption))
          replace q4 := eq_true q4
          have p6 : 0 ≤ (1 : Int) := (by omega)
          have q6 : 1 < a0.size := (by have : (1 : Int) < (a0.size : Int) := of_decide_eq_true (by first | (with_reducible assumption) | assumption); omega)
          have hx6 : ∀ h : 1 < a0.size, ((a0[1]'h).toNat : Int) = bt a0 1 := bt_at a0 1
          clear p6
          have qi6 : (1 < (a0.size : Int)) = True := eq_true (of_decide_eq_true (by first | (with_reducible assumption) | assumption))
          replace q6 := eq_true q6
          go_enter Try.func61, Try.ntmps61
          go_wp2
          repeat (go_quiet (fail); try go_wp2)
          go_ret2
          exact ⟨by first | rfl | (simp; done) | (simp [*]; done), by repeat (first | exact Drawn0.refl _ | apply Drawn0.step)⟩
        · rw [if_neg c7] at H
          have c7b0 : decide (4000 < (wrap64 ((wrap64 (bt a0 0)) + (wrap64 (256 * (wrap64 (bt a0 1))))))) = false := decide_eq_false c7
          clear c7
          simp only [Option.some.injEq, Prod.mk.injEq] at H
          obtain ⟨rfl, rfl⟩ := H
          have p4 : 0 ≤ (0 : Int) := (by omega)
          have q4 : 0 < a0.size := (by have : (0 : Int) < (a0.size : Int) := of_decide_eq_true (by first | (with_reducible assumption) | assumption); omega)
          have hx4 : ∀ h : 0 < a0.size, ((a0[0]'h).toNat : Int) = bt a0 0 := bt_at a0 0
          clear p4
          have qi4 : (0 < (a0.size : Int)) = True := eq_true (of_decide_eq_true (by first | (with_reducible assumption) | assumption))
          replace q4 := eq_true q4
          have p6 : 0 ≤ (1 : Int) := (by omega)
          have q6 : 1 < a0.size := (by have : (1 : Int) < (a0.size : Int) := of_decide_eq_true (by first | (with_reducible assumption) | assumption); omega)
          have hx6 : ∀ h : 1 < a0.size, ((a0[1]'h).toNat : Int) = bt a0 1 := bt_at a0 1
          clear p6
          have qi6 : (1 < (a0.size : Int)) = True := eq_true (of_decide_eq_true (by first | (with_reducible assumption) | assumption))
          replace q6 := eq_true q6
          go_enter Try.func61, Try.ntmps61
          go_wp2
          repeat (go_quiet (fail); try go_wp2)
          go_ret2
          exact ⟨by first | rfl | (simp; done) | (simp [*]; done), by repeat (first | exact Drawn0.refl _ | apply Drawn0.step)⟩
      · rw [if_neg c5] at H
        exact absurd H (by simp)
    · rw [if_neg c3] at H
      exact absurd H (by simp)

/-! ### cellarerref02_TakeText: function 62 -/
def cellarerref02_TakeText.f (a0 : ByteArray) : Option (ByteArray × Int × Int) := (cellarerref02_count.f a0).bind fun bt131 => (if bt131.2 = 0 then (if (a0.size : Int) < (wrap64 (2 + bt131.1)) then (some ((⟨#[]⟩ : ByteArray), 0, 3)) else (if 2 ≤ (wrap64 (2 + bt131.1)) then (if (wrap64 (2 + bt131.1)) ≤ (a0.size : Int) then (some (a0.extract 2 ((wrap64 (2 + bt131.1)) : Int).toNat, wrap64 (2 + bt131.1), 0)) else (none)) else (none))) else (some ((⟨#[]⟩ : ByteArray), 0, bt131.2)))
set_option maxHeartbeats 8000000 in
set_option maxRecDepth 100000 in
theorem cellarerref02_TakeText.calls (a0 : ByteArray) (r1 : ByteArray) (r2 : Int) (r3 : Int) (w : World) (h : cellarerref02_TakeText.f a0 = some (r1, r2, r3)) :
    Calls Try.prog 62 #[.string a0] w fun e w' => e = .returned (.tuple #[.string r1, .int .i64 r2, .int .i64 r3]) ∧ Drawn0 w w' := by
  have H : ((cellarerref02_count.f a0).bind fun bt131 => (if bt131.2 = 0 then (if (a0.size : Int) < (wrap64 (2 + bt131.1)) then (some ((⟨#[]⟩ : ByteArray), 0, 3)) else (if 2 ≤ (wrap64 (2 + bt131.1)) then (if (wrap64 (2 + bt131.1)) ≤ (a0.size : Int) then (some (a0.extract 2 ((wrap64 (2 + bt131.1)) : Int).toNat, wrap64 (2 + bt131.1), 0)) else (none)) else (none))) else (some ((⟨#[]⟩ : ByteArray), 0, bt131.2)))) = some (r1, r2, r3) := h
  clear h
  replace H := Option.bind_eq_some_iff.mp H
  obtain ⟨⟨t131, t132⟩, A20, H⟩ := H
  replace H : (if t132 = 0 then (if (a0.size : Int) < (wrap64 (2 + t131)) then (some ((⟨#[]⟩ : ByteArray), 0, 3)) else (if 2 ≤ (wrap64 (2 + t131)) then (if (wrap64 (2 + t131)) ≤ (a0.size : Int) then (some (a0.extract 2 ((wrap64 (2 + t131)) : Int).toNat, wrap64 (2 + t131), 0)) else (none)) else (none))) else (some ((⟨#[]⟩ : ByteArray), 0, t132))) = some (r1, r2, r3) := H
  have A2 := Aside0.mk A20
  clear A20
  by_cases c3 : t132 = 0
  · rw [if_pos c3] at H
    have c3b0 : (t132 == 0) = true := beq_iff_eq.mpr c3
    have c3b1 : (t132 != 0) = false := bne_eq_false_iff_eq.mpr c3
    clear c3
    by_cases c4 : (a0.size : Int) < (wrap64 (2 + t131))
    · rw [if_pos c4] at H
      have c4b0 : decide ((a0.size : Int) < (wrap64 (2 + t131))) = true := decide_eq_true c4
      clear c4
      simp only [Option.some.injEq, Prod.mk.injEq] at H
      obtain ⟨rfl, rfl, rfl⟩ := H
      go_enter Try.func62, Try.ntmps62
      go_wp2_with (first | ((with_reducible refine gate_callee (f := 61) rfl ?_); refine goesL_ (some 9) rfl rfl Try.func61 (by kernel_rfl) rfl #[.string a0] rfl (by (try simp only [List.map_toArray, List.map_cons, List.map_nil]); first | done | rfl | (simp only [List.length_drop, List.length_take]; rfl)) ?_; (with_reducible refine (cellarerref02_count.calls a0 t131 t132 _ A2.out).mono ?_); rintro e w' ⟨rfl, ⟨nd, rfl⟩⟩; refine ⟨_, rfl, ?_⟩))
      go_ret3
      exact ⟨by first | rfl | (simp; done) | (simp [*]; done), by repeat (first | exact Drawn0.refl _ | apply Drawn0.step)⟩
    · rw [if_neg c4] at H
      have c4b0 : decide ((a0.size : Int) < (wrap64 (2 + t131))) = false := decide_eq_false c4
      clear c4
      by_cases c5 : 2 ≤ (wrap64 (2 + t131))
      · rw [if_pos c5] at H
        have c5b0 := eq_true c5
        have c5b1 : decide (2 ≤ (wrap64 (2 + t131))) = true := decide_eq_true c5
        by_cases c6 : (wrap64 (2 + t131)) ≤ (a0.size : Int)
        · rw [if_pos c6] at H
          have c6b0 := eq_true c6
          have c6b1 : decide ((wrap64 (2 + t131)) ≤ (a0.size : Int)) = true := decide_eq_true c6
          simp only [Option.some.injEq, Prod.mk.injEq] at H
          obtain ⟨rfl, rfl, rfl⟩ := H
          go_enter Try.func62, Try.ntmps62
          go_wp2_with (first | ((with_reducible refine gate_callee (f := 61) rfl ?_); refine goesL_ (some 9) rfl rfl Try.func61 (by kernel_rfl) rfl #[.string a0] rfl (by (try simp only [List.map_toArray, List.map_cons, List.map_nil]); first | done | rfl | (simp only [List.length_drop, List.length_take]; rfl)) ?_; (with_reducible refine (cellarerref02_count.calls a0 t131 t132 _ A2.out).mono ?_); rintro e w' ⟨rfl, ⟨nd, rfl⟩⟩; refine ⟨_, rfl, ?_⟩))
          go_ret3
          exact ⟨by first | rfl | (simp; done) | (simp [*]; done), by repeat (first | exact Drawn0.refl _ | apply Drawn0.step)⟩
        · rw [if_neg c6] at H
          exact absurd H (by simp)
      · rw [if_neg c5] at H
        exact absurd H (by simp)
  · rw [if_neg c3] at H
    have c3b0 : (t132 == 0) = false := beq_eq_false_iff_ne.mpr c3
    have c3b1 : (t132 != 0) = true := bne_iff_ne.mpr c3
    simp only [Option.some.injEq, Prod.mk.injEq] at H
    obtain ⟨rfl, rfl, rfl⟩ := H
    go_enter Try.func62, Try.ntmps62
    go_wp2_with (first | ((with_reducible refine gate_callee (f := 61) rfl ?_); refine goesL_ (some 9) rfl rfl Try.func61 (by kernel_rfl) rfl #[.string a0] rfl (by (try simp only [List.map_toArray, List.map_cons, List.map_nil]); first | done | rfl | (simp only [List.length_drop, List.length_take]; rfl)) ?_; (with_reducible refine (cellarerref02_count.calls a0 t131 t132 _ A2.out).mono ?_); rintro e w' ⟨rfl, ⟨nd, rfl⟩⟩; refine ⟨_, rfl, ?_⟩))
    go_ret3
    exact ⟨by first | rfl | (simp; done) | (simp [*]; done), by repeat (first | exact Drawn0.refl _ | apply Drawn0.step)⟩

/-! ### cellarerref02_TakeList: function 37 -/
def cellarerref02_TakeList.l0 : Nat → ByteArray → Int → List ByteArray → Int → Int → Option (List ByteArray × Int × Int)
  | 0, _, _, _, _, _ => none
  | k + 1, x0, x5, x7, x8, x9 => if x9 < x5 then (if 0 ≤ x8 then (if x8 ≤ (x0.size : Int) then ((cellarerref02_TakeText.f (x0.extract (x8 : Int).toNat x0.size)).bind fun bt135 => (if bt135.2.2 = 0 then (if x7.length < 8796093022208 then (cellarerref02_TakeList.l0 k x0 x5 (x7 ++ [bt135.1]) (wrap64 (x8 + bt135.2.1)) (wrap64 (x9 + 1))) else (none)) else (some (([] : List ByteArray), 0, bt135.2.2)))) else (none)) else (none)) else (some (x7, x8, 0))
def cellarerref02_TakeList.f (k : Nat) (a0 : ByteArray) : Option (List ByteArray × Int × Int) := (cellarerref02_count.f a0).bind fun bt133 => (if bt133.2 = 0 then (cellarerref02_TakeList.l0 k a0 bt133.1 ([] : List ByteArray) 2 0) else (some (([] : List ByteArray), 0, bt133.2)))
theorem cellarerref02_TakeList.mono_l : ∀ k, (∀ y0 y1 y2 y3 y4, LeO (cellarerref02_TakeList.l0 k y0 y1 y2 y3 y4) (cellarerref02_TakeList.l0 (k + 1) y0 y1 y2 y3 y4))
  | 0 => fun _ _ _ _ _ r h => by simp [cellarerref02_TakeList.l0] at h
  | k + 1 => by
    have ih0 := cellarerref02_TakeList.mono_l k
    · intro y0 y1 y2 y3 y4
      unfold cellarerref02_TakeList.l0
      repeat' first
      | (with_reducible exact ih0 _ _ _ _ _)
      | (with_reducible exact LeO.refl _)
      | (with_reducible exact LeO.none _)
      | (with_reducible refine LeO.ite ?_ ?_)
      | (with_reducible refine LeO.bind ?_ (fun _ => ?_))
      | exact ih0 _ _ _ _ _
      | exact LeO.none _
      | refine LeO.ite ?_ ?_
      | refine LeO.bind ?_ (fun _ => ?_)
theorem cellarerref02_TakeList.mono : ∀ a0 k, LeO (cellarerref02_TakeList.f k a0) (cellarerref02_TakeList.f (k + 1) a0) := by
  intro a0 k
  have ih0 := cellarerref02_TakeList.mono_l k
  unfold cellarerref02_TakeList.f
  repeat' first
      | (with_reducible exact ih0 _ _ _ _ _)
      | (with_reducible exact LeO.refl _)
      | (with_reducible exact LeO.none _)
      | (with_reducible refine LeO.ite ?_ ?_)
      | (with_reducible refine LeO.bind ?_ (fun _ => ?_))
      | exact ih0 _ _ _ _ _
      | exact LeO.none _
      | refine LeO.ite ?_ ?_
      | refine LeO.bind ?_ (fun _ => ?_)
set_option maxHeartbeats 8000000 in
set_option maxRecDepth 100000 in
theorem cellarerref02_TakeList.calls (k : Nat) (a0 : ByteArray) (r1 : List ByteArray) (r2 : Int) (r3 : Int) (w : World) (h : cellarerref02_TakeList.f k a0 = some (r1, r2, r3)) :
    Calls Try.prog 37 #[.string a0] w fun e w' => ∃ v0_ : Value, e = .returned (.tuple #[v0_, .int .i64 r2, .int .i64 r3]) ∧ Kd.R Kd.string 9 w' w.heap.size (fun _ => True) v0_ r1 ∧ Below w.heap.size w w' := by
  have HB := Aside0.mk (Below.refl w.heap.size w)
  have H : ((cellarerref02_count.f a0).bind fun bt133 => (if bt133.2 = 0 then (cellarerref02_TakeList.l0 k a0 bt133.1 ([] : List ByteArray) 2 0) else (some (([] : List ByteArray), 0, bt133.2)))) = some (r1, r2, r3) := h
  clear h
  replace H := Option.bind_eq_some_iff.mp H
  obtain ⟨⟨t133, t134⟩, A20, H⟩ := H
  replace H : (if t134 = 0 then (cellarerref02_TakeList.l0 k a0 t133 ([] : List ByteArray) 2 0) else (some (([] : List ByteArray), 0, t134))) = some (r1, r2, r3) := H
  have A2 := Aside0.mk A20
  clear A20
  by_cases c3 : t134 = 0
  · rw [if_pos c3] at H
    have c3b0 : (t134 == 0) = true := beq_iff_eq.mpr c3
    have c3b1 : (t134 != 0) = false := bne_eq_false_iff_eq.mpr c3
    clear c3
    have H' := Aside0.mk H
    clear H
    go_enter Try.func37, Try.ntmps37
    go_wp2_with (first | ((with_reducible refine gate_callee (f := 61) rfl ?_); refine goesL_ (some 15) rfl rfl Try.func61 (by kernel_rfl) rfl #[.string a0] rfl (by (try simp only [List.map_toArray, List.map_cons, List.map_nil]); first | done | rfl | (simp only [List.length_drop, List.length_take]; rfl)) ?_; (with_reducible refine (cellarerref02_count.calls a0 t133 t134 _ A2.out).mono ?_); rintro e w' ⟨rfl, ⟨nd, rfl⟩⟩; refine ⟨_, rfl, ?_⟩))
    go_loopg [7, 8, 9] k (fun kq v7 v8 v9 w' => ∃ (x7_1 : List ByteArray) (x8_1 : Int) (x9_1 : Int), v8 = .int .i64 x8_1 ∧ v9 = .int .i64 x9_1 ∧ Aside0 (cellarerref02_TakeList.l0 kq a0 t133 x7_1 x8_1 x9_1 = some (r1, r2, r3)) ∧ Aside0 (kq ≤ k) ∧ Aside0 (Kd.R Kd.string 9 w' w.heap.size (fun _ => True) v7 x7_1) ∧ Aside0 (Below w.heap.size w w'))
    case atStart => exact ⟨(([] : List ByteArray)), (2), (0), (by first | rfl | (simp; done) | (simp [*]; done)), (by first | rfl | (simp; done) | (simp [*]; done)), H', ⟨Nat.le_refl _⟩, ⟨by first | exact Kd.R_nil _ _ _ _ _ | exact Kd.N_nil _ _ _ _ _ | exact Kd.V_nil _ _ _ _ _ | exact Kd.Q_nil _ _ _ _ _ | exact Kd.S_nil _ _ _ _ _⟩, ⟨by repeat (first | (with_reducible first | exact HB.out | apply below_alloc | apply pw_below_drewN | apply below_drew1) | exact HB.out)⟩⟩
    case round =>
      clear H'
      try clear p2
      try clear c3
      try clear c3b0
      try clear c3b1
      obtain ⟨x7_1, x8_1, x9_1, rfl, rfl, HA, HK1, HO_7, HB⟩ := hrel
      cases gk with
      | zero => exact absurd HA.out (by simp [cellarerref02_TakeList.l0])
      | succ k1 =>
        have H := HA.out
        clear HA
        simp only [cellarerref02_TakeList.l0] at H
        by_cases c4 : x9_1 < t133
        · rw [if_pos c4] at H
          have c4b0 : decide (x9_1 < t133) = true := decide_eq_true c4
          clear c4
          by_cases c5 : 0 ≤ x8_1
          · rw [if_pos c5] at H
            have c5b0 := eq_true c5
            have c5b1 : decide (0 ≤ x8_1) = true := decide_eq_true c5
            clear c5
            by_cases c6 : x8_1 ≤ (a0.size : Int)
            · rw [if_pos c6] at H
              have c6b0 := eq_true c6
              have c6b1 : decide (x8_1 ≤ (a0.size : Int)) = true := decide_eq_true c6
              clear c6
              replace H := Option.bind_eq_some_iff.mp H
              obtain ⟨⟨t135, t136, t137⟩, A70, H⟩ := H
              replace H : (if t137 = 0 then (if x7_1.length < 8796093022208 then (cellarerref02_TakeList.l0 k1 a0 t133 (x7_1 ++ [t135]) (wrap64 (x8_1 + t136)) (wrap64 (x9_1 + 1))) else (none)) else (some (([] : List ByteArray), 0, t137))) = some (r1, r2, r3) := H
              have A7 := Aside0.mk A70
              clear A70
              by_cases c8 : t137 = 0
              · rw [if_pos c8] at H
                have c8b0 : (t137 == 0) = true := beq_iff_eq.mpr c8
                have c8b1 : (t137 != 0) = false := bne_eq_false_iff_eq.mpr c8
                clear c8
                by_cases c9 : x7_1.length < 8796093022208
                · rw [if_pos c9] at H
                  have LMc9 := Aside0.mk c9
                  clear c9
                  obtain ⟨y138, hy138⟩ : ∃ y_ : List ByteArray, y_ = (x7_1 ++ [t135]) := ⟨_, rfl⟩
                  replace H : (cellarerref02_TakeList.l0 k1 a0 t133 y138 (wrap64 (x8_1 + t136)) (wrap64 (x9_1 + 1))) = some (r1, r2, r3) := by first | (rw [hy138]; with_reducible exact H) | (have H2_ := (Option.bind_some _ _).symm.trans H; rw [hy138]; with_reducible exact H2_) | (have H2_ := (Option.bind_some _ _).symm.trans H; with_reducible exact H2_) | with_reducible exact H | (rw [hy138]; exact H) | exact H
                  have Ny138 := Aside0.mk hy138
                  clear hy138
                  have H' := Aside0.mk H
                  clear H
                  go_wp2_with (first | ((with_reducible refine gate_callee (f := 62) rfl ?_); refine goesL_ (some 30) rfl rfl Try.func62 (by kernel_rfl) rfl #[.string (a0.extract (x8_1 : Int).toNat a0.size)] rfl (by (try simp only [List.map_toArray, List.map_cons, List.map_nil]); first | done | rfl | (simp only [List.length_drop, List.length_take]; rfl)) ?_; (with_reducible refine (cellarerref02_TakeText.calls (a0.extract (x8_1 : Int).toNat a0.size) t135 t136 t137 _ A7.out).mono ?_); rintro e w' ⟨rfl, ⟨nd, rfl⟩⟩; refine ⟨_, rfl, ?_⟩) | ((with_reducible refine gate_builtin (b := .append) (xs := #[.tmp 37, .tmp 39]) rfl ?_); at_builtin; refine Kd.R_append Kd.string (w0 := w) w.heap.size rfl (.tmp 37) (.tmp 39) 59 9 (.string ⟨#[]⟩) 16 rfl Try.underlying59 info9 rfl (by decide) (by omega) u7 x7_1 t135 [.string t135] (fun _ => True) (fun _ => False) rfl rfl ?aP (fun _ hk => hk.elim) ?aF ?aO ?aB ?aS ?aL ?_; (case aP => exact rfl); (case aB => exact (by repeat (first | (with_reducible first | exact HB.out | apply below_alloc | apply pw_below_drewN | apply below_drew1) | exact HB.out))); (case aF => exact (fun _ _ => trivial)); (case aO => exact (by (with_reducible repeat (first | apply Kd.R_alloc | apply Kd.R_drewN | apply Kd.R_drew)); exact HO_7.out)); (case aS => exact (below_size (by repeat (first | (with_reducible first | exact HB.out | apply below_alloc | apply pw_below_drewN | apply below_drew1) | exact HB.out)))); (case aL => have := LMc9.out; omega); intro v139 w10 ho hb hg hat; rw [← Ny138.out] at ho; have n0_ := Aside0.mk (hb); have n1_ := Aside0.mk (ho); clear HB; clear HO_7; have HB := n0_; have HO140 := n1_; clear n0_ n1_; clear ho hb hg hat))
                  go_roundg k1
                  case measure => have := HK1.out; omega
                  case rel => exact ⟨(y138), (wrap64 (x8_1 + t136)), (wrap64 (x9_1 + 1)), (by first | rfl | (simp; done) | (simp [*]; done)), (by first | rfl | (simp; done) | (simp [*]; done)), H', ⟨by have := HK1.out; omega⟩, ⟨by (with_reducible repeat (first | apply Kd.R_alloc | apply Kd.R_drewN | apply Kd.R_drew)); exact HO140.out⟩, ⟨by repeat (first | (with_reducible first | exact HB.out | apply below_alloc | apply pw_below_drewN | apply below_drew1) | exact HB.out)⟩⟩
                · rw [if_neg c9] at H
                  exact absurd H (by simp)
              · rw [if_neg c8] at H
                have c8b0 : (t137 == 0) = false := beq_eq_false_iff_ne.mpr c8
                have c8b1 : (t137 != 0) = true := bne_iff_ne.mpr c8
                simp only [Option.some.injEq, Prod.mk.injEq] at H
                obtain ⟨rfl, rfl, rfl⟩ := H
                go_wp2_with (first | ((with_reducible refine gate_callee (f := 62) rfl ?_); refine goesL_ (some 30) rfl rfl Try.func62 (by kernel_rfl) rfl #[.string (a0.extract (x8_1 : Int).toNat a0.size)] rfl (by (try simp only [List.map_toArray, List.map_cons, List.map_nil]); first | done | rfl | (simp only [List.length_drop, List.length_take]; rfl)) ?_; (with_reducible refine (cellarerref02_TakeText.calls (a0.extract (x8_1 : Int).toNat a0.size) t135 t136 t137 _ A7.out).mono ?_); rintro e w' ⟨rfl, ⟨nd, rfl⟩⟩; refine ⟨_, rfl, ?_⟩))
                go_ret3
                exact ⟨_, by first | rfl | (simp [errW_none, errW_some] <;> rfl) | (simp [*, errW_none, errW_some] <;> rfl), by first | exact Kd.R_nil _ _ _ _ _ | exact Kd.N_nil _ _ _ _ _ | exact Kd.V_nil _ _ _ _ _ | exact Kd.Q_nil _ _ _ _ _ | exact Kd.S_nil _ _ _ _ _, by repeat (first | (with_reducible first | exact HB.out | apply below_alloc | apply pw_below_drewN | apply below_drew1) | exact HB.out)⟩
            · rw [if_neg c6] at H
              exact absurd H (by simp)
          · rw [if_neg c5] at H
            exact absurd H (by simp)
        · rw [if_neg c4] at H
          have c4b0 : decide (x9_1 < t133) = false := decide_eq_false c4
          clear c4
          simp only [Option.some.injEq, Prod.mk.injEq] at H
          obtain ⟨rfl, rfl, rfl⟩ := H
          go_wp2
          go_ret3
          exact ⟨_, by first | rfl | (simp [errW_none, errW_some] <;> rfl) | (simp [*, errW_none, errW_some] <;> rfl), by (with_reducible repeat (first | apply Kd.R_alloc | apply Kd.R_drewN | apply Kd.R_drew)); exact HO_7.out, by repeat (first | (with_reducible first | exact HB.out | apply below_alloc | apply pw_below_drewN | apply below_drew1) | exact HB.out)⟩
  · rw [if_neg c3] at H
    have c3b0 : (t134 == 0) = false := beq_eq_false_iff_ne.mpr c3
    have c3b1 : (t134 != 0) = true := bne_iff_ne.mpr c3
    simp only [Option.some.injEq, Prod.mk.injEq] at H
    obtain ⟨rfl, rfl, rfl⟩ := H
    go_enter Try.func37, Try.ntmps37
    go_wp2_with (first | ((with_reducible refine gate_callee (f := 61) rfl ?_); refine goesL_ (some 15) rfl rfl Try.func61 (by kernel_rfl) rfl #[.string a0] rfl (by (try simp only [List.map_toArray, List.map_cons, List.map_nil]); first | done | rfl | (simp only [List.length_drop, List.length_take]; rfl)) ?_; (with_reducible refine (cellarerref02_count.calls a0 t133 t134 _ A2.out).mono ?_); rintro e w' ⟨rfl, ⟨nd, rfl⟩⟩; refine ⟨_, rfl, ?_⟩))
    go_ret3
    exact ⟨_, by first | rfl | (simp [errW_none, errW_some] <;> rfl) | (simp [*, errW_none, errW_some] <;> rfl), by first | exact Kd.R_nil _ _ _ _ _ | exact Kd.N_nil _ _ _ _ _ | exact Kd.V_nil _ _ _ _ _ | exact Kd.Q_nil _ _ _ _ _ | exact Kd.S_nil _ _ _ _ _, by repeat (first | (with_reducible first | exact HB.out | apply below_alloc | apply pw_below_drewN | apply below_drew1) | exact HB.out)⟩

/-! ### cellarerref02_TakeNum: function 38 -/
def cellarerref02_TakeNum.l0 : Nat → ByteArray → Int → Int → Option (Int × Bool)
  | 0, _, _, _ => none
  | k + 1, x0, x4, x5 => if x5 ≥ 0 then (if 0 ≤ x5 then (if x5 < (x0.size : Int) then (cellarerref02_TakeNum.l0 k x0 (IntKind.u64.wrap ((IntKind.u64.wrap (256 * x4)) + (IntKind.u64.wrap (bt x0 x5)))) (wrap64 (x5 - 1))) else (none)) else (none)) else (some (x4, true))
def cellarerref02_TakeNum.f (k : Nat) (a0 : ByteArray) : Option (Int × Bool) := if (a0.size : Int) < 8 then (some (0, false)) else (cellarerref02_TakeNum.l0 k a0 0 7)
theorem cellarerref02_TakeNum.mono_l : ∀ k, (∀ y0 y1 y2, LeO (cellarerref02_TakeNum.l0 k y0 y1 y2) (cellarerref02_TakeNum.l0 (k + 1) y0 y1 y2))
  | 0 => fun _ _ _ r h => by simp [cellarerref02_TakeNum.l0] at h
  | k + 1 => by
    have ih0 := cellarerref02_TakeNum.mono_l k
    · intro y0 y1 y2
      unfold cellarerref02_TakeNum.l0
      repeat' first
      | (with_reducible exact ih0 _ _ _)
      | (with_reducible exact LeO.refl _)
      | (with_reducible exact LeO.none _)
      | (with_reducible refine LeO.ite ?_ ?_)
      | (with_reducible refine LeO.bind ?_ (fun _ => ?_))
      | exact ih0 _ _ _
      | exact LeO.none _
      | refine LeO.ite ?_ ?_
      | refine LeO.bind ?_ (fun _ => ?_)
theorem cellarerref02_TakeNum.mono : ∀ a0 k, LeO (cellarerref02_TakeNum.f k a0) (cellarerref02_TakeNum.f (k + 1) a0) := by
  intro a0 k
  have ih0 := cellarerref02_TakeNum.mono_l k
  unfold cellarerref02_TakeNum.f
  repeat' first
      | (with_reducible exact ih0 _ _ _)
      | (with_reducible exact LeO.refl _)
      | (with_reducible exact LeO.none _)
      | (with_reducible refine LeO.ite ?_ ?_)
      | (with_reducible refine LeO.bind ?_ (fun _ => ?_))
      | exact ih0 _ _ _
      | exact LeO.none _
      | refine LeO.ite ?_ ?_
      | refine LeO.bind ?_ (fun _ => ?_)
set_option maxHeartbeats 8000000 in
set_option maxRecDepth 100000 in
theorem cellarerref02_TakeNum.calls (k : Nat) (a0 : ByteArray) (r1 : Int) (r2 : Bool) (w : World) (h : cellarerref02_TakeNum.f k a0 = some (r1, r2)) :
    Calls Try.prog 38 #[.string a0] w fun e w' => e = .returned (.tuple #[.int .u64 r1, .bool r2]) ∧ Drawn0 w w' := by
  have H : (if (a0.size : Int) < 8 then (some (0, false)) else (cellarerref02_TakeNum.l0 k a0 0 7)) = some (r1, r2) := h
  clear h
  by_cases c2 : (a0.size : Int) < 8
  · rw [if_pos c2] at H
    have c2b0 : decide ((a0.size : Int) < 8) = true := decide_eq_true c2
    have c2b1 : decide (a0.size < 8) = true := decide_eq_true (by omega)
    clear c2
    simp only [Option.some.injEq, Prod.mk.injEq] at H
    obtain ⟨rfl, rfl⟩ := H
    go_enter Try.func38, Try.ntmps38
    go_wp2
    go_ret2
    exact ⟨by first | rfl | (simp; done) | (simp [*]; done), by repeat (first | exact Drawn0.refl _ | apply Drawn0.step)⟩
  · rw [if_neg c2] at H
    have c2b0 : decide ((a0.size : Int) < 8) = false := decide_eq_false c2
    have c2b1 : decide (a0.size < 8) = false := decide_eq_false (by omega)
    clear c2
    have H' := Aside0.mk H
    clear H
    go_enter Try.func38, Try.ntmps38
    go_wp2
    go_loopg [4, 5] k (fun kq v4 v5 w' => ∃ (x4_1 : Int) (x5_1 : Int), v4 = .int .u64 x4_1 ∧ v5 = .int .i64 x5_1 ∧ Aside0 (cellarerref02_TakeNum.l0 kq a0 x4_1 x5_1 = some (r1, r2)) ∧ Aside0 (kq ≤ k) ∧ Drawn0 w w')
    case atStart => exact ⟨(0), (7), (by first | rfl | (simp; done) | (simp [*]; done)), (by first | rfl | (simp; done) | (simp [*]; done)), H', ⟨Nat.le_refl _⟩, by repeat (first | exact Drawn0.refl _ | apply Drawn0.step)⟩
    case round =>
      clear H'
      try clear c2
      try clear c2b0
      try clear c2b1
      try clear p2
      obtain ⟨x4_1, x5_1, rfl, rfl, HA, HK1, ⟨m1, rfl⟩⟩ := hrel
      cases gk with
      | zero => exact absurd HA.out (by simp [cellarerref02_TakeNum.l0])
      | succ k1 =>
        have H := HA.out
        clear HA
        simp only [cellarerref02_TakeNum.l0] at H
        by_cases c3 : x5_1 ≥ 0
        · rw [if_pos c3] at H
          have c3b0 : decide (0 ≤ x5_1) = true := decide_eq_true c3
          clear c3
          by_cases c4 : 0 ≤ x5_1
          · rw [if_pos c4] at H
            have c4b0 : decide (0 ≤ x5_1) = true := decide_eq_true c4
            clear c4
            by_cases c5 : x5_1 < (a0.size : Int)
            · rw [if_pos c5] at H
              have c5b0 : decide (x5_1 < (a0.size : Int)) = true := decide_eq_true c5
              clear c5
              have H' := Aside0.mk H
              clear H
              have p6 : 0 ≤ (x5_1 : Int) := of_decide_eq_true (by first | (with_reducible assumption) | assumption)
              have q6 : x5_1 < (a0.size : Int) := of_decide_eq_true (by first | (with_reducible assumption) | assumption)
              have hx6 := bt_at a0 x5_1
              replace p6 := eq_true p6
              replace q6 := eq_true q6
              go_wp2
              go_roundg k1
              case measure => have := HK1.out; omega
              case rel => exact ⟨(IntKind.u64.wrap ((IntKind.u64.wrap (256 * x4_1)) + (IntKind.u64.wrap (bt a0 x5_1)))), (wrap64 (x5_1 - 1)), (by first | rfl | (simp; done) | (simp [*]; done)), (by first | rfl | (simp; done) | (simp [*]; done)), H', ⟨by have := HK1.out; omega⟩, by repeat (first | exact Drawn0.refl _ | apply Drawn0.step)⟩
            · rw [if_neg c5] at H
              exact absurd H (by simp)
          · rw [if_neg c4] at H
            exact absurd H (by simp)
        · rw [if_neg c3] at H
          have c3b0 : decide (0 ≤ x5_1) = false := decide_eq_false c3
          clear c3
          simp only [Option.some.injEq, Prod.mk.injEq] at H
          obtain ⟨rfl, rfl⟩ := H
          go_wp2
          go_ret2
          exact ⟨by first | rfl | (simp; done) | (simp [*]; done), by repeat (first | exact Drawn0.refl _ | apply Drawn0.step)⟩

-- NOT PRINTED: function 14 (cellarerref12_Take)

/-! ### cellarerref12_Same: function 15 -/
def cellarerref12_Same.l0 : Nat → List (S39) → List (S39) → Int → Option (Bool)
  | 0, _, _, _ => none
  | k + 1, x0, x1, x5 => if x5 < (x0.length : Int) then (if 0 ≤ x5 then (if x5 < (x1.length : Int) then (if (!(((rd_T39 x0 x5).f0) == ((rd_T39 x1 x5).f0)) || ((!((((rd_T39 x0 x5).f1.f0).toList) == (((rd_T39 x1 x5).f1.f0).toList)) || (!((((rd_T39 x0 x5).f1.f1).toList) == (((rd_T39 x1 x5).f1.f1).toList)) || (!(((rd_T39 x0 x5).f1.f2) == ((rd_T39 x1 x5).f1.f2))))))) = true then (some false) else (cellarerref12_Same.l0 k x0 x1 (wrap64 (x5 + 1)))) else (none)) else (none)) else (some true)
def cellarerref12_Same.f (k : Nat) (l0 : List (S39)) (l1 : List (S39)) : Option (Bool) := if (l0.length : Int) = (l1.length : Int) then (cellarerref12_Same.l0 k l0 l1 0) else (some false)
theorem cellarerref12_Same.mono_l : ∀ k, (∀ y0 y1 y2, LeO (cellarerref12_Same.l0 k y0 y1 y2) (cellarerref12_Same.l0 (k + 1) y0 y1 y2))
  | 0 => fun _ _ _ r h => by simp [cellarerref12_Same.l0] at h
  | k + 1 => by
    have ih0 := cellarerref12_Same.mono_l k
    · intro y0 y1 y2
      unfold cellarerref12_Same.l0
      repeat' first
      | (with_reducible exact ih0 _ _ _)
      | (with_reducible exact LeO.refl _)
      | (with_reducible exact LeO.none _)
      | (with_reducible refine LeO.ite ?_ ?_)
      | (with_reducible refine LeO.bind ?_ (fun _ => ?_))
      | exact ih0 _ _ _
      | exact LeO.none _
      | refine LeO.ite ?_ ?_
      | refine LeO.bind ?_ (fun _ => ?_)
theorem cellarerref12_Same.mono : ∀ a0 a1 k, LeO (cellarerref12_Same.f k a0 a1) (cellarerref12_Same.f (k + 1) a0 a1) := by
  intro a0 a1 k
  have ih0 := cellarerref12_Same.mono_l k
  unfold cellarerref12_Same.f
  repeat' first
      | (with_reducible exact ih0 _ _ _)
      | (with_reducible exact LeO.refl _)
      | (with_reducible exact LeO.none _)
      | (with_reducible refine LeO.ite ?_ ?_)
      | (with_reducible refine LeO.bind ?_ (fun _ => ?_))
      | exact ih0 _ _ _
      | exact LeO.none _
      | refine LeO.ite ?_ ?_
      | refine LeO.bind ?_ (fun _ => ?_)
set_option maxHeartbeats 8000000 in
set_option maxRecDepth 100000 in
theorem cellarerref12_Same.calls (k : Nat) (A0 : Option Addr) (c0 : Nat) (l0 : List (S39)) (A1 : Option Addr) (c1 : Nat) (l1 : List (S39)) (r : Bool) (w : World) (hr0 : Kd.C k39 w A0 l0.length l0) (hc0 : l0.length ≤ c0) (hr1 : Kd.C k39 w A1 l1.length l1) (hc1 : l1.length ≤ c1) (h : cellarerref12_Same.f k l0 l1 = some r) :
    Calls Try.prog 15 #[.slice A0 l0.length c0, .slice A1 l1.length c1] w fun e w' => e = .returned (.bool r) ∧ Drawn0 w w' := by
  have hu39 := Try.underlying39
  have HR0 := Aside0.mk hr0
  have HC0 := Aside0.mk hc0
  clear hr0 hc0
  have HR1 := Aside0.mk hr1
  have HC1 := Aside0.mk hc1
  clear hr1 hc1
  have H : (if (l0.length : Int) = (l1.length : Int) then (cellarerref12_Same.l0 k l0 l1 0) else (some false)) = some r := h
  clear h
  by_cases c3 : (l0.length : Int) = (l1.length : Int)
  · rw [if_pos c3] at H
    have c3b0 : ((l0.length : Int) == (l1.length : Int)) = true := beq_iff_eq.mpr c3
    have c3b1 : ((l0.length : Int) != (l1.length : Int)) = false := bne_eq_false_iff_eq.mpr c3
    have c3b2 : (l0.length == l1.length) = true := by first | simpa using c3 | (simp at c3 ⊢; omega)
    clear c3
    have H' := Aside0.mk H
    clear H
    go_enter Try.func15, Try.ntmps15
    go_wp2
    repeat (go_quiet (fail); try go_wp2)
    go_loopg [5] k (fun kq v5 w' => ∃ (x5_1 : Int), v5 = .int .i64 x5_1 ∧ Aside0 (cellarerref12_Same.l0 kq l0 l1 x5_1 = some r) ∧ Aside0 (kq ≤ k) ∧ Drawn0 w w')
    case atStart => exact ⟨(0), (by first | rfl | (simp; done) | (simp [*]; done)), H', ⟨Nat.le_refl _⟩, by repeat (first | exact Drawn0.refl _ | apply Drawn0.step)⟩
    case round =>
      clear H'
      try clear c1
      try clear p2
      try clear c3
      try clear c3b0
      try clear c3b1
      try clear c3b2
      obtain ⟨x5_1, rfl, HA, HK1, ⟨m1, rfl⟩⟩ := hrel
      cases gk with
      | zero => exact absurd HA.out (by simp [cellarerref12_Same.l0])
      | succ k1 =>
        have H := HA.out
        clear HA
        simp only [cellarerref12_Same.l0] at H
        by_cases c4 : x5_1 < (l0.length : Int)
        · rw [if_pos c4] at H
          have c4b0 : decide (x5_1 < (l0.length : Int)) = true := decide_eq_true c4
          clear c4
          by_cases c5 : 0 ≤ x5_1
          · rw [if_pos c5] at H
            have c5b0 : decide (0 ≤ x5_1) = true := decide_eq_true c5
            clear c5
            by_cases c6 : x5_1 < (l1.length : Int)
            · rw [if_pos c6] at H
              have c6b0 : decide (x5_1 < (l1.length : Int)) = true := decide_eq_true c6
              clear c6
              by_cases c7 : (!(((rd_T39 l0 x5_1).f0) == ((rd_T39 l1 x5_1).f0)) || ((!((((rd_T39 l0 x5_1).f1.f0).toList) == (((rd_T39 l1 x5_1).f1.f0).toList)) || (!((((rd_T39 l0 x5_1).f1.f1).toList) == (((rd_T39 l1 x5_1).f1.f1).toList)) || (!(((rd_T39 l0 x5_1).f1.f2) == ((rd_T39 l1 x5_1).f1.f2))))))) = true
              · rw [if_pos c7] at H
                have c7b0 : (!(((rd_T39 l0 x5_1).f0) == ((rd_T39 l1 x5_1).f0)) || ((!((((rd_T39 l0 x5_1).f1.f0).toList) == (((rd_T39 l1 x5_1).f1.f0).toList)) || (!((((rd_T39 l0 x5_1).f1.f1).toList) == (((rd_T39 l1 x5_1).f1.f1).toList)) || (!(((rd_T39 l0 x5_1).f1.f2) == ((rd_T39 l1 x5_1).f1.f2))))))) = true := c7
                clear c7
                obtain rfl := Option.some.inj H
                have p141 : 0 ≤ (x5_1 : Int) := of_decide_eq_true (by first | (with_reducible assumption) | assumption)
                have q141 : x5_1 < (l0.length : Int) := of_decide_eq_true (by first | (with_reducible assumption) | assumption)
                obtain ⟨ad141, e141, hx141_0, hx141_1, hx141_2, hx141_3⟩ := at_T39 HR0.out x5_1 p141 q141
                cases e141
                replace p141 := eq_true p141
                replace q141 := eq_true q141
                have p142 : 0 ≤ (x5_1 : Int) := of_decide_eq_true (by first | (with_reducible assumption) | assumption)
                have q142 : x5_1 < (l1.length : Int) := of_decide_eq_true (by first | (with_reducible assumption) | assumption)
                obtain ⟨ad142, e142, hx142_0, hx142_1, hx142_2, hx142_3⟩ := at_T39 HR1.out x5_1 p142 q142
                cases e142
                replace p142 := eq_true p142
                replace q142 := eq_true q142
                go_wp2
                repeat (go_quiet (fail); try go_wp2)
                go_ret
                exact ⟨by first | rfl | (simp; done) | (simp [*]; done), by repeat (first | exact Drawn0.refl _ | apply Drawn0.step)⟩
              · rw [if_neg c7] at H
                have c7b0 : (!(((rd_T39 l0 x5_1).f0) == ((rd_T39 l1 x5_1).f0)) || ((!((((rd_T39 l0 x5_1).f1.f0).toList) == (((rd_T39 l1 x5_1).f1.f0).toList)) || (!((((rd_T39 l0 x5_1).f1.f1).toList) == (((rd_T39 l1 x5_1).f1.f1).toList)) || (!(((rd_T39 l0 x5_1).f1.f2) == ((rd_T39 l1 x5_1).f1.f2))))))) = false := by simpa using c7
                clear c7
                have H' := Aside0.mk H
                clear H
                have p141 : 0 ≤ (x5_1 : Int) := of_decide_eq_true (by first | (with_reducible assumption) | assumption)
                have q141 : x5_1 < (l0.length : Int) := of_decide_eq_true (by first | (with_reducible assumption) | assumption)
                obtain ⟨ad141, e141, hx141_0, hx141_1, hx141_2, hx141_3⟩ := at_T39 HR0.out x5_1 p141 q141
                cases e141
                replace p141 := eq_true p141
                replace q141 := eq_true q141
                have p142 : 0 ≤ (x5_1 : Int) := of_decide_eq_true (by first | (with_reducible assumption) | assumption)
                have q142 : x5_1 < (l1.length : Int) := of_decide_eq_true (by first | (with_reducible assumption) | assumption)
                obtain ⟨ad142, e142, hx142_0, hx142_1, hx142_2, hx142_3⟩ := at_T39 HR1.out x5_1 p142 q142
                cases e142
                replace p142 := eq_true p142
                replace q142 := eq_true q142
                go_wp2
                repeat (go_quiet (fail); try go_wp2)
                go_roundg k1
                case measure => have := HK1.out; omega
                case rel => exact ⟨(wrap64 (x5_1 + 1)), (by first | rfl | (simp; done) | (simp [*]; done)), H', ⟨by have := HK1.out; omega⟩, by repeat (first | exact Drawn0.refl _ | apply Drawn0.step)⟩
            · rw [if_neg c6] at H
              exact absurd H (by simp)
          · rw [if_neg c5] at H
            exact absurd H (by simp)
        · rw [if_neg c4] at H
          have c4b0 : decide (x5_1 < (l0.length : Int)) = false := decide_eq_false c4
          clear c4
          obtain rfl := Option.some.inj H
          go_wp2
          repeat (go_quiet (fail); try go_wp2)
          go_ret
          exact ⟨by first | rfl | (simp; done) | (simp [*]; done), by repeat (first | exact Drawn0.refl _ | apply Drawn0.step)⟩
  · rw [if_neg c3] at H
    have c3b0 : ((l0.length : Int) == (l1.length : Int)) = false := beq_eq_false_iff_ne.mpr c3
    have c3b1 : ((l0.length : Int) != (l1.length : Int)) = true := bne_iff_ne.mpr c3
    have c3b2 : (l0.length == l1.length) = false := by first | simpa using c3 | (simp at c3 ⊢; omega)
    obtain rfl := Option.some.inj H
    go_enter Try.func15, Try.ntmps15
    go_wp2
    repeat (go_quiet (fail); try go_wp2)
    go_ret
    exact ⟨by first | rfl | (simp; done) | (simp [*]; done), by repeat (first | exact Drawn0.refl _ | apply Drawn0.step)⟩

/-! ### change_May: function 16 -/
def change_May.f (a0_0 : Int) (a0_1 : ByteArray) (a0_2 : ByteArray) (a0_3 : Bool) : Option (Bool) := if a0_0 ≥ 1 then (if a0_1.toList = ([] : List UInt8) then (some false) else (if (a0_1.size : Int) ≤ 200 then (if (a0_2.size : Int) ≤ 4000 then (if a0_3 = true then (some (a0_2.toList == ([] : List UInt8))) else (some true)) else (some false)) else (some false))) else (some false)
set_option maxHeartbeats 8000000 in
set_option maxRecDepth 100000 in
theorem change_May.calls (a0_0 : Int) (a0_1 : ByteArray) (a0_2 : ByteArray) (a0_3 : Bool) (r : Bool) (w : World) (h : change_May.f a0_0 a0_1 a0_2 a0_3 = some r) :
    Calls Try.prog 16 #[.agg #[.int .u64 a0_0, .string a0_1, .string a0_2, .bool a0_3]] w fun e w' => e = .returned (.bool r) ∧ Below w.heap.size w w' := by
  have hu39 := Try.underlying39
  have HB := Aside0.mk (Below.refl w.heap.size w)
  have H : (if a0_0 ≥ 1 then (if a0_1.toList = ([] : List UInt8) then (some false) else (if (a0_1.size : Int) ≤ 200 then (if (a0_2.size : Int) ≤ 4000 then (if a0_3 = true then (some (a0_2.toList == ([] : List UInt8))) else (some true)) else (some false)) else (some false))) else (some false)) = some r := h
  clear h
  by_cases c2 : a0_0 ≥ 1
  · rw [if_pos c2] at H
    have c2b0 : decide (1 ≤ a0_0) = true := decide_eq_true c2
    clear c2
    by_cases c3 : a0_1.toList = ([] : List UInt8)
    · rw [if_pos c3] at H
      have c3b0 : (a0_1.toList == ([] : List UInt8)) = true := beq_iff_eq.mpr c3
      have c3b1 : (a0_1.toList != ([] : List UInt8)) = false := bne_eq_false_iff_eq.mpr c3
      clear c3
      obtain rfl := Option.some.inj H
      go_enter Try.func16, Try.ntmps16
      go_wp2_with (first | ((with_reducible refine gate_dst (N := 1) rfl ?_); (try (refine gate_guard (by rfl) ?_; dsimp only)); refine box_event ?hg (N := 1) ?hd (cs := #[.int .u64 a0_0, .string a0_1, .string a0_2, .bool a0_3]) (t := 39) ?hr ?_; (case hd => rfl); (case hg => rfl); (case hr => first | (go_simp; done) | (go_simp; rfl)); intro gb143 hg w4 hbox hb; have n0_ := Aside0.mk (below_step (by repeat (first | (with_reducible first | exact HB.out | apply below_alloc | apply pw_below_drewN | apply below_drew1) | exact HB.out)) hb); have n1_ := Aside0.mk (hbox); have n2_ := Aside0.mk ((by rw [hg]; exact (below_size (by repeat (first | (with_reducible first | exact HB.out | apply below_alloc | apply pw_below_drewN | apply below_drew1) | exact HB.out))) : w.heap.size ≤ gb143)); have n3_ := Aside0.mk ((by rw [hg]; exact (below_size (by repeat (first | (with_reducible first | exact HB.out | apply below_alloc | apply pw_below_drewN | apply below_drew1) | exact HB.out))) : w.heap.size ≤ gb143)); clear HB; have HB := n0_; have BK143 := n1_; have GW143 := n2_; have GE143 := n3_; clear n0_ n1_ n2_ n3_; clear hb hbox hg; have hcz5_0 : w4.cell? ⟨gb143, 0, none⟩ = some (.int .u64 a0_0) := (blk_cell BK143.out 0).trans rfl; have hcz5_1 : w4.cell? ⟨gb143, 1, none⟩ = some (.string a0_1) := (blk_cell BK143.out 1).trans rfl; have hcz5_2 : w4.cell? ⟨gb143, 2, none⟩ = some (.string a0_2) := (blk_cell BK143.out 2).trans rfl; have hcz5_3 : w4.cell? ⟨gb143, 3, none⟩ = some (.bool a0_3) := (blk_cell BK143.out 3).trans rfl; have hfz5_0 := blk_frozen BK143.out 0; have hfz5_1 := blk_frozen BK143.out 1; have hfz5_2 := blk_frozen BK143.out 2; have hfz5_3 := blk_frozen BK143.out 3))
      go_ret
      exact ⟨by first | rfl | (simp [errW_none, errW_some] <;> rfl) | (simp [*, errW_none, errW_some] <;> rfl), by repeat (first | (with_reducible first | exact HB.out | apply below_alloc | apply pw_below_drewN | apply below_drew1 | refine below_set ?_ GE143.out) | exact HB.out)⟩
    · rw [if_neg c3] at H
      have c3b0 : (a0_1.toList == ([] : List UInt8)) = false := beq_eq_false_iff_ne.mpr c3
      have c3b1 : (a0_1.toList != ([] : List UInt8)) = true := bne_iff_ne.mpr c3
      by_cases c6 : (a0_1.size : Int) ≤ 200
      · rw [if_pos c6] at H
        have c6b0 : decide ((a0_1.size : Int) ≤ 200) = true := decide_eq_true c6
        have c6b1 : decide (a0_1.size ≤ 200) = true := decide_eq_true (by omega)
        clear c6
        by_cases c7 : (a0_2.size : Int) ≤ 4000
        · rw [if_pos c7] at H
          have c7b0 : decide ((a0_2.size : Int) ≤ 4000) = true := decide_eq_true c7
          have c7b1 : decide (a0_2.size ≤ 4000) = true := decide_eq_true (by omega)
          clear c7
          by_cases c8 : a0_3 = true
          · subst c8
            have H1 : (some (a0_2.toList == ([] : List UInt8))) = some r := by rw [if_pos rfl] at H; exact H
            clear H
            have H := H1
            clear H1
            obtain rfl := Option.some.inj H
            go_enter Try.func16, Try.ntmps16
            go_wp2_with (first | ((with_reducible refine gate_dst (N := 1) rfl ?_); (try (refine gate_guard (by rfl) ?_; dsimp only)); refine box_event ?hg (N := 1) ?hd (cs := #[.int .u64 a0_0, .string a0_1, .string a0_2, .bool true]) (t := 39) ?hr ?_; (case hd => rfl); (case hg => rfl); (case hr => first | (go_simp; done) | (go_simp; rfl)); intro gb143 hg w9 hbox hb; have n0_ := Aside0.mk (below_step (by repeat (first | (with_reducible first | exact HB.out | apply below_alloc | apply pw_below_drewN | apply below_drew1) | exact HB.out)) hb); have n1_ := Aside0.mk (hbox); have n2_ := Aside0.mk ((by rw [hg]; exact (below_size (by repeat (first | (with_reducible first | exact HB.out | apply below_alloc | apply pw_below_drewN | apply below_drew1) | exact HB.out))) : w.heap.size ≤ gb143)); have n3_ := Aside0.mk ((by rw [hg]; exact (below_size (by repeat (first | (with_reducible first | exact HB.out | apply below_alloc | apply pw_below_drewN | apply below_drew1) | exact HB.out))) : w.heap.size ≤ gb143)); clear HB; have HB := n0_; have BK143 := n1_; have GW143 := n2_; have GE143 := n3_; clear n0_ n1_ n2_ n3_; clear hb hbox hg; have hcz10_0 : w9.cell? ⟨gb143, 0, none⟩ = some (.int .u64 a0_0) := (blk_cell BK143.out 0).trans rfl; have hcz10_1 : w9.cell? ⟨gb143, 1, none⟩ = some (.string a0_1) := (blk_cell BK143.out 1).trans rfl; have hcz10_2 : w9.cell? ⟨gb143, 2, none⟩ = some (.string a0_2) := (blk_cell BK143.out 2).trans rfl; have hcz10_3 : w9.cell? ⟨gb143, 3, none⟩ = some (.bool true) := (blk_cell BK143.out 3).trans rfl; have hfz10_0 := blk_frozen BK143.out 0; have hfz10_1 := blk_frozen BK143.out 1; have hfz10_2 := blk_frozen BK143.out 2; have hfz10_3 := blk_frozen BK143.out 3))
            go_ret
            exact ⟨by first | rfl | (simp [errW_none, errW_some] <;> rfl) | (simp [*, errW_none, errW_some] <;> rfl), by repeat (first | (with_reducible first | exact HB.out | apply below_alloc | apply pw_below_drewN | apply below_drew1 | refine below_set ?_ GE143.out) | exact HB.out)⟩
          · replace c8 := Bool.eq_false_iff.mpr c8
            subst c8
            have H1 : (some true) = some r := by rw [if_neg (show ¬ (false = true) by decide)] at H; exact H
            clear H
            have H := H1
            clear H1
            obtain rfl := Option.some.inj H
            go_enter Try.func16, Try.ntmps16
            go_wp2_with (first | ((with_reducible refine gate_dst (N := 1) rfl ?_); (try (refine gate_guard (by rfl) ?_; dsimp only)); refine box_event ?hg (N := 1) ?hd (cs := #[.int .u64 a0_0, .string a0_1, .string a0_2, .bool false]) (t := 39) ?hr ?_; (case hd => rfl); (case hg => rfl); (case hr => first | (go_simp; done) | (go_simp; rfl)); intro gb143 hg w11 hbox hb; have n0_ := Aside0.mk (below_step (by repeat (first | (with_reducible first | exact HB.out | apply below_alloc | apply pw_below_drewN | apply below_drew1) | exact HB.out)) hb); have n1_ := Aside0.mk (hbox); have n2_ := Aside0.mk ((by rw [hg]; exact (below_size (by repeat (first | (with_reducible first | exact HB.out | apply below_alloc | apply pw_below_drewN | apply below_drew1) | exact HB.out))) : w.heap.size ≤ gb143)); have n3_ := Aside0.mk ((by rw [hg]; exact (below_size (by repeat (first | (with_reducible first | exact HB.out | apply below_alloc | apply pw_below_drewN | apply below_drew1) | exact HB.out))) : w.heap.size ≤ gb143)); clear HB; have HB := n0_; have BK143 := n1_; have GW143 := n2_; have GE143 := n3_; clear n0_ n1_ n2_ n3_; clear hb hbox hg; have hcz12_0 : w11.cell? ⟨gb143, 0, none⟩ = some (.int .u64 a0_0) := (blk_cell BK143.out 0).trans rfl; have hcz12_1 : w11.cell? ⟨gb143, 1, none⟩ = some (.string a0_1) := (blk_cell BK143.out 1).trans rfl; have hcz12_2 : w11.cell? ⟨gb143, 2, none⟩ = some (.string a0_2) := (blk_cell BK143.out 2).trans rfl; have hcz12_3 : w11.cell? ⟨gb143, 3, none⟩ = some (.bool false) := (blk_cell BK143.out 3).trans rfl; have hfz12_0 := blk_frozen BK143.out 0; have hfz12_1 := blk_frozen BK143.out 1; have hfz12_2 := blk_frozen BK143.out 2; have hfz12_3 := blk_frozen BK143.out 3))
            go_ret
            exact ⟨by first | rfl | (simp [errW_none, errW_some] <;> rfl) | (simp [*, errW_none, errW_some] <;> rfl), by repeat (first | (with_reducible first | exact HB.out | apply below_alloc | apply pw_below_drewN | apply below_drew1 | refine below_set ?_ GE143.out) | exact HB.out)⟩
        · rw [if_neg c7] at H
          have c7b0 : decide ((a0_2.size : Int) ≤ 4000) = false := decide_eq_false c7
          have c7b1 : decide (a0_2.size ≤ 4000) = false := decide_eq_false (by omega)
          clear c7
          obtain rfl := Option.some.inj H
          go_enter Try.func16, Try.ntmps16
          go_wp2_with (first | ((with_reducible refine gate_dst (N := 1) rfl ?_); (try (refine gate_guard (by rfl) ?_; dsimp only)); refine box_event ?hg (N := 1) ?hd (cs := #[.int .u64 a0_0, .string a0_1, .string a0_2, .bool a0_3]) (t := 39) ?hr ?_; (case hd => rfl); (case hg => rfl); (case hr => first | (go_simp; done) | (go_simp; rfl)); intro gb143 hg w13 hbox hb; have n0_ := Aside0.mk (below_step (by repeat (first | (with_reducible first | exact HB.out | apply below_alloc | apply pw_below_drewN | apply below_drew1) | exact HB.out)) hb); have n1_ := Aside0.mk (hbox); have n2_ := Aside0.mk ((by rw [hg]; exact (below_size (by repeat (first | (with_reducible first | exact HB.out | apply below_alloc | apply pw_below_drewN | apply below_drew1) | exact HB.out))) : w.heap.size ≤ gb143)); have n3_ := Aside0.mk ((by rw [hg]; exact (below_size (by repeat (first | (with_reducible first | exact HB.out | apply below_alloc | apply pw_below_drewN | apply below_drew1) | exact HB.out))) : w.heap.size ≤ gb143)); clear HB; have HB := n0_; have BK143 := n1_; have GW143 := n2_; have GE143 := n3_; clear n0_ n1_ n2_ n3_; clear hb hbox hg; have hcz14_0 : w13.cell? ⟨gb143, 0, none⟩ = some (.int .u64 a0_0) := (blk_cell BK143.out 0).trans rfl; have hcz14_1 : w13.cell? ⟨gb143, 1, none⟩ = some (.string a0_1) := (blk_cell BK143.out 1).trans rfl; have hcz14_2 : w13.cell? ⟨gb143, 2, none⟩ = some (.string a0_2) := (blk_cell BK143.out 2).trans rfl; have hcz14_3 : w13.cell? ⟨gb143, 3, none⟩ = some (.bool a0_3) := (blk_cell BK143.out 3).trans rfl; have hfz14_0 := blk_frozen BK143.out 0; have hfz14_1 := blk_frozen BK143.out 1; have hfz14_2 := blk_frozen BK143.out 2; have hfz14_3 := blk_frozen BK143.out 3))
          go_ret
          exact ⟨by first | rfl | (simp [errW_none, errW_some] <;> rfl) | (simp [*, errW_none, errW_some] <;> rfl), by repeat (first | (with_reducible first | exact HB.out | apply below_alloc | apply pw_below_drewN | apply below_drew1 | refine below_set ?_ GE143.out) | exact HB.out)⟩
      · rw [if_neg c6] at H
        have c6b0 : decide ((a0_1.size : Int) ≤ 200) = false := decide_eq_false c6
        have c6b1 : decide (a0_1.size ≤ 200) = false := decide_eq_false (by omega)
        clear c6
        obtain rfl := Option.some.inj H
        go_enter Try.func16, Try.ntmps16
        go_wp2_with (first | ((with_reducible refine gate_dst (N := 1) rfl ?_); (try (refine gate_guard (by rfl) ?_; dsimp only)); refine box_event ?hg (N := 1) ?hd (cs := #[.int .u64 a0_0, .string a0_1, .string a0_2, .bool a0_3]) (t := 39) ?hr ?_; (case hd => rfl); (case hg => rfl); (case hr => first | (go_simp; done) | (go_simp; rfl)); intro gb143 hg w15 hbox hb; have n0_ := Aside0.mk (below_step (by repeat (first | (with_reducible first | exact HB.out | apply below_alloc | apply pw_below_drewN | apply below_drew1) | exact HB.out)) hb); have n1_ := Aside0.mk (hbox); have n2_ := Aside0.mk ((by rw [hg]; exact (below_size (by repeat (first | (with_reducible first | exact HB.out | apply below_alloc | apply pw_below_drewN | apply below_drew1) | exact HB.out))) : w.heap.size ≤ gb143)); have n3_ := Aside0.mk ((by rw [hg]; exact (below_size (by repeat (first | (with_reducible first | exact HB.out | apply below_alloc | apply pw_below_drewN | apply below_drew1) | exact HB.out))) : w.heap.size ≤ gb143)); clear HB; have HB := n0_; have BK143 := n1_; have GW143 := n2_; have GE143 := n3_; clear n0_ n1_ n2_ n3_; clear hb hbox hg; have hcz16_0 : w15.cell? ⟨gb143, 0, none⟩ = some (.int .u64 a0_0) := (blk_cell BK143.out 0).trans rfl; have hcz16_1 : w15.cell? ⟨gb143, 1, none⟩ = some (.string a0_1) := (blk_cell BK143.out 1).trans rfl; have hcz16_2 : w15.cell? ⟨gb143, 2, none⟩ = some (.string a0_2) := (blk_cell BK143.out 2).trans rfl; have hcz16_3 : w15.cell? ⟨gb143, 3, none⟩ = some (.bool a0_3) := (blk_cell BK143.out 3).trans rfl; have hfz16_0 := blk_frozen BK143.out 0; have hfz16_1 := blk_frozen BK143.out 1; have hfz16_2 := blk_frozen BK143.out 2; have hfz16_3 := blk_frozen BK143.out 3))
        go_ret
        exact ⟨by first | rfl | (simp [errW_none, errW_some] <;> rfl) | (simp [*, errW_none, errW_some] <;> rfl), by repeat (first | (with_reducible first | exact HB.out | apply below_alloc | apply pw_below_drewN | apply below_drew1 | refine below_set ?_ GE143.out) | exact HB.out)⟩
  · rw [if_neg c2] at H
    have c2b0 : decide (1 ≤ a0_0) = false := decide_eq_false c2
    clear c2
    obtain rfl := Option.some.inj H
    go_enter Try.func16, Try.ntmps16
    go_wp2_with (first | ((with_reducible refine gate_dst (N := 1) rfl ?_); (try (refine gate_guard (by rfl) ?_; dsimp only)); refine box_event ?hg (N := 1) ?hd (cs := #[.int .u64 a0_0, .string a0_1, .string a0_2, .bool a0_3]) (t := 39) ?hr ?_; (case hd => rfl); (case hg => rfl); (case hr => first | (go_simp; done) | (go_simp; rfl)); intro gb143 hg w17 hbox hb; have n0_ := Aside0.mk (below_step (by repeat (first | (with_reducible first | exact HB.out | apply below_alloc | apply pw_below_drewN | apply below_drew1) | exact HB.out)) hb); have n1_ := Aside0.mk (hbox); have n2_ := Aside0.mk ((by rw [hg]; exact (below_size (by repeat (first | (with_reducible first | exact HB.out | apply below_alloc | apply pw_below_drewN | apply below_drew1) | exact HB.out))) : w.heap.size ≤ gb143)); have n3_ := Aside0.mk ((by rw [hg]; exact (below_size (by repeat (first | (with_reducible first | exact HB.out | apply below_alloc | apply pw_below_drewN | apply below_drew1) | exact HB.out))) : w.heap.size ≤ gb143)); clear HB; have HB := n0_; have BK143 := n1_; have GW143 := n2_; have GE143 := n3_; clear n0_ n1_ n2_ n3_; clear hb hbox hg; have hcz18_0 : w17.cell? ⟨gb143, 0, none⟩ = some (.int .u64 a0_0) := (blk_cell BK143.out 0).trans rfl; have hcz18_1 : w17.cell? ⟨gb143, 1, none⟩ = some (.string a0_1) := (blk_cell BK143.out 1).trans rfl; have hcz18_2 : w17.cell? ⟨gb143, 2, none⟩ = some (.string a0_2) := (blk_cell BK143.out 2).trans rfl; have hcz18_3 : w17.cell? ⟨gb143, 3, none⟩ = some (.bool a0_3) := (blk_cell BK143.out 3).trans rfl; have hfz18_0 := blk_frozen BK143.out 0; have hfz18_1 := blk_frozen BK143.out 1; have hfz18_2 := blk_frozen BK143.out 2; have hfz18_3 := blk_frozen BK143.out 3))
    go_ret
    exact ⟨by first | rfl | (simp [errW_none, errW_some] <;> rfl) | (simp [*, errW_none, errW_some] <;> rfl), by repeat (first | (with_reducible first | exact HB.out | apply below_alloc | apply pw_below_drewN | apply below_drew1 | refine below_set ?_ GE143.out) | exact HB.out)⟩

-- NOT PRINTED: function 39 (change_counting)

-- NOT PRINTED: function 71 (api_Note_71)

-- NOT PRINTED: function 83 (api_Note_83)

-- NOT PRINTED: function 72 (api_Note_72)

-- NOT PRINTED: function 79 (bits_Len32)

-- NOT PRINTED: function 80 (bits_Len64)

-- NOT PRINTED: function 64 (bits_Len)

-- NOT PRINTED: function 84 (slices_nextPowerOfTwo)

-- NOT PRINTED: function 85 (slices_xorshift_Next)

-- NOT PRINTED: function 73 (api_Note_73)

-- NOT PRINTED: function 88 (api_Note_88)

-- NOT PRINTED: function 87 (api_Note_87)

-- NOT PRINTED: function 86 (api_Note_86)

-- NOT PRINTED: function 74 (api_Note_74)

-- NOT PRINTED: function 75 (api_Note_75)

-- NOT PRINTED: function 76 (api_Note_76)

-- NOT PRINTED: function 77 (api_Note_77)

-- NOT PRINTED: function 78 (api_Note_78)

-- NOT PRINTED: function 63 (api_Note_63)

-- NOT PRINTED: function 40 (api_Note_40)

-- NOT PRINTED: function 19 (change_Count)

-- NOT PRINTED: function 43 (api_Note_43)

-- NOT PRINTED: function 44 (api_Note_44)

-- NOT PRINTED: function 20 (change_Live)

/-! ### cellarerref11_Same: function 21 -/
def cellarerref11_Same.l0 : Nat → List (S52) → List (S52) → Int → Option (Bool)
  | 0, _, _, _ => none
  | k + 1, x0, x1, x5 => if x5 < (x0.length : Int) then (if 0 ≤ x5 then (if x5 < (x1.length : Int) then (if (!((((rd_T52 x0 x5).f0).toList) == (((rd_T52 x1 x5).f0).toList)) || (!((((rd_T52 x0 x5).f1).toList) == (((rd_T52 x1 x5).f1).toList)))) = true then (some false) else (cellarerref11_Same.l0 k x0 x1 (wrap64 (x5 + 1)))) else (none)) else (none)) else (some true)
def cellarerref11_Same.f (k : Nat) (l0 : List (S52)) (l1 : List (S52)) : Option (Bool) := if (l0.length : Int) = (l1.length : Int) then (cellarerref11_Same.l0 k l0 l1 0) else (some false)
theorem cellarerref11_Same.mono_l : ∀ k, (∀ y0 y1 y2, LeO (cellarerref11_Same.l0 k y0 y1 y2) (cellarerref11_Same.l0 (k + 1) y0 y1 y2))
  | 0 => fun _ _ _ r h => by simp [cellarerref11_Same.l0] at h
  | k + 1 => by
    have ih0 := cellarerref11_Same.mono_l k
    · intro y0 y1 y2
      unfold cellarerref11_Same.l0
      repeat' first
      | (with_reducible exact ih0 _ _ _)
      | (with_reducible exact LeO.refl _)
      | (with_reducible exact LeO.none _)
      | (with_reducible refine LeO.ite ?_ ?_)
      | (with_reducible refine LeO.bind ?_ (fun _ => ?_))
      | exact ih0 _ _ _
      | exact LeO.none _
      | refine LeO.ite ?_ ?_
      | refine LeO.bind ?_ (fun _ => ?_)
theorem cellarerref11_Same.mono : ∀ a0 a1 k, LeO (cellarerref11_Same.f k a0 a1) (cellarerref11_Same.f (k + 1) a0 a1) := by
  intro a0 a1 k
  have ih0 := cellarerref11_Same.mono_l k
  unfold cellarerref11_Same.f
  repeat' first
      | (with_reducible exact ih0 _ _ _)
      | (with_reducible exact LeO.refl _)
      | (with_reducible exact LeO.none _)
      | (with_reducible refine LeO.ite ?_ ?_)
      | (with_reducible refine LeO.bind ?_ (fun _ => ?_))
      | exact ih0 _ _ _
      | exact LeO.none _
      | refine LeO.ite ?_ ?_
      | refine LeO.bind ?_ (fun _ => ?_)
set_option maxHeartbeats 8000000 in
set_option maxRecDepth 100000 in
theorem cellarerref11_Same.calls (k : Nat) (A0 : Option Addr) (c0 : Nat) (l0 : List (S52)) (A1 : Option Addr) (c1 : Nat) (l1 : List (S52)) (r : Bool) (w : World) (hr0 : Kd.C k52 w A0 l0.length l0) (hc0 : l0.length ≤ c0) (hr1 : Kd.C k52 w A1 l1.length l1) (hc1 : l1.length ≤ c1) (h : cellarerref11_Same.f k l0 l1 = some r) :
    Calls Try.prog 21 #[.slice A0 l0.length c0, .slice A1 l1.length c1] w fun e w' => e = .returned (.bool r) ∧ Drawn0 w w' := by
  have hu52 := Try.underlying52
  have HR0 := Aside0.mk hr0
  have HC0 := Aside0.mk hc0
  clear hr0 hc0
  have HR1 := Aside0.mk hr1
  have HC1 := Aside0.mk hc1
  clear hr1 hc1
  have H : (if (l0.length : Int) = (l1.length : Int) then (cellarerref11_Same.l0 k l0 l1 0) else (some false)) = some r := h
  clear h
  by_cases c3 : (l0.length : Int) = (l1.length : Int)
  · rw [if_pos c3] at H
    have c3b0 : ((l0.length : Int) == (l1.length : Int)) = true := beq_iff_eq.mpr c3
    have c3b1 : ((l0.length : Int) != (l1.length : Int)) = false := bne_eq_false_iff_eq.mpr c3
    have c3b2 : (l0.length == l1.length) = true := by first | simpa using c3 | (simp at c3 ⊢; omega)
    clear c3
    have H' := Aside0.mk H
    clear H
    go_enter Try.func21, Try.ntmps21
    go_wp2
    repeat (go_quiet (fail); try go_wp2)
    go_loopg [5] k (fun kq v5 w' => ∃ (x5_1 : Int), v5 = .int .i64 x5_1 ∧ Aside0 (cellarerref11_Same.l0 kq l0 l1 x5_1 = some r) ∧ Aside0 (kq ≤ k) ∧ Drawn0 w w')
    case atStart => exact ⟨(0), (by first | rfl | (simp; done) | (simp [*]; done)), H', ⟨Nat.le_refl _⟩, by repeat (first | exact Drawn0.refl _ | apply Drawn0.step)⟩
    case round =>
      clear H'
      try clear c1
      try clear c2
      try clear p2
      try clear c3
      try clear c3b0
      try clear c3b1
      try clear c3b2
      obtain ⟨x5_1, rfl, HA, HK1, ⟨m1, rfl⟩⟩ := hrel
      cases gk with
      | zero => exact absurd HA.out (by simp [cellarerref11_Same.l0])
      | succ k1 =>
        have H := HA.out
        clear HA
        simp only [cellarerref11_Same.l0] at H
        by_cases c4 : x5_1 < (l0.length : Int)
        · rw [if_pos c4] at H
          have c4b0 : decide (x5_1 < (l0.length : Int)) = true := decide_eq_true c4
          clear c4
          by_cases c5 : 0 ≤ x5_1
          · rw [if_pos c5] at H
            have c5b0 : decide (0 ≤ x5_1) = true := decide_eq_true c5
            clear c5
            by_cases c6 : x5_1 < (l1.length : Int)
            · rw [if_pos c6] at H
              have c6b0 : decide (x5_1 < (l1.length : Int)) = true := decide_eq_true c6
              clear c6
              by_cases c7 : (!((((rd_T52 l0 x5_1).f0).toList) == (((rd_T52 l1 x5_1).f0).toList)) || (!((((rd_T52 l0 x5_1).f1).toList) == (((rd_T52 l1 x5_1).f1).toList)))) = true
              · rw [if_pos c7] at H
                have c7b0 : (!((((rd_T52 l0 x5_1).f0).toList) == (((rd_T52 l1 x5_1).f0).toList)) || (!((((rd_T52 l0 x5_1).f1).toList) == (((rd_T52 l1 x5_1).f1).toList)))) = true := c7
                clear c7
                obtain rfl := Option.some.inj H
                have p144 : 0 ≤ (x5_1 : Int) := of_decide_eq_true (by first | (with_reducible assumption) | assumption)
                have q144 : x5_1 < (l0.length : Int) := of_decide_eq_true (by first | (with_reducible assumption) | assumption)
                obtain ⟨ad144, e144, hx144_0, hx144_1⟩ := at_T52 HR0.out x5_1 p144 q144
                cases e144
                replace p144 := eq_true p144
                replace q144 := eq_true q144
                have p145 : 0 ≤ (x5_1 : Int) := of_decide_eq_true (by first | (with_reducible assumption) | assumption)
                have q145 : x5_1 < (l1.length : Int) := of_decide_eq_true (by first | (with_reducible assumption) | assumption)
                obtain ⟨ad145, e145, hx145_0, hx145_1⟩ := at_T52 HR1.out x5_1 p145 q145
                cases e145
                replace p145 := eq_true p145
                replace q145 := eq_true q145
                go_wp2
                repeat (go_quiet (fail); try go_wp2)
                go_ret
                exact ⟨by first | rfl | (simp; done) | (simp [*]; done), by repeat (first | exact Drawn0.refl _ | apply Drawn0.step)⟩
              · rw [if_neg c7] at H
                have c7b0 : (!((((rd_T52 l0 x5_1).f0).toList) == (((rd_T52 l1 x5_1).f0).toList)) || (!((((rd_T52 l0 x5_1).f1).toList) == (((rd_T52 l1 x5_1).f1).toList)))) = false := by simpa using c7
                clear c7
                have H' := Aside0.mk H
                clear H
                have p144 : 0 ≤ (x5_1 : Int) := of_decide_eq_true (by first | (with_reducible assumption) | assumption)
                have q144 : x5_1 < (l0.length : Int) := of_decide_eq_true (by first | (with_reducible assumption) | assumption)
                obtain ⟨ad144, e144, hx144_0, hx144_1⟩ := at_T52 HR0.out x5_1 p144 q144
                cases e144
                replace p144 := eq_true p144
                replace q144 := eq_true q144
                have p145 : 0 ≤ (x5_1 : Int) := of_decide_eq_true (by first | (with_reducible assumption) | assumption)
                have q145 : x5_1 < (l1.length : Int) := of_decide_eq_true (by first | (with_reducible assumption) | assumption)
                obtain ⟨ad145, e145, hx145_0, hx145_1⟩ := at_T52 HR1.out x5_1 p145 q145
                cases e145
                replace p145 := eq_true p145
                replace q145 := eq_true q145
                go_wp2
                repeat (go_quiet (fail); try go_wp2)
                go_roundg k1
                case measure => have := HK1.out; omega
                case rel => exact ⟨(wrap64 (x5_1 + 1)), (by first | rfl | (simp; done) | (simp [*]; done)), H', ⟨by have := HK1.out; omega⟩, by repeat (first | exact Drawn0.refl _ | apply Drawn0.step)⟩
            · rw [if_neg c6] at H
              exact absurd H (by simp)
          · rw [if_neg c5] at H
            exact absurd H (by simp)
        · rw [if_neg c4] at H
          have c4b0 : decide (x5_1 < (l0.length : Int)) = false := decide_eq_false c4
          clear c4
          obtain rfl := Option.some.inj H
          go_wp2
          repeat (go_quiet (fail); try go_wp2)
          go_ret
          exact ⟨by first | rfl | (simp; done) | (simp [*]; done), by repeat (first | exact Drawn0.refl _ | apply Drawn0.step)⟩
  · rw [if_neg c3] at H
    have c3b0 : ((l0.length : Int) == (l1.length : Int)) = false := beq_eq_false_iff_ne.mpr c3
    have c3b1 : ((l0.length : Int) != (l1.length : Int)) = true := bne_iff_ne.mpr c3
    have c3b2 : (l0.length == l1.length) = false := by first | simpa using c3 | (simp at c3 ⊢; omega)
    obtain rfl := Option.some.inj H
    go_enter Try.func21, Try.ntmps21
    go_wp2
    repeat (go_quiet (fail); try go_wp2)
    go_ret
    exact ⟨by first | rfl | (simp; done) | (simp [*]; done), by repeat (first | exact Drawn0.refl _ | apply Drawn0.step)⟩

-- NOT PRINTED: function 22 (change_Items)

-- NOT PRINTED: function 46 (api_Note_46)

-- NOT PRINTED: function 23 (change_Last)

-- NOT PRINTED: function 18 (cellarerlaw12_awake)

-- NOT PRINTED: function 3 (cellarerlaw12_ChangeLays)

-- NOT PRINTED: function 4 (cellarerlaw12_ChangeTurns)

-- NOT PRINTED: function 5 (cellarerlaw12_ChangeDead)

-- NOT PRINTED: function 6 (cellarerlaw12_ChangeSplits)

-- NOT PRINTED: function 7 (cellarerlaw12_ChangeLast)

-- NOT PRINTED: function 8 (cellarerlaw12_ChangeGone)

-- NOT PRINTED: function 24 (cellarerlaw11_Changes)

end Go.Proofs.Ytipahpkdddijmaa.Q
