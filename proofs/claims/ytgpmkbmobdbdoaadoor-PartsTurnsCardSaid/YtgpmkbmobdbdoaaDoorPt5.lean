/- The law PartsTurns returns true for every input that its row lets in (the tied card), under the row's own conditions and no others. Part 26 of 27. -/
import Derived.Test.YtgpmkbmobdbdoaaDoorPt4
import Derived.Laws.CopyOwn
import Derived.Lib.Overlaps
import Derived.Deep.RegionLaw
import Derived.WalkSpells
import Derived.Lib.BufferMore
import Derived.StillTailTactics
import Derived.Deep.RegionWith
import Derived.Deep.AppendLies
import Derived.Deep.RegionHeld3
import Derived.Test.YtgpmkbmobdbdoaaDoorPt3
import Derived.Test.YtgpmkbmobdbdoaaDoorPt1
import Derived.BigQuiet
import Derived.Laws.StructEq
import Derived.Deep.DeepCutAuto
import Derived.Deep.DeepAppendRoom
-- T12
namespace Go.Proofs.YtgpmkbmobdbdoaaDoor.Q
open Go.RowKit Go.Proofs.YtgpmkbmobdbdoaaDoorW.PrintWords Go.Proofs.YtgpmkbmobdbdoaaDoorW.PrintLast Go.Proofs.YtgpmkbmobdbdoaaDoorW.PrintMore
set_option linter.unusedVariables false
set_option linter.unusedSimpArgs false

def ordAt (l : List S48) (i : Nat) : Bool := decide ((l.getD (i - 1) z48).f0 < (l.getD i z48).f0)
def ordB (l : List S48) : Bool := allFrom (ordAt l) 1 (l.length - 1)
def longAt (ps : List S40) (l : List S48) (i : Nat) : Bool := !(decide (i + 1 < l.length) && decide ((dataOf ps (l.getD i z48).f0).size < 5))
def longB (ps : List S40) (l : List S48) : Bool := allFrom (longAt ps l) 0 l.length
def bytesFor (ps : List S40) (l : List S48) : List UInt8 := l.flatMap fun x => (dataOf ps x.f0).data.toList
def tagsFor (l : List S48) : List Int := l.map fun x => x.f1
def noStr : ByteArray := ⟨#[]⟩
def wholeR (u : S25) (l : List S48) : ByteArray × ByteArray × Int :=
  if fineB u.f0 u.f1 u.f2 = false ∨ l.length = 0 then (noStr, noStr, 1)
  else if ordB l = false then (noStr, noStr, 9)
  else if l.any (lackB u.f2) = true then (noStr, noStr, 4)
  else if longB u.f2 l = false then (noStr, noStr, 3)
  else if 2000 < (bytesFor u.f2 l).length then (noStr, noStr, 6)
  else (⟨(bytesFor u.f2 l).toArray⟩, manyText (tagsFor l), 0)
def wholeV (r : ByteArray × ByteArray × Int) : Value := .tuple #[.string r.1, .string r.2.1, .int .i64 r.2.2]

theorem allFrom_snoc (P : Nat → Bool) (d : Nat) : ∀ i, allFrom P i (d + 1) = (allFrom P i d && P (i + d)) := by
  induction d with
  | zero => intro i; simp [allFrom]
  | succ d ih =>
    intro i
    rw [show allFrom P i (d + 1 + 1) = (P i && allFrom P (i + 1) (d + 1)) from rfl, ih (i + 1), show allFrom P i (d + 1) = (P i && allFrom P (i + 1) d) from rfl, Bool.and_assoc, show i + 1 + d = i + (d + 1) by omega]
theorem ordAt_eq (l : List S48) (m : Nat) (h : m + 1 < l.length) : ordAt l (m + 1) = decide (l[m].f0 < l[m + 1].f0) := by
  unfold ordAt
  rw [Nat.add_sub_cancel, List.getD_eq_getElem?_getD, List.getD_eq_getElem?_getD, List.getElem?_eq_getElem (by omega), List.getElem?_eq_getElem h]; rfl
theorem keepN {B : Nat} {w w1 : World} (h : Hid (Below B w w1)) (n : Nat) : Hid (Below B w (w1.drewN n)) := h.out.trans (below_drewN _ _ _)
theorem notOr {b : Bool} {n : Nat} (h : b = true) (hz : ¬ n = 0) : ¬ (b = false ∨ n = 0) := by
  intro h'
  rcases h' with h' | h'
  · rw [h] at h'; cases h'
  · exact hz h'
theorem bytesFor_snoc (ps : List S40) (l : List S48) (k : Nat) (h : k < l.length) : Lib.byteCells (bytesFor ps (l.take (k + 1))) = Lib.byteCells (bytesFor ps (l.take k)) ++ Lib.strCells (dataOf ps l[k].f0) := by
  rw [Lib.strCells_eq, ← Lib.byteCells_append, List.take_succ_eq_append_getElem h]
  unfold bytesFor
  rw [List.flatMap_append]; simp
theorem tagsFor_snoc (l : List S48) (k : Nat) (h : k < l.length) : (tagsFor (l.take (k + 1))).map (Value.int .u32) = (tagsFor (l.take k)).map (Value.int .u32) ++ [.int .u32 l[k].f1] := by
  rw [List.take_succ_eq_append_getElem h]
  unfold tagsFor
  rw [List.map_append, List.map_append]; rfl
theorem bytesFor_len (ps : List S40) (l : List S48) (k : Nat) (h : ∀ p ∈ ps, p.f1.size ≤ 2000) (hk : k ≤ l.length) : (bytesFor ps (l.take k)).length ≤ 2000 * k := by
  induction k with
  | zero => simp [bytesFor]
  | succ k ih =>
    rw [List.take_succ_eq_append_getElem (by omega)]
    have h1 := ih (by omega)
    have h2 := dataOf_size ps (l[k]'(by omega)).f0 2000 h
    unfold bytesFor at h1 ⊢
    rw [List.flatMap_append, List.length_append]
    simp only [List.flatMap_cons, List.flatMap_nil, List.append_nil]
    have : (dataOf ps (l[k]'(by omega)).f0).data.toList.length = (dataOf ps (l[k]'(by omega)).f0).size := by rw [Array.length_toList]; rfl
    omega
theorem longAt_eq (ps : List S40) (l : List S48) (k : Nat) (h : k < l.length) : longAt ps l k = !(decide (k + 1 < l.length) && decide ((dataOf ps l[k].f0).size < 5)) := by
  unfold longAt
  rw [List.getD_eq_getElem?_getD, List.getElem?_eq_getElem h]; rfl
theorem reps_int (k : IntKind) (w : World) (xs : List Int) : Reps ((Kd.int k).K w) 1 xs (xs.map (Value.int k)) := by
  refine ⟨by simp, fun j p h => ?_⟩
  rw [Nat.mul_one]
  obtain ⟨hj, rfl⟩ := List.getElem?_eq_some_iff.1 h
  show _ = [Value.int k xs[j]]
  rw [List.drop_eq_getElem_cons (by simpa using hj)]
  simp
set_option maxHeartbeats 8000000 in
set_option maxRecDepth 100000 in
theorem whole.walk (u : S25) (A2 : Option Addr) (c2 : Nat) (A : Option Addr) (c : Nat) (l : List S48) (w : World) (hl : l.length < 100)
    (hr2 : Kd.C k40 w A2 u.f2.length u.f2) (hc2 : u.f2.length ≤ c2) (hr : Kd.C k48 w A l.length l) :
    Calls Tryd.prog 9 #[.agg #[.int .u64 u.f0, .string u.f1, .slice A2 u.f2.length c2], .slice A l.length c] w fun e w' => e = .returned (wholeV (wholeR u l)) ∧ Below w.heap.size w w' := by
  have HB0 : Hid (Below w.heap.size w w) := Below.refl _ _
  have HFN := Lib.hid (fun (W : World) (hb : Below w.heap.size w W) => fine_calls (w := W) (A := A2) (c := c2) u.f0 u.f1 (Kd.C_below hr2 hb) hc2)
  have HR := Lib.hid hr
  have HR2 := Lib.hid hr2
  clear hr hr2
  cases hfn : fineB u.f0 u.f1 u.f2
  · have HE : Hid (wholeR u l = (noStr, noStr, 1)) := by unfold Hid wholeR; rw [if_pos (Or.inl hfn)]
    rw [hfn] at HFN
    clear hfn
    go_enter Tryd.func9, Tryd.ntmps9
    go_wp2_with (go_at_call 22; refine (HFN.out _ ((HB0.out.alloc (Nat.le_refl _) _).alloc (by simp) _)).mono ?_; rintro e w1 ⟨rfl, hb1⟩; have HB1 := Lib.hid hb1; clear hb1)
    go_ret3
    exact ⟨by rw [HE.out]; rfl, keepB ((HB0.out.alloc (Nat.le_refl _) _).alloc (by simp) _) HB1.out⟩
  rw [hfn] at HFN
  by_cases hz : l.length = 0
  · have HE : Hid (wholeR u l = (noStr, noStr, 1)) := by unfold Hid wholeR; rw [if_pos (Or.inr hz)]
    have hz' : ((l.length : Int) == 0) = true := beq_iff_eq.2 (by omega)
    clear hfn hz
    go_enter Tryd.func9, Tryd.ntmps9
    go_wp2_with (go_at_call 22; refine (HFN.out _ ((HB0.out.alloc (Nat.le_refl _) _).alloc (by simp) _)).mono ?_; rintro e w1 ⟨rfl, hb1⟩; have HB1 := Lib.hid hb1; clear hb1)
    go_ret3
    exact ⟨by rw [HE.out]; rfl, keepB ((HB0.out.alloc (Nat.le_refl _) _).alloc (by simp) _) HB1.out⟩
  have hz' : ((l.length : Int) == 0) = false := beq_eq_false_iff_ne.2 (by omega)
  have HF2 := Lib.hid hfn
  clear hfn
  go_enter Tryd.func9, Tryd.ntmps9
  go_wp2_with (go_at_call 22; refine (HFN.out _ ((HB0.out.alloc (Nat.le_refl _) _).alloc (by simp) _)).mono ?_; rintro e w1 ⟨rfl, hb1⟩; have HBK := Lib.hid (blk_below (blk_new (w.alloc _) _) hb1); have HB1 := keepB ((HB0.out.alloc (Nat.le_refl _) _).alloc (by simp) _) hb1; clear hb1)
  go_loopw [8] (fun i wr => ∃ m : Nat, i = .int .i64 ((m : Int) + 1) ∧ m + 1 ≤ l.length ∧ Hid (allFrom (ordAt l) 1 m = true) ∧ Hid (Below w.heap.size w wr) ∧ Hid (wr.heap[w.heap.size + 1]? = some (.cells #[.int .u64 u.f0, .string u.f1, .slice A2 u.f2.length c2] 60 (0, 0)))) (fun i _ => l.length - (intOf i).toNat)
  case atStart => exact ⟨0, rfl, by omega, rfl, HB1, by simpa using HBK⟩
  case round =>
    obtain ⟨m, rfl, hm, ho, hb, hbk⟩ := hrel
    by_cases hlt : m + 1 < l.length
    · obtain ⟨ad, e', hc0, _⟩ := at48 HR.out hb.out m (by omega)
      obtain ⟨ad', e2, hc1, _⟩ := at48 HR.out hb.out (m + 1) hlt
      obtain rfl : ad = ad' := by rw [e'] at e2; injection e2
      subst e'
      clear e2
      by_cases ho2 : l[m].f0 < l[m + 1].f0
      · have h1 : ordAt l (m + 1) = true := by rw [ordAt_eq l m hlt]; exact decide_eq_true ho2
        have HN : Hid (allFrom (ordAt l) 1 (m + 1) = true) := by
          unfold Hid
          rw [allFrom_snoc, ho.out, Nat.add_comm, h1]; rfl
        have d1 : decide (l[m].f0 ≥ l[m + 1].f0) = false := by simp; omega
        go_wp2
        go_quiet (fail)
        go_wp2
        go_roundw
        case rel => exact ⟨m + 1, by go_num, by omega, HN, keepN hb _, hbk⟩
        case measure => simp [intOf]; omega
      · have h1 : ordAt l (m + 1) = false := by rw [ordAt_eq l m hlt]; exact decide_eq_false ho2
        have HE : Hid (wholeR u l = (noStr, noStr, 9)) := by
          unfold Hid wholeR
          have : ordB l = false := by
            cases h : ordB l
            · rfl
            · unfold ordB at h
              have := allFrom_at h (m + 1) (by omega) (by omega)
              rw [h1] at this; exact this.symm
          rw [if_neg (notOr HF2.out hz), if_pos this]
        have d1 : decide (l[m].f0 ≥ l[m + 1].f0) = true := by simp; omega
        go_wp2
        go_quiet (fail)
        go_wp2
        go_ret3
        exact ⟨by rw [HE.out]; rfl, keepN hb _⟩
    · have HO : Hid (ordB l = true) := by
        have := ho.out
        unfold Hid ordB
        rw [show l.length - 1 = m by omega]; exact this
      obtain rfl : m = l.length - 1 := by omega
      have hcells : ∀ j v, (#[.int .u64 u.f0, .string u.f1, .slice A2 u.f2.length c2] : Array Value)[j]? = some v → wr.cell? ⟨w.heap.size + 1, j, none⟩ = some v := fun j v h => (blk_cell hbk.out j).trans h
      have k0 := hcells 0 _ rfl
      have k1 := hcells 1 _ rfl
      have k2 := hcells 2 _ rfl
      clear hcells
      have hl1 : ((l.length - 1 : Nat) : Int) + 1 = l.length := by omega
      have HC := Lib.hid (cont23.walk A c l u.f0 u.f1 A2 c2 u.f2 wr (Kd.C_below HR.out hb.out) (Kd.C_below HR2.out hb.out) (fun p hp => by have := fine_sizes HF2.out p hp; omega))
      have hbs := Lib.hid hb.out.size
      cases hla : l.any (lackB u.f2)
      · rw [hla] at HC
        have HLA := Lib.hid hla
        clear hla
        go_wp2_with (go_at_call 23; refine HC.out.mono ?_; rintro e w1 ⟨rfl, hb1⟩; have HB2 := keepB hb hb1; have HBK2 := Lib.hid (blk_below hbk.out hb1); clear hb1)
        go_loopw [10, 11, 12, 13, 49] (fun v10 _ _ _ i wr => ∃ k : Nat, i = .int .i64 k ∧ k ≤ l.length ∧ Hid (allFrom (longAt u.f2 l) 0 k = true) ∧ Hid (Below w.heap.size w wr) ∧ Hid (wr.heap[w.heap.size + 1]? = some (.cells #[.int .u64 u.f0, .string u.f1, .slice A2 u.f2.length c2] 60 (0, 0))) ∧
          Hid (Lib.IsBuilder 66 5 w.heap.size w1.heap.size (Lib.byteCells (bytesFor u.f2 (l.take k))) wr) ∧ Hid (wr.ownsRow w.heap.size 42 1 v10 k ((tagsFor (l.take k)).map (Value.int .u32)))) (fun _ _ _ _ i _ => l.length - (intOf i).toNat)
        case atStart =>
          refine ⟨0, rfl, Nat.zero_le _, rfl, HB2.out.alloc HB2.out.size _, blk_alloc HBK2.out _, ?_, ?_⟩
          · have := Lib.fresh_isBuilder 66 5 w1
            rcases this with h | h
            · obtain ⟨h1, h2⟩ := h; exact Or.inl ⟨HB2.out.size, by obtain ⟨v, h3, h4, h5⟩ := h2; exact ⟨v, h3, own_weaken h4 HB2.out.size, h5⟩⟩
            · obtain ⟨h1, h2⟩ := h; exact Or.inr ⟨HB2.out.size, by obtain ⟨v, h3, h4, h5⟩ := h2; exact ⟨v, h3, own_weaken h4 HB2.out.size, h5⟩⟩
          · exact own_nil _ _ _ _
        case round =>
          obtain ⟨k, rfl, hk, hlo, hb3, hbk3, hbd, hown⟩ := hrel
          have HS := Lib.hid (bytesFor_len u.f2 l k (fine_sizes HF2.out) hk)
          by_cases hlt : k < l.length
          · obtain ⟨ad, e', hc0, hc1⟩ := at48 HR.out hb3.out k hlt
            subst e'
            have hcells : ∀ j v, (#[.int .u64 u.f0, .string u.f1, .slice A2 u.f2.length c2] : Array Value)[j]? = some v → (wr.alloc (.cells #[.int .i64 l[k].f0, .int .u32 l[k].f1] 48)).cell? ⟨w.heap.size + 1, j, none⟩ = some v := fun j v h => (blk_cell (blk_alloc hbk3.out _) j).trans h
            have k0 := hcells 0 _ rfl
            have k1 := hcells 1 _ rfl
            have k2 := hcells 2 _ rfl
            clear hcells
            have HSZ := Lib.hid (dataOf_size u.f2 l[k].f0 2000 (fine_sizes HF2.out))
            have HLA2 := Lib.hid (longAt_eq u.f2 l k hlt)
            have HBS := Lib.hid (bytesFor_snoc u.f2 l k hlt)
            have HTS := Lib.hid (tagsFor_snoc l k hlt)
            have HD := Lib.hid (data_calls (w := wr.alloc (.cells #[.int .i64 l[k].f0, .int .u32 l[k].f1] 48)) (A := A2) (c := c2) u.f0 u.f1 l[k].f0 (Kd.C_below HR2.out (hb3.out.alloc hb3.out.size _)) hc2)
            have HBW := Lib.hid (hb3.out.alloc hb3.out.size (.cells #[.int .i64 l[k].f0, .int .u32 l[k].f1] 48))
            have HK := Lib.hid ((KT.refl [42] wr).alloc (.cells #[.int .i64 l[k].f0, .int .u32 l[k].f1] 48))
            have HNEW := Lib.hid (blk_new wr (.cells #[.int .i64 l[k].f0, .int .u32 l[k].f1] 48))
            have HBDa := Lib.hid (((KT.refl [] wr).alloc (.cells #[.int .i64 l[k].f0, .int .u32 l[k].f1] 48)).isBuilder (by simp) hbd.out (by simp) (by simp))
            have HOWNa := Lib.hid (hown.out.alloc (.cells #[.int .i64 l[k].f0, .int .u32 l[k].f1] 48))
            obtain ⟨i0, hi, hy0, hy1, hy2⟩ := info_parts info42
            generalize hs : dataOf u.f2 l[k].f0 = s at *
            have HSS := Lib.hid hs; clear hs
            by_cases g1 : k + 1 < l.length
            · have d1 : decide ((k : Int) < (l.length : Int) - 1) = true := by simp; omega
              by_cases g2 : s.size < 5
              · have d2 : decide ((s.size : Int) < 5) = true := by simp; omega
                have HE : Hid (wholeR u l = (noStr, noStr, 3)) := by
                  have : longB u.f2 l = false := by
                    cases h : longB u.f2 l
                    · rfl
                    · unfold longB at h
                      have := allFrom_at h k (by omega) (by omega)
                      rw [HLA2.out] at this
                      simp [g1, g2] at this
                  unfold Hid wholeR
                  rw [if_neg (notOr HF2.out hz), if_neg (by rw [HO.out]; simp), if_neg (by rw [HLA.out]; simp), if_pos this]
                clear g1 g2
                go_wp2_with (go_at_call 25; refine HD.out.mono ?_; rintro e w2 ⟨rfl, hb4⟩; have HB4 := keepB HBW hb4; clear hb4)
                go_ret3
                exact ⟨by rw [HE.out]; rfl, HB4.out⟩
              · skip
                have d2 : decide ((s.size : Int) < 5) = false := by simp; omega
                have HLN : Hid (allFrom (longAt u.f2 l) 0 (k + 1) = true) := by
                  unfold Hid; rw [allFrom_snoc, hlo.out, Nat.zero_add, HLA2.out]; simp [g1, g2]
                clear g1 g2
                go_wp2_with (first
                  | (go_at_call 25; refine HD.out.mono ?_; rintro e w2 ⟨rfl, hb4⟩; have HB4 := keepB HBW hb4; have HBD4 := Lib.hid ((KT.below (ts := []) hb4).isBuilder hb4.size HBDa.out (by simp) (by simp)); have HOWN4 := Lib.hid ((KT.below (ts := []) hb4).own hb4.size HOWNa.out (by simp)); have HNEW4 := Lib.hid (blk_below HNEW.out hb4); have HBK4 := Lib.hid (blk_below (blk_alloc hbk3.out _) hb4); have HWR := Lib.hid (bd_Write w.heap.size w1.heap.size _ s w2 HBD4.out (by rw [Lib.byteCells_length]; have := HS.out; have := HSZ.out; omega) HB4.out.size); clear hb4)
                  | (go_at_call 26; refine HWR.out.mono ?_; rintro e w3 ⟨rfl, hbd4, hb5, hk5⟩; have HB5 := Lib.hid (HB4.out.trans hb5); have HBD5 := Lib.hid hbd4; have HOWN5 := Lib.hid (hk5.own hb5.size HOWN4.out (by simp)); have HBK5 := Lib.hid (hk5.blk HBK4.out (by simp)); have hn5 : w3.cell? ⟨wr.heap.size, 1, none⟩ = some (.int .u32 l[k].f1) := (blk_cell (hk5.blk HNEW4.out (by simp)) 1).trans rfl; clear hbd4 hb5 hk5)
                  | (at_builtin; refine wpList_append_own _ rfl _ _ 67 rfl w.heap.size 42 i0 (.int .u32 0) 1 4 Tryd.underlying67 hi hy0 hy1 hy2 rfl (by decide) _ _ _ rfl (HOWN5.out.alloc _) ⟨w3.heap.size, 0, none⟩ 1 1 [.int .u32 l[k].f1] rfl rfl ?c1 ?c2 ?c3 ?c4 ?c5 ?_))
                case c1 => exact World.news_of_block (cs := #[.int .u32 l[k].f1]) (t := 42) (fr := (0, 0)) (heap_alloc_new w3 _)
                case c2 => simp [Value.oneCell']
                case c3 => unfold maxLen; omega
                case c4 => omega
                case c5 => have := HB5.out.size; simp; omega
                intro v' w4 hown' hgrow _
                have HG := Lib.hid hgrow
                have HOW := Lib.hid hown'
                have HKT := Lib.hid (((KT.refl [42] w3).alloc (.cells #[.int .u32 l[k].f1] 42)).grown (HOWN5.out.alloc _) hgrow (by simp))
                have HB6 := Lib.hid ((HB5.out.alloc HB5.out.size _).grown hgrow (by have := HB5.out.size; simp; omega) (own_base HOWN5.out))
                clear hown' hgrow
                go_wp2
                go_roundw
                case rel =>
                  refine ⟨k + 1, by go_num, by omega, HLN, HB6, HKT.out.blk HBK5.out (by simp), ?_, ?_⟩
                  · have := HKT.out.isBuilder (by have := HG.out.size; simp at this; omega) HBD5.out (by simp) (by simp)
                    unfold Hid; rw [HBS.out]; exact this
                  · unfold Hid; rw [HTS.out]; exact HOW.out
                case measure => simp [intOf]; omega
            · skip
              have HLN : Hid (allFrom (longAt u.f2 l) 0 (k + 1) = true) := by
                unfold Hid; rw [allFrom_snoc, hlo.out, Nat.zero_add, HLA2.out]; simp [g1]
              have d1 : decide ((k : Int) < (l.length : Int) - 1) = false := by simp; omega
              clear g1
              go_wp2_with (first
                | (go_at_call 25; refine HD.out.mono ?_; rintro e w2 ⟨rfl, hb4⟩; have HB4 := keepB HBW hb4; have HBD4 := Lib.hid ((KT.below (ts := []) hb4).isBuilder hb4.size HBDa.out (by simp) (by simp)); have HOWN4 := Lib.hid ((KT.below (ts := []) hb4).own hb4.size HOWNa.out (by simp)); have HNEW4 := Lib.hid (blk_below HNEW.out hb4); have HBK4 := Lib.hid (blk_below (blk_alloc hbk3.out _) hb4); have HWR := Lib.hid (bd_Write w.heap.size w1.heap.size _ s w2 HBD4.out (by rw [Lib.byteCells_length]; have := HS.out; have := HSZ.out; omega) HB4.out.size); clear hb4)
                | (go_at_call 26; refine HWR.out.mono ?_; rintro e w3 ⟨rfl, hbd4, hb5, hk5⟩; have HB5 := Lib.hid (HB4.out.trans hb5); have HBD5 := Lib.hid hbd4; have HOWN5 := Lib.hid (hk5.own hb5.size HOWN4.out (by simp)); have HBK5 := Lib.hid (hk5.blk HBK4.out (by simp)); have hn5 : w3.cell? ⟨wr.heap.size, 1, none⟩ = some (.int .u32 l[k].f1) := (blk_cell (hk5.blk HNEW4.out (by simp)) 1).trans rfl; clear hbd4 hb5 hk5)
                | (at_builtin; refine wpList_append_own _ rfl _ _ 67 rfl w.heap.size 42 i0 (.int .u32 0) 1 4 Tryd.underlying67 hi hy0 hy1 hy2 rfl (by decide) _ _ _ rfl (HOWN5.out.alloc _) ⟨w3.heap.size, 0, none⟩ 1 1 [.int .u32 l[k].f1] rfl rfl ?c1 ?c2 ?c3 ?c4 ?c5 ?_))
              case c1 => exact World.news_of_block (cs := #[.int .u32 l[k].f1]) (t := 42) (fr := (0, 0)) (heap_alloc_new w3 _)
              case c2 => simp [Value.oneCell']
              case c3 => unfold maxLen; omega
              case c4 => omega
              case c5 => have := HB5.out.size; simp; omega
              intro v' w4 hown' hgrow _
              have HG := Lib.hid hgrow
              have HOW := Lib.hid hown'
              have HKT := Lib.hid (((KT.refl [42] w3).alloc (.cells #[.int .u32 l[k].f1] 42)).grown (HOWN5.out.alloc _) hgrow (by simp))
              have HB6 := Lib.hid ((HB5.out.alloc HB5.out.size _).grown hgrow (by have := HB5.out.size; simp; omega) (own_base HOWN5.out))
              clear hown' hgrow
              go_wp2
              go_roundw
              case rel =>
                refine ⟨k + 1, by go_num, by omega, HLN, HB6, HKT.out.blk HBK5.out (by simp), ?_, ?_⟩
                · have := HKT.out.isBuilder (by have := HG.out.size; simp at this; omega) HBD5.out (by simp) (by simp)
                  unfold Hid; rw [HBS.out]; exact this
                · unfold Hid; rw [HTS.out]; exact HOW.out
              case measure => simp [intOf]; omega
          · obtain rfl : k = l.length := by omega
            rw [List.take_of_length_le (Nat.le_refl _)] at hown hbd HS
            have hlen2 : (tagsFor l).length = l.length := by simp [tagsFor]
            obtain ⟨A3, c3, rfl, hrd⟩ := own_reads_row (R := (Kd.int .u32).K wr) (ps := tagsFor l) hown.out (reps_int _ _ _) hlen2
            have HRD : Hid (Kd.C (Kd.int .u32) wr A3 (tagsFor l).length (tagsFor l)) := by rw [hlen2]; exact hrd
            have HLEN2 := Lib.hid hlen2
            have HLE := Lib.hid (Tryd.Builder_Len w.heap.size w1.heap.size _ wr hbd.out)
            have hbl : (bytesFor u.f2 l).length ≤ 200000 := by have := HS.out; omega
            clear hrd hlen2 HS
            have HT := Lib.hid (tag_Many.walk (tagsFor l) c3 wr A3 (by rw [HLEN2.out]; omega) (by rw [HLEN2.out]; exact hl) HRD.out)
            rw [HLEN2.out] at HT
            rw [Lib.byteCells_length] at HLE
            by_cases g : 2000 < (bytesFor u.f2 l).length
            · have HE : Hid (wholeR u l = (noStr, noStr, 6)) := by
                unfold Hid wholeR
                rw [if_neg (notOr HF2.out hz), if_neg (by rw [HO.out]; simp), if_neg (by rw [HLA.out]; simp), if_neg (by have := hlo.out; unfold longB; rw [this]; simp), if_pos g]
              have d : decide ((2000 : Int) < (bytesFor u.f2 l).length) = true := by simp; omega
              clear g
              generalize hq : (bytesFor u.f2 l).length = q at *
              clear hq
              go_wp2_with (go_at_call 27; refine HLE.out.mono ?_; rintro e w2 ⟨rfl, rfl⟩)
              go_ret3
              exact ⟨by rw [HE.out]; rfl, hb3.out⟩
            · have HE : Hid (wholeR u l = (⟨(bytesFor u.f2 l).toArray⟩, manyText (tagsFor l), 0)) := by
                unfold Hid wholeR
                rw [if_neg (notOr HF2.out hz), if_neg (by rw [HO.out]; simp), if_neg (by rw [HLA.out]; simp), if_neg (by have := hlo.out; unfold longB; rw [this]; simp), if_neg g]
              have d : decide ((2000 : Int) < (bytesFor u.f2 l).length) = false := by simp; omega
              clear g
              have HST := Lib.hid (fun (W : World) (h : Below wr.heap.size wr W) => Tryd.Builder_String_any w.heap.size w1.heap.size (bytesFor u.f2 l) W ((KT.below (ts := []) h).isBuilder h.size hbd.out (by simp) (by simp)) (Nat.le_trans hb3.out.size h.size))
              generalize hq : (bytesFor u.f2 l).length = q at *
              clear hq
              go_wp2_with (first
                | (go_at_call 27; refine HLE.out.mono ?_; rintro e w2 ⟨rfl, rfl⟩)
                | (go_at_call 28; refine HT.out.mono ?_; rintro e w2 ⟨rfl, hb4⟩; have HB4 := Lib.hid hb4; clear hb4)
                | (go_at_call 29; refine (HST.out _ HB4.out).mono ?_; rintro e w3 ⟨rfl, hb5⟩; have HB5 := Lib.hid hb5; clear hb5))
              go_ret3
              exact ⟨by rw [HE.out]; rfl, (hb3.out.trans (HB4.out.mono hb3.out.size)).trans HB5.out⟩
      · have HE : Hid (wholeR u l = (noStr, noStr, 4)) := by
          unfold Hid wholeR
          rw [if_neg (notOr HF2.out hz), if_neg (by rw [HO.out]; simp), if_pos hla]
        rw [hla] at HC
        clear hla
        go_wp2_with (go_at_call 23; refine HC.out.mono ?_; rintro e w1 ⟨rfl, hb1⟩; have HB2 := keepB hb hb1; clear hb1)
        go_ret3
        exact ⟨by rw [HE.out]; rfl, HB2.out⟩
end Go.Proofs.YtgpmkbmobdbdoaaDoor.Q

-- U1
namespace Go.Proofs.YtgpmkbmobdbdoaaDoor.Q
open Go.RowKit Go.Proofs.YtgpmkbmobdbdoaaDoorW.PrintWords Go.Proofs.YtgpmkbmobdbdoaaDoorW.PrintLast Go.Proofs.YtgpmkbmobdbdoaaDoorW.PrintMore
set_option linter.unusedVariables false
set_option linter.unusedSimpArgs false

/-! Rows of cells: a slice of structs as its elements' cells. -/
def RawAt (w : World) (ad : Addr) (cs : List Value) : Prop := ∀ (j : Nat) (u : Value), cs[j]? = some u → w.cell? (ad.add j) = some u
structure RowsOf {α : Type} (d : Kd α) (w : World) (l : List α) (rows : List (List Value)) : Prop where
  len : rows.length = l.length
  at_ : ∀ (j : Nat) (x : α) (c : List Value), l[j]? = some x → rows[j]? = some c → d.K w x c
theorem flat_len {rows : List (List Value)} {sz : Nat} (h : ∀ c ∈ rows, c.length = sz) : rows.flatten.length = rows.length * sz := by
  induction rows with
  | nil => simp
  | cons c rows ih =>
    rw [List.flatten_cons, List.length_append, ih (fun d hd => h d (List.mem_cons_of_mem _ hd)), h c List.mem_cons_self, List.length_cons, Nat.add_mul]
    omega
theorem flat_at {rows : List (List Value)} {sz : Nat} (h : ∀ c ∈ rows, c.length = sz) (j i : Nat) (hi : i < sz) : rows.flatten[j * sz + i]? = (rows[j]?).bind (fun c => c[i]?) := by
  induction rows generalizing j with
  | nil => simp
  | cons c rows ih =>
    have hc := h c List.mem_cons_self
    rw [List.flatten_cons]
    rcases j with _ | j
    · rw [List.getElem?_append_left (by omega)]; simp
    · rw [List.getElem?_append_right (by rw [hc, Nat.add_mul]; omega), hc, show (j + 1) * sz + i - sz = j * sz + i by rw [Nat.add_mul]; omega, ih (fun d hd => h d (List.mem_cons_of_mem _ hd))]
      simp
section
variable {α : Type} {d : Kd α} {w w1 : World} {l : List α} {rows : List (List Value)} {ad : Addr}
theorem RowsOf.lens (h : RowsOf d w l rows) : ∀ c ∈ rows, c.length = d.sz := by
  intro c hc
  obtain ⟨j, hj, rfl⟩ := List.getElem_of_mem hc
  exact d.K_len (h.at_ j _ _ (List.getElem?_eq_getElem (by have := h.len; omega)) (List.getElem?_eq_getElem hj))
theorem RowsOf.one (h : RowsOf d w l rows) : ∀ u ∈ rows.flatten, u.oneCell' = true := by
  intro u hu
  obtain ⟨c, hc, hu⟩ := List.mem_flatten.1 hu
  obtain ⟨j, hj, rfl⟩ := List.getElem_of_mem hc
  exact d.K_one (h.at_ j _ _ (List.getElem?_eq_getElem (by have := h.len; omega)) (List.getElem?_eq_getElem hj)) u hu
theorem RowsOf.below (h : RowsOf d w l rows) (hb : Below w.heap.size w w1) : RowsOf d w1 l rows := ⟨h.len, fun j x c h1 h2 => d.K_below hb (h.at_ j x c h1 h2)⟩
theorem RowsOf.set (h : RowsOf d w l rows) (i : Nat) (x : α) (c : List Value) (hx : d.K w x c) : RowsOf d w (l.set i x) (rows.set i c) := by
  refine ⟨by simpa using h.len, fun j y c' h1 h2 => ?_⟩
  rw [List.getElem?_set] at h1 h2
  by_cases e : i = j
  · subst e
    rw [if_pos rfl] at h1 h2
    by_cases hl : i < l.length
    · rw [if_pos hl] at h1; rw [if_pos (by have := h.len; omega)] at h2
      injection h1 with h1; injection h2 with h2; subst h1; subst h2; exact hx
    · rw [if_neg hl] at h1; cases h1
  · rw [if_neg e] at h1 h2; exact h.at_ j y c' h1 h2
theorem RowsOf.append {l2 : List α} {rows2 : List (List Value)} (h : RowsOf d w l rows) (h2 : RowsOf d w l2 rows2) : RowsOf d w (l ++ l2) (rows ++ rows2) := by
  refine ⟨by simp [h.len, h2.len], fun j x c hx hc => ?_⟩
  rcases Nat.lt_or_ge j l.length with hj | hj
  · rw [List.getElem?_append_left hj] at hx
    rw [List.getElem?_append_left (by have := h.len; omega)] at hc
    exact h.at_ j x c hx hc
  · rw [List.getElem?_append_right hj] at hx
    rw [List.getElem?_append_right (by have := h.len; omega), h.len] at hc
    exact h2.at_ _ x c hx hc
theorem RowsOf.take (h : RowsOf d w l rows) (n : Nat) : RowsOf d w (l.take n) (rows.take n) := by
  refine ⟨by simp [h.len], fun j x c hx hc => ?_⟩
  rw [List.getElem?_take] at hx hc
  split at hx
  · rename_i hj; rw [if_pos hj] at hc; exact h.at_ j x c hx hc
  · cases hx
theorem RowsOf.drop (h : RowsOf d w l rows) (n : Nat) : RowsOf d w (l.drop n) (rows.drop n) := by
  refine ⟨by simp [h.len], fun j x c hx hc => ?_⟩
  rw [List.getElem?_drop] at hx hc
  exact h.at_ _ x c hx hc
theorem RowsOf.one_ (x : α) (c : List Value) (h : d.K w x c) : RowsOf d w [x] [c] := by
  refine ⟨rfl, fun j y e hy he => ?_⟩
  rcases j with _ | j
  · simp at hy he; subst hy; subst he; exact h
  · simp at hy
theorem RowsOf.nil_ : RowsOf d w ([] : List α) [] := ⟨rfl, fun j y e hy he => by simp at hy⟩
/-- What a slice that is read holds, cell by cell. -/
theorem C_rows (h : Kd.C d w (some ad) l.length l) : ∃ rows, RowsOf d w l rows ∧ RawAt w ad rows.flatten := by
  obtain ⟨h1, h2, h3⟩ := h
  rcases Nat.eq_zero_or_pos l.length with h0 | h0
  · have : l = [] := List.length_eq_zero_iff.1 h0
    subst this
    exact ⟨[], RowsOf.nil_, fun j u hu => by simp at hu⟩
  · obtain ⟨ad', e, hc⟩ := h3 h0
    obtain rfl : ad = ad' := by injection e
    have : ∀ j : Nat, ∃ c : List Value, ∀ x, l[j]? = some x → c.length = d.sz ∧ d.K w x c ∧ ∀ i u, c[i]? = some u → w.cell? (ad.add (j * d.sz + i)) = some u := fun j => by
      cases hx : l[j]? with
      | none => exact ⟨[], fun x hx' => by cases hx'⟩
      | some x => obtain ⟨c, hc'⟩ := hc j x hx; exact ⟨c, fun y hy => by injection hy with hy; subst hy; exact hc'⟩
    obtain ⟨f, hf⟩ := Classical.skolem.1 this
    have hr : RowsOf d w l ((List.range l.length).map f) := by
      refine ⟨by simp, fun j x c hx hcj => ?_⟩
      rw [List.getElem?_map] at hcj
      have hj := (List.getElem?_eq_some_iff.1 hx).1
      rw [List.getElem?_range hj] at hcj
      injection hcj with hcj
      subst hcj
      exact (hf j x hx).2.1
    refine ⟨_, hr, fun k u hu => ?_⟩
    have hlen := flat_len hr.lens
    have hk := (List.getElem?_eq_some_iff.1 hu).1
    have hsz : 0 < d.sz := by
      rcases Nat.eq_zero_or_pos d.sz with hz | hz
      · rw [hlen, hz] at hk; omega
      · exact hz
    have e1 : k = k / d.sz * d.sz + k % d.sz := by rw [Nat.mul_comm]; exact (Nat.div_add_mod k d.sz).symm
    rw [e1, flat_at hr.lens _ _ (Nat.mod_lt _ hsz)] at hu
    rw [List.getElem?_map] at hu
    have hj : k / d.sz < l.length := by
      rw [hlen] at hk
      simp only [List.length_map, List.length_range] at hk
      exact Nat.div_lt_of_lt_mul (by rw [Nat.mul_comm]; exact hk)
    rw [List.getElem?_range hj] at hu
    rw [e1]
    exact (hf _ _ (List.getElem?_eq_getElem hj)).2.2 _ _ hu
/-- And back. -/
theorem rows_C (h : RowsOf d w l rows) (hr : RawAt w ad rows.flatten) (hn : l.length ≤ 9223372036854775807) : Kd.C d w (some ad) l.length l := by
  refine ⟨rfl, hn, fun _ => ⟨ad, rfl, fun j x hx => ?_⟩⟩
  have hj := (List.getElem?_eq_some_iff.1 hx).1
  have hj' : j < rows.length := by have := h.len; omega
  refine ⟨rows[j], h.lens _ (List.getElem_mem hj'), h.at_ j x _ hx (List.getElem?_eq_getElem hj'), fun i u hu => hr _ _ ?_⟩
  have hi : i < d.sz := by have := (List.getElem?_eq_some_iff.1 hu).1; rw [h.lens _ (List.getElem_mem hj')] at this; exact this
  rw [flat_at h.lens j i hi, List.getElem?_eq_getElem hj', Option.bind_some]
  exact hu
end
theorem own_raw {w : World} {base n g cap sz : Nat} {e : TypeId} {cs : List Value} (h : w.ownsRow base e sz (.slice (some ⟨g, 0, none⟩) n cap) n cs) : RawAt w ⟨g, 0, none⟩ cs := by
  intro j u hu
  rcases h.2 with ⟨h1, _⟩ | ⟨g', cap', cur, hv, hg, hh, hn, hm, hsz, hcur⟩
  · cases h1
  · injection hv with e1 e2 e3
    injection e1 with e1; injection e1 with e1
    subst e1
    have : (Addr.add ⟨g, 0, none⟩ j) = ⟨g, j, none⟩ := by unfold Addr.add; split <;> simp_all
    rw [this, blk_cell hh]
    have hj := (List.getElem?_eq_some_iff.1 hu).1
    rw [← hcur, List.getElem?_take] at hu
    split at hu
    · simpa using hu
    · cases hu
end Go.Proofs.YtgpmkbmobdbdoaaDoor.Q

-- U2
namespace Go.Proofs.YtgpmkbmobdbdoaaDoor.Q
open Go.RowKit Go.Proofs.YtgpmkbmobdbdoaaDoorW.PrintWords Go.Proofs.YtgpmkbmobdbdoaaDoorW.PrintLast Go.Proofs.YtgpmkbmobdbdoaaDoorW.PrintMore
set_option linter.unusedVariables false
set_option linter.unusedSimpArgs false

theorem Only.setRow {g : Nat} {w w' : World} (h : Only g w w') (cs : Array Value) : Only g w (w'.setRow g cs) :=
  ⟨h.os, h.tape, h.output, by simpa [World.setRow] using h.size, fun k hk hg => (setRow_other _ _ _ _ hg).trans (h.block k hk hg)⟩
theorem Only.blk {g k : Nat} {w w' : World} {o : Obj} (h : Only g w w') (hk : w.heap[k]? = some o) (hg : k ≠ g) : w'.heap[k]? = some o := (h.block k (blk_lt hk) hg).trans hk
/-- copy, elements of any number of cells. -/
theorem run_copy_cells {P : Program} (w : World) (dT sT ty elem : TypeId) (g o dLen dCap : Nat) (a : Addr) (sLen sCap sz : Nat) (cur : Array Value) (t : TypeId) (cs : List Value)
    (hu : P.underlying dT = some (.slice elem)) (hs : (P.info? elem).map (·.size) = some sz)
    (hg : w.heap[g]? = some (.cells cur t (0, 0))) (hn : cs.length = Nat.min sLen dLen * sz)
    (hsrc : ∀ j v, cs[j]? = some v → w.cell? (a.add j) = some v) (hfit : o + cs.length ≤ cur.size) (h1 : ∀ v ∈ cs, v.oneCell' = true) :
    (Builtin.copy_ #[dT, sT] ty #[.slice (some ⟨g, o, none⟩) dLen dCap, .slice (some a) sLen sCap]).run P w =
      .ok (goInt (Nat.min sLen dLen)) (w.setRow g (splice cur.toList o cs).toArray) := by
  have hl := run_loadCells_list (P := P) w a cs hsrc
  have hst := run_storeCells_at P g o t cs 0 cur w hg (by simpa using hfit) h1
  cases hq : P.info? elem with
  | none => simp [hq] at hs
  | some i =>
    have hi : i.size = sz := by simpa [hq] using hs
    rw [hn] at hl
    have hm : Nat.min sLen dLen = min sLen dLen := rfl
    rw [hm] at hl ⊢
    simp [Builtin.copy_, run_underlying hu, Builtin.lenOf, Builtin.firstCells, sizeOf, typeInfo, hq, hi, hl, hst, hm, splice]
theorem wpList_copy_cells {P : Program} {w : World} {ops : Array Oper} {rest : List Oper} {o : Oper} {a : Act} {Q : Exit → Act → World → Prop} (hgd : o.guard = none) (d s : Operand) (dT sT : TypeId)
    (ho : o.op = .call { callee := .builtin .copy, args := #[d, s], argTypes := #[dT, sT] }) (elem : TypeId) (sz : Nat) (hu : P.underlying dT = some (.slice elem)) (hsz : (P.info? elem).map (·.size) = some sz)
    (g off dLen dCap : Nat) (ad : Addr) (sLen sCap : Nat) (hd : a.eval d = .slice (some ⟨g, off, none⟩) dLen dCap) (hs : a.eval s = .slice (some ad) sLen sCap)
    (cur : Array Value) (t : TypeId) (hg : w.heap[g]? = some (.cells cur t (0, 0))) (cs : List Value) (hn : cs.length = Nat.min sLen dLen * sz)
    (hsrc : ∀ j v, cs[j]? = some v → w.cell? (ad.add j) = some v) (hfit : off + cs.length ≤ cur.size) (h1 : ∀ v ∈ cs, v.oneCell' = true)
    (h : ∀ w', Hid (w' = w.setRow g (splice cur.toList off cs).toArray) → wpList P ops Q rest (a.put o.dst (goInt (Nat.min sLen dLen))) w') : wpList P ops Q (o :: rest) a w := by
  refine wpList_plain hgd fun K hK => ?_
  have hrun := run_copy_cells (P := P) w dT sT o.type elem g off dLen dCap ad sLen sCap sz cur t cs hu hsz hg hn hsrc hfit h1
  unfold Oper.wp
  simp [execOp, ho, resolve, invoke, builtin, hd, hs, hrun, Result.andThen]
  exact hK _ _ (h _ rfl)
/-- append(s, make([]T, m)...) where s has no room: the new row, written out. -/
theorem run_zeros_grow {P : Program} (w : World) (t ti ty e : TypeId) (i : TypeInfo) (z : Value) (ht : P.underlying t = some (.slice e)) {k : IntKind} (hti : P.underlying ti = some (.int k)) (hi : P.info? e = some i) (hz : i.zero = some z)
    (hzs : z.cells.size = i.size) (hsz : 0 < i.size) (A : Addr) (n cap : Nat) (xs : List Value) (hx : xs.length = n * i.size) (hxs : ∀ j u, xs[j]? = some u → w.cell? (A.add j) = some u) (kx : IntKind) (m : Nat) (hm : 0 < m)
    (hcap : cap < n + m) (hle : n + m ≤ 1000000) (hby : i.bytes ≤ 1000) :
    (Builtin.append_ #[t, ti] ty #[.slice (some A) n cap, .int kx m]).run P w =
      .ok (.slice (some ⟨w.heap.size, 0, none⟩) (n + m) (grownCap w (n + m) cap e)) (w.drew.alloc (.cells (xs ++ ((Builtin.zeroCells z.cells m).toList ++ (Builtin.zeroCells z.cells (grownCap w (n + m) cap e - (n + m))).toList)).toArray e)) := by
  have hw : IntKind.i64.wrap (m : Int) = m := by rw [IntKind.wrap_i64]; omega
  have hneg : ¬ ((m : Int) < 0) := by omega
  have hb1 : m * i.bytes ≤ 1000000 * 1000 := Nat.mul_le_mul (by omega) hby
  have hbig : ¬ (281474976710656 < (m : Int) * (i.bytes : Int)) := by rw [← Int.natCast_mul]; omega
  have hn : ¬ (n + m ≤ cap) := by omega
  have h63' : ¬ (9223372036854775807 < ((n : Int) + (m : Int))) := by omega
  have hb2 : (n + m) * i.bytes ≤ 1000000 * 1000 := Nat.mul_le_mul hle hby
  have hfit := growslice_fits (bytes := i.bytes) hcap (by omega)
  have h48' : ¬ (281474976710656 < Builtin.nextslicecap (n + m) cap * i.bytes) := by omega
  have hmz : ¬ (m * i.size = 0) := Nat.mul_ne_zero (by omega) (by omega)
  have hfo := run_firstCells_some (P := P) w.drew i.size n A n cap xs hx (by simpa using hxs)
  simp [Builtin.append_, run_underlying ht, run_underlying hti, sizeOf, typeInfo, zeroValue, hi, hz, asInt, asIntOf, hw, hneg, hbig, hn, h63', h48', Question.forced, hfo, newRow, grownCap, hmz]
  congr 2
  apply Array.ext'
  simp [List.append_assoc]
theorem wpList_zeros_grow {P : Program} {w : World} {ops : Array Oper} {rest : List Oper} {o : Oper} {a : Act} {Q : Exit → Act → World → Prop} (hgd : o.guard = none) (s x : Operand) (t ti : TypeId)
    (ho : o.op = .call { callee := .builtin .append, args := #[s, x], argTypes := #[t, ti] }) (e : TypeId) (i : TypeInfo) (z : Value) (ht : P.underlying t = some (.slice e)) (k : IntKind) (hti : P.underlying ti = some (.int k)) (hi : P.info? e = some i) (hz : i.zero = some z)
    (hzs : z.cells.size = i.size) (hsz : 0 < i.size) (A : Addr) (n cap : Nat) (xs : List Value) (hs : a.eval s = .slice (some A) n cap) (hx : xs.length = n * i.size) (hxs : ∀ j u, xs[j]? = some u → w.cell? (A.add j) = some u) (kx : IntKind) (m : Nat) (hxm : a.eval x = .int kx m) (hm : 0 < m)
    (hcap : cap < n + m) (hle : n + m ≤ 1000000) (hby : i.bytes ≤ 1000) (Zf : Nat → List Value) (hZ : ∀ m, (Builtin.zeroCells z.cells m).toList = Zf m)
    (h : ∀ nc w', n + m ≤ nc → nc ≤ maxLen → Hid (w' = w.drew.alloc (.cells (xs ++ (Zf m ++ Zf (nc - (n + m)))).toArray e)) → wpList P ops Q rest (a.put o.dst (.slice (some ⟨w.heap.size, 0, none⟩) (n + m) nc)) w') : wpList P ops Q (o :: rest) a w := by
  refine wpList_plain hgd fun K hK => ?_
  have hrun := run_zeros_grow (P := P) w t ti o.type e i z ht hti hi hz hzs hsz A n cap xs hx hxs kx m hm hcap hle hby
  unfold Oper.wp
  simp only [execOp, ho, resolve, invoke, builtin, Sem.run_bind, Sem.run_pure, Result.andThen_ok, List.map_toArray, List.map_cons, List.map_nil, hs, hxm, hrun]
  exact hK _ _ (h _ _ (grownCap_ge _ _ _ _) (grownCap_le_maxLen _ _ _ _ (by unfold maxLen; omega)) (by unfold Hid; rw [hZ, hZ]))
/-- clear(s) of a row. -/
theorem run_clear_cells {P : Program} (w : World) (t ty e : TypeId) (i : TypeInfo) (z : Value) (ht : P.underlying t = some (.slice e)) (hi : P.info? e = some i) (hz : i.zero = some z)
    (g o n cap : Nat) (cur : Array Value) (te : TypeId) (hg : w.heap[g]? = some (.cells cur te (0, 0))) (hn : 0 < n) (hfit : o + n * z.cells.size ≤ cur.size) (h1 : ∀ v ∈ (Builtin.zeroCells z.cells n).toList, v.oneCell' = true) :
    (Builtin.clear_ #[t] ty #[.slice (some ⟨g, o, none⟩) n cap]).run P w = .ok (.tuple #[]) (w.setRow g (splice cur.toList o (Builtin.zeroCells z.cells n).toList).toArray) := by
  have hst := run_storeCells_at P g o te (Builtin.zeroCells z.cells n).toList 0 cur w hg (by simpa [size_zeroCells] using hfit) h1
  obtain ⟨n, rfl⟩ : ∃ m, n = m + 1 := ⟨n - 1, by omega⟩
  simp [Builtin.clear_, run_underlying ht, typeInfo, zeroValue, hi, hz, hst, splice]
theorem zero_one {z : Value} (h : ∀ v ∈ z.cells.toList, v.oneCell' = true) (hz : 0 < z.cells.size) (n : Nat) : ∀ v ∈ (Builtin.zeroCells z.cells n).toList, v.oneCell' = true := by
  intro v hv
  simp only [Builtin.zeroCells, Array.toList_map, List.mem_map] at hv
  obtain ⟨i, _, rfl⟩ := hv
  have hi : i % z.cells.size < z.cells.size := Nat.mod_lt _ hz
  rw [getElem!_pos z.cells _ hi]
  exact h _ (by simp)
end Go.Proofs.YtgpmkbmobdbdoaaDoor.Q

-- T13
namespace Go.Proofs.YtgpmkbmobdbdoaaDoor.Q
open Go.RowKit Go.Proofs.YtgpmkbmobdbdoaaDoorW.PrintWords Go.Proofs.YtgpmkbmobdbdoaaDoorW.PrintLast Go.Proofs.YtgpmkbmobdbdoaaDoorW.PrintMore
set_option linter.unusedVariables false
set_option linter.unusedSimpArgs false

theorem at25 {w w1 : World} {A : Option Addr} {l : List S25} (hr : Kd.C k25 w A l.length l) (hb : Below w.heap.size w w1) (k : Nat) (h : k < l.length) :
    ∃ ad A2 c2, A = some ad ∧ w1.cell? (ad.add (k * 3)) = some (.int .u64 l[k].f0) ∧ w1.cell? ⟨(ad.add (k * 3)).block, (ad.add (k * 3)).off + 1, none⟩ = some (.string l[k].f1) ∧
      w1.cell? ⟨(ad.add (k * 3)).block, (ad.add (k * 3)).off + 2, none⟩ = some (.slice A2 l[k].f2.length c2) ∧ l[k].f2.length ≤ c2 ∧ Kd.C k40 w1 A2 l[k].f2.length l[k].f2 := by
  obtain ⟨ad, A2, c2, e, h0, h1, h2, h3, h4⟩ := at_T25 hr k (by omega) (by omega)
  rw [Int.toNat_natCast, rd25 l k h] at h0 h1 h2
  rw [rd25 l k h] at h3 h4
  exact ⟨ad, A2, c2, e, keepc hb h0, keepc hb h1, keepc hb h2, h3, Kd.C_below h4 hb⟩
theorem place1.walk (i : Int) (key : ByteArray) (v : Value) (id : Int) (b : Nat) (w : World) (h0 : w.cell? ⟨b, 0, none⟩ = some (.int .u64 id)) :
    Calls Tryd.prog 60 #[.agg #[.int .u64 i, .string key, v], .pointer (some ⟨b, 0, none⟩)] w fun e w' => e = .returned (.bool (i == id)) ∧ Below w.heap.size w w' := by
  have HB0 : Hid (Below w.heap.size w w) := Below.refl _ _
  have e0 := World.new_ne w _ h0
  have hlt := World.block_lt_of_cell? w _ h0
  go_enter Tryd.func60, Tryd.ntmps60
  go_wp2
  go_ret
  exact ⟨rfl, HB0.out.alloc (Nat.le_refl _) _⟩
def posU (l : List S25) (id : Int) : Option Nat := l.findIdx? (fun u => u.f0 == id)
def posI (r : Option Nat) : Int := match r with | some i => i | none => -1
set_option maxHeartbeats 2000000 in
set_option maxRecDepth 100000 in
theorem idx59.walk (A : Option Addr) (c : Nat) (l : List S25) (id : Int) (b : Nat) (w : World) (hr : Kd.C k25 w A l.length l) (h0 : w.cell? ⟨b, 0, none⟩ = some (.int .u64 id)) :
    Calls Tryd.prog 59 #[.slice A l.length c, .func (.func 60) #[] #[.pointer (some ⟨b, 0, none⟩)]] w fun e w' => e = .returned (.int .i64 (posI (posU l id))) ∧ Below w.heap.size w w' := by
  have HR := Lib.hid hr
  have hlen : (l.length : Int) ≤ 9223372036854775807 := by have := hr.2.1; omega
  clear hr
  have HB0 : Hid (Below w.heap.size w w) := Below.refl _ _
  have H0 := Lib.hid h0; clear h0
  go_enter Tryd.func59, Tryd.ntmps59
  go_wp2
  go_loopw [5, 8] (fun _ i wr => ∃ (k : Nat), i = .int .i64 k ∧ k ≤ l.length ∧ Hid (∀ j (hj : j < k) (hl : j < l.length), (l[j].f0 == id) = false) ∧ Hid (Below w.heap.size w wr)) (fun _ i _ => l.length - (intOf i).toNat)
  case atStart => exact ⟨0, rfl, Nat.zero_le _, fun j hj => absurd hj (Nat.not_lt_zero _), HB0⟩
  case round =>
    obtain ⟨k, rfl, hk, hall, hb⟩ := hrel
    by_cases hlt : k < l.length
    · obtain ⟨ad, A2, c2, e', hc0, hc1, hc2, _, _⟩ := at25 HR.out hb.out k hlt
      subst e'
      have HC := Lib.hid (place1.walk l[k].f0 l[k].f1 (.slice A2 l[k].f2.length c2) id b wr (keepc hb.out H0.out))
      cases hp : (l[k].f0 == id)
      · have hn : Hid (∀ j (hj : j < k + 1) (hl : j < l.length), (l[j].f0 == id) = false) := fun j hj hl => by
          rcases Nat.eq_or_lt_of_le (Nat.le_of_lt_succ hj) with rfl | h
          · exact hp
          · exact hall.out j h hl
        rw [hp] at HC
        clear hp
        go_wp2_with (go_at_call 60; refine HC.out.mono ?_; rintro e w1 ⟨rfl, hb1⟩; have HB1 := Lib.hid hb1; clear hb1)
        go_roundw
        case rel => exact ⟨k + 1, by go_num, by omega, hn, keepB hb HB1.out⟩
        case measure => simp [intOf]; omega
      · have hn : Hid (posU l id = some k) := by
          unfold Hid posU
          rw [List.findIdx?_eq_some_iff_getElem]
          exact ⟨hlt, hp, fun j hj => by rw [hall.out j hj (by omega)]; simp⟩
        rw [hp] at HC
        clear hp
        go_wp2_with (go_at_call 60; refine HC.out.mono ?_; rintro e w1 ⟨rfl, hb1⟩; have HB1 := Lib.hid hb1; clear hb1)
        go_ret
        exact ⟨by rw [hn.out]; rfl, keepB hb HB1.out⟩
    · have hn : Hid (posU l id = none) := by
        unfold Hid posU
        rw [List.findIdx?_eq_none_iff]
        intro u hu
        obtain ⟨j, hj, rfl⟩ := List.getElem_of_mem hu
        exact hall.out j (by omega) hj
      go_wp2
      go_ret
      exact ⟨by rw [hn.out]; rfl, hb.out⟩
def placeR (l : List S25) (id : Int) : Int × Int :=
  if checkB l = false then (0, 1) else match posU l id with | none => (0, 4) | some i => (i, 0)
set_option maxHeartbeats 2000000 in
theorem place.walk (A : Option Addr) (c : Nat) (l : List S25) (id : Int) (w : World) (hr : Kd.C k25 w A l.length l) (hc : l.length ≤ c) :
    Calls Tryd.prog 35 #[.slice A l.length c, .int .u64 id] w fun e w' => e = .returned (.tuple #[.int .i64 (placeR l id).1, .int .i64 (placeR l id).2]) ∧ Below w.heap.size w w' := by
  have HB0 : Hid (Below w.heap.size w w) := Below.refl _ _
  have HB1 := Lib.hid (HB0.out.alloc (Nat.le_refl _) (.cells #[.int .u64 id] 22))
  have HK := Lib.hid (check_calls (w := w.alloc (.cells #[.int .u64 id] 22)) (Kd.C_below hr HB1.out) hc)
  have HN := Lib.hid (show (w.alloc (.cells #[.int .u64 id] 22)).cell? ⟨w.heap.size, 0, none⟩ = some (.int .u64 id) by simp [go_sem])
  have HI := Lib.hid (fun (W : World) (hb : Below (w.heap.size + 1) (w.alloc (.cells #[.int .u64 id] 22)) W) => idx59.walk A c l id w.heap.size W (Kd.C_below hr (HB1.out.trans (hb.mono (Nat.le_succ _)))) (by rw [hb.cell (p := ⟨w.heap.size, 0, none⟩) (Nat.lt_succ_self _)]; exact HN.out))
  clear hr
  cases hk : checkB l
  · have HE : Hid (placeR l id = (0, 1)) := by unfold Hid placeR; rw [if_pos hk]
    rw [hk] at HK
    have e1 : errOf false = 1 := rfl
    rw [e1] at HK
    clear hk e1
    go_enter Tryd.func35, Tryd.ntmps35
    go_wp2_with (go_at_call 18; refine HK.out.mono ?_; rintro e w1 ⟨rfl, hb⟩; have HB2 := Lib.hid hb; clear hb)
    go_ret2
    exact ⟨by rw [HE.out]; rfl, keepB HB1 HB2.out⟩
  · rw [hk] at HK
    have e1 : errOf true = 0 := rfl
    rw [e1] at HK
    clear e1
    cases hp : posU l id with
    | none =>
      have HE : Hid (placeR l id = (0, 4)) := by unfold Hid placeR; rw [if_neg (by simp [hk]), hp]
      rw [hp] at HI
      have e2 : posI none = -1 := rfl
      rw [e2] at HI
      clear hk hp e2
      go_enter Tryd.func35, Tryd.ntmps35
      go_wp2_with (first | (go_at_call 18; refine HK.out.mono ?_; rintro e w1 ⟨rfl, hb⟩; have HB2 := Lib.hid hb; clear hb) | (go_at_call 59; refine (HI.out _ (by simpa using HB2.out)).mono ?_; rintro e w2 ⟨rfl, hb⟩; have HB3 := Lib.hid hb; clear hb))
      go_ret2
      exact ⟨by rw [HE.out]; rfl, keepB (keepB HB1 HB2.out) HB3.out⟩
    | some i =>
      have HE : Hid (placeR l id = ((i : Int), 0)) := by unfold Hid placeR; rw [if_neg (by simp [hk]), hp]
      rw [hp] at HI
      have e2 : posI (some i) = i := rfl
      rw [e2] at HI
      clear hk hp e2
      go_enter Tryd.func35, Tryd.ntmps35
      go_wp2_with (first | (go_at_call 18; refine HK.out.mono ?_; rintro e w1 ⟨rfl, hb⟩; have HB2 := Lib.hid hb; clear hb) | (go_at_call 59; refine (HI.out _ (by simpa using HB2.out)).mono ?_; rintro e w2 ⟨rfl, hb⟩; have HB3 := Lib.hid hb; clear hb))
      go_ret2
      exact ⟨by rw [HE.out]; rfl, keepB (keepB HB1 HB2.out) HB3.out⟩

def findR (l : List S25) (id : Int) : S25 × Int :=
  if checkB l = false then (z25, 1) else match posU l id with | none => (z25, 4) | some i => (l.getD i z25, 0)
def FindPost (l : List S25) (id : Int) (w : World) (e : Ending) (w' : World) : Prop :=
  ∃ A2 c2, e = .returned (.tuple #[.agg #[.int .u64 (findR l id).1.f0, .string (findR l id).1.f1, .slice A2 (findR l id).1.f2.length c2], .int .i64 (findR l id).2]) ∧
    (findR l id).1.f2.length ≤ c2 ∧ Kd.C k40 w' A2 (findR l id).1.f2.length (findR l id).1.f2 ∧ Below w.heap.size w w'
theorem posU_lt {l : List S25} {id : Int} {i : Nat} (h : posU l id = some i) : ∃ hl : i < l.length, l[i].f0 = id := by
  unfold posU at h
  rw [List.findIdx?_eq_some_iff_getElem] at h
  obtain ⟨hl, hp, _⟩ := h
  exact ⟨hl, by simpa using hp⟩
set_option maxHeartbeats 2000000 in
set_option maxRecDepth 100000 in
theorem find.walk (A : Option Addr) (c : Nat) (l : List S25) (id : Int) (w : World) (hr : Kd.C k25 w A l.length l) (hc : l.length ≤ c) :
    Calls Tryd.prog 16 #[.slice A l.length c, .int .u64 id] w (FindPost l id w) := by
  have HB0 : Hid (Below w.heap.size w w) := Below.refl _ _
  have HZ := Lib.hid (fun (W : World) (hb : Below w.heap.size w W) => place.walk A c l id W (Kd.C_below hr hb) hc)
  have HR := Lib.hid hr
  have hlen : (l.length : Int) ≤ 9223372036854775807 := by have := hr.2.1; omega
  clear hr
  have HA := Lib.hid (HB0.out.alloc (Nat.le_refl _) (.cells #[.int .u64 0, .string ⟨#[]⟩, .slice none 0 0] 25))
  cases hk : checkB l
  · skip
    have HE : Hid (findR l id = (z25, 1)) := by unfold Hid findR; rw [if_pos hk]
    have e1 : placeR l id = (0, 1) := by unfold placeR; rw [if_pos hk]
    rw [e1] at HZ
    clear hk e1
    go_enter Tryd.func16, Tryd.ntmps16
    go_wp2_with (go_at_call 35; refine (HZ.out _ HA.out).mono ?_; rintro e w1 ⟨rfl, hb⟩; have HB1 := keepB HA hb; have hs := hb.size; have hk1 := blk_below (blk_new w _) hb; have d0 := (blk_cell hk1 0).trans rfl; have d1 := (blk_cell hk1 1).trans rfl; have d2 := (blk_cell hk1 2).trans rfl; have z0 := blk_frozen hk1 0; have z1 := blk_frozen hk1 1; have z2 := blk_frozen hk1 2; clear hb hk1)
    refine bodyPost_ret (v := .tuple #[.agg #[.int .u64 0, .string ⟨#[]⟩, .slice none 0 0], .int .i64 1]) ?_ rfl ?_
    · simp [results, Tryd.results16, go_sem, d0, d1, d2]
    · exact ⟨none, 0, by rw [HE.out]; rfl, by rw [HE.out]; exact Nat.zero_le _, by rw [HE.out]; exact Kd.C_nil _ _, (((HB1.out.setCell (Nat.le_refl _) _).setCell (Nat.le_refl _) _).setCell (Nat.le_refl _) _)⟩
  · cases hp : posU l id with
    | none =>
      have HE : Hid (findR l id = (z25, 4)) := by unfold Hid findR; rw [if_neg (by simp [hk]), hp]
      have e1 : placeR l id = (0, 4) := by unfold placeR; rw [if_neg (by simp [hk]), hp]
      rw [e1] at HZ
      clear hk e1 hp
      go_enter Tryd.func16, Tryd.ntmps16
      go_wp2_with (go_at_call 35; refine (HZ.out _ HA.out).mono ?_; rintro e w1 ⟨rfl, hb⟩; have HB1 := keepB HA hb; have hs := hb.size; have hk1 := blk_below (blk_new w _) hb; have d0 := (blk_cell hk1 0).trans rfl; have d1 := (blk_cell hk1 1).trans rfl; have d2 := (blk_cell hk1 2).trans rfl; have z0 := blk_frozen hk1 0; have z1 := blk_frozen hk1 1; have z2 := blk_frozen hk1 2; clear hb hk1)
      refine bodyPost_ret (v := .tuple #[.agg #[.int .u64 0, .string ⟨#[]⟩, .slice none 0 0], .int .i64 4]) ?_ rfl ?_
      · simp [results, Tryd.results16, go_sem, d0, d1, d2]
      · exact ⟨none, 0, by rw [HE.out]; rfl, by rw [HE.out]; exact Nat.zero_le _, by rw [HE.out]; exact Kd.C_nil _ _, (((HB1.out.setCell (Nat.le_refl _) _).setCell (Nat.le_refl _) _).setCell (Nat.le_refl _) _)⟩
    | some i =>
      obtain ⟨hil, hid⟩ := posU_lt hp
      clear hid
      have HE : Hid (findR l id = (l[i], 0)) := by
        unfold Hid findR; rw [if_neg (by simp [hk]), hp]; simp [List.getD_eq_getElem?_getD, hil]
      have e1 : placeR l id = ((i : Int), 0) := by unfold placeR; rw [if_neg (by simp [hk]), hp]
      rw [e1] at HZ
      clear hk e1 hp
      obtain ⟨ad, A3, c3, e', g0, g1, g2, g3, g4⟩ := at25 HR.out HB0.out i hil
      subst e'
      have G0 := Lib.hid g0; have G1 := Lib.hid g1; have G2 := Lib.hid g2; have G3 := Lib.hid g3; have G4 := Lib.hid g4
      clear g0 g1 g2 g3 g4
      go_enter Tryd.func16, Tryd.ntmps16
      go_wp2_with (go_at_call 35; refine (HZ.out _ HA.out).mono ?_; rintro e w1 ⟨rfl, hb⟩; have HB1 := keepB HA hb; have hs := hb.size; have hk1 := blk_below (blk_new w _) hb; have d0 := (blk_cell hk1 0).trans rfl; have d1 := (blk_cell hk1 1).trans rfl; have d2 := (blk_cell hk1 2).trans rfl; have z0 := blk_frozen hk1 0; have z1 := blk_frozen hk1 1; have z2 := blk_frozen hk1 2; clear hb hk1; have g0 := keepc HB1.out G0.out; have g1 := keepc HB1.out G1.out; have g2 := keepc HB1.out G2.out)
      refine bodyPost_ret (v := .tuple #[.agg #[.int .u64 l[i].f0, .string l[i].f1, .slice A3 l[i].f2.length c3], .int .i64 0]) ?_ rfl ?_
      · simp [results, Tryd.results16, go_sem, d0, d1, d2]
      · have hb := (((HB1.out.setCell (p := ⟨w.heap.size, 0, none⟩) (Nat.le_refl _) (.int .u64 l[i].f0)).setCell (p := ⟨w.heap.size, 1, none⟩) (Nat.le_refl _) (.string l[i].f1)).setCell (p := ⟨w.heap.size, 2, none⟩) (Nat.le_refl _) (.slice A3 l[i].f2.length c3))
        exact ⟨A3, c3, by rw [HE.out], by rw [HE.out]; exact G3.out, by rw [HE.out]; exact Kd.C_below G4.out hb, hb⟩
end Go.Proofs.YtgpmkbmobdbdoaaDoor.Q

-- T14
namespace Go.Proofs.YtgpmkbmobdbdoaaDoor.Q
open Go.RowKit Go.Proofs.YtgpmkbmobdbdoaaDoorW.PrintWords Go.Proofs.YtgpmkbmobdbdoaaDoorW.PrintLast Go.Proofs.YtgpmkbmobdbdoaaDoorW.PrintMore
set_option linter.unusedVariables false
set_option linter.unusedSimpArgs false

theorem clone34_nil (n c : Nat) (w : World) : Calls Tryd.prog 34 #[.slice none n c] w fun e w' => e = .returned (.slice none 0 0) ∧ Below w.heap.size w w' := by
  have he := Lib.run_eql_slice_nil_nil (P := Tryd.prog) w n c Tryd.underlying27
  go_enter Tryd.func34, Tryd.ntmps34
  go_wp2
  go_ret
  exact ⟨rfl, Below.refl _ _⟩
set_option maxHeartbeats 2000000 in
set_option maxRecDepth 100000 in
theorem clone34.walk (ad : Addr) (n c : Nat) (cells : List Value) (w : World) (hl : cells.length = n * 3) (h1 : ∀ u ∈ cells, u.oneCell' = true) (hr : RawAt w ad cells) (hn : n ≤ 1000000) :
    Calls Tryd.prog 34 #[.slice (some ad) n c] w fun e w' => ∃ v, e = .returned v ∧ w'.ownsRow w.heap.size 25 3 v n cells ∧ Below w.heap.size w w' := by
  have he := Lib.run_eql_slice_some_nil (P := Tryd.prog) w ad n c Tryd.underlying27
  obtain ⟨i0, hi, hy0, hy1, hy2⟩ := info_parts info25
  have HL := Lib.hid hl; have H1 := Lib.hid h1; have HR := Lib.hid hr; clear hl h1 hr
  have HO : Hid ((w.alloc (.cells #[] 25)).ownsRow w.heap.size 25 3 (.slice (some ⟨w.heap.size, 0, none⟩) 0 0) 0 []) := ⟨rfl, Or.inr ⟨w.heap.size, 0, #[], rfl, Nat.le_refl _, blk_new w _, Nat.le_refl _, by unfold maxLen; omega, rfl, rfl⟩⟩
  have HB := Lib.hid ((Below.refl w.heap.size w).alloc (Nat.le_refl _) (.cells #[] 25))
  go_enter Tryd.func34, Tryd.ntmps34
  go_wp2_with (at_builtin; refine wpList_append_own _ rfl _ _ 27 rfl w.heap.size 25 i0 (.agg #[(.int .u64 0), (.string ⟨#[]⟩), (.slice none 0 0)]) 3 48 Tryd.underlying27 hi hy0 hy1 hy2 rfl (by decide) _ _ _ rfl HO.out ad n c cells rfl HL.out ?c1 ?c2 ?c3 ?c4 ?c5 ?_)
  case c1 => exact fun j u hu => keepc (Below.alloc (Below.refl _ _) (Nat.le_refl _) _) (HR.out j u hu)
  case c2 => exact H1.out
  case c3 => unfold maxLen; omega
  case c4 => omega
  case c5 => simp
  intro v' w4 hown' hgrow _
  have HG := Lib.hid (HB.out.grown hgrow (by simp) (own_base HO.out))
  have HOW := Lib.hid hown'
  clear hown' hgrow
  go_wp2
  go_ret
  exact ⟨_, rfl, HOW.out, HG.out⟩

theorem clone39_nil (n c : Nat) (w : World) : Calls Tryd.prog 39 #[.slice none n c] w fun e w' => e = .returned (.slice none 0 0) ∧ Below w.heap.size w w' := by
  have he := Lib.run_eql_slice_nil_nil (P := Tryd.prog) w n c Tryd.underlying23
  go_enter Tryd.func39, Tryd.ntmps39
  go_wp2
  go_ret
  exact ⟨rfl, Below.refl _ _⟩
set_option maxHeartbeats 2000000 in
set_option maxRecDepth 100000 in
theorem clone39.walk (ad : Addr) (n c : Nat) (cells : List Value) (w : World) (hl : cells.length = n * 2) (h1 : ∀ u ∈ cells, u.oneCell' = true) (hr : RawAt w ad cells) (hn : n ≤ 1000000) :
    Calls Tryd.prog 39 #[.slice (some ad) n c] w fun e w' => ∃ v, e = .returned v ∧ w'.ownsRow w.heap.size 40 2 v n cells ∧ Below w.heap.size w w' := by
  have he := Lib.run_eql_slice_some_nil (P := Tryd.prog) w ad n c Tryd.underlying23
  obtain ⟨i0, hi, hy0, hy1, hy2⟩ := info_parts info40
  have HL := Lib.hid hl; have H1 := Lib.hid h1; have HR := Lib.hid hr; clear hl h1 hr
  have HO : Hid ((w.alloc (.cells #[] 40)).ownsRow w.heap.size 40 2 (.slice (some ⟨w.heap.size, 0, none⟩) 0 0) 0 []) := ⟨rfl, Or.inr ⟨w.heap.size, 0, #[], rfl, Nat.le_refl _, blk_new w _, Nat.le_refl _, by unfold maxLen; omega, rfl, rfl⟩⟩
  have HB := Lib.hid ((Below.refl w.heap.size w).alloc (Nat.le_refl _) (.cells #[] 40))
  go_enter Tryd.func39, Tryd.ntmps39
  go_wp2_with (at_builtin; refine wpList_append_own _ rfl _ _ 23 rfl w.heap.size 40 i0 (.agg #[(.int .i64 0), (.string ⟨#[]⟩)]) 2 24 Tryd.underlying23 hi hy0 hy1 hy2 rfl (by decide) _ _ _ rfl HO.out ad n c cells rfl HL.out ?c1 ?c2 ?c3 ?c4 ?c5 ?_)
  case c1 => exact fun j u hu => keepc (Below.alloc (Below.refl _ _) (Nat.le_refl _) _) (HR.out j u hu)
  case c2 => exact H1.out
  case c3 => unfold maxLen; omega
  case c4 => omega
  case c5 => simp
  intro v' w4 hown' hgrow _
  have HG := Lib.hid (HB.out.grown hgrow (by simp) (own_base HO.out))
  have HOW := Lib.hid hown'
  clear hown' hgrow
  go_wp2
  go_ret
  exact ⟨_, rfl, HOW.out, HG.out⟩

theorem lay1.walk (n m : Int) (d : ByteArray) (w : World) (h0 : 0 ≤ n) (h1 : n ≤ 1000) (h2 : 0 ≤ m) (h3 : m ≤ 1000) :
    Calls Tryd.prog 38 #[.agg #[.int .i64 n, .string d], .int .i64 m] w fun e w' => e = .returned (.int .i64 (n - m)) ∧ Below w.heap.size w w' := by
  have HB0 : Hid (Below w.heap.size w w) := Below.refl _ _
  go_enter Tryd.func38, Tryd.ntmps38
  go_wp2
  go_ret
  exact ⟨rfl, HB0.out.alloc (Nat.le_refl _) _⟩
end Go.Proofs.YtgpmkbmobdbdoaaDoor.Q

-- T15
namespace Go.Proofs.YtgpmkbmobdbdoaaDoor.Q
open Go.RowKit Go.Proofs.YtgpmkbmobdbdoaaDoorW.PrintWords Go.Proofs.YtgpmkbmobdbdoaaDoorW.PrintLast Go.Proofs.YtgpmkbmobdbdoaaDoorW.PrintMore
set_option linter.unusedVariables false
set_option linter.unusedSimpArgs false

structure SortedP (l : List S40) : Prop where
  lo : ∀ (j : Nat) (h : j < l.length), 1 ≤ l[j].f0 ∧ l[j].f0 ≤ 1000
  up : ∀ (i j : Nat) (h : i < j) (hj : j < l.length), l[i].f0 < l[j].f0
def lowP (l : List S40) (m : Int) : Nat := l.findIdx (fun p => decide (m ≤ p.f0))
def thereP (l : List S40) (m : Int) : Bool := l.any (fun p => p.f0 == m)
set_option maxHeartbeats 4000000 in
set_option maxRecDepth 100000 in
theorem bsearch.walk (A : Option Addr) (c : Nat) (l : List S40) (m : Int) (w : World) (hr : Kd.C k40 w A l.length l) (hs : SortedP l) (hn : l.length ≤ 1000) (hm0 : 1 ≤ m) (hm1 : m ≤ 1000) :
    Calls Tryd.prog 37 #[.slice A l.length c, .int .i64 m, .func (.func 38) #[] #[]] w fun e w' => e = .returned (.tuple #[.int .i64 (lowP l m), .bool (thereP l m)]) ∧ Below w.heap.size w w' := by
  have HB0 : Hid (Below w.heap.size w w) := Below.refl _ _
  have HR := Lib.hid hr; have HS := Lib.hid hs; clear hr hs
  go_enter Tryd.func37, Tryd.ntmps37
  go_wp2
  go_loopw [9, 10, 11] (fun i j _ wr => ∃ (p q : Nat), i = .int .i64 p ∧ j = .int .i64 q ∧ p ≤ q ∧ q ≤ l.length ∧ Hid (∀ (x : Nat) (h : x < l.length), x < p → l[x].f0 < m) ∧ Hid (∀ (x : Nat) (h : x < l.length), q ≤ x → m ≤ l[x].f0) ∧ Hid (Below w.heap.size w wr)) (fun i j _ _ => (intOf j - intOf i).toNat)
  case atStart => exact ⟨0, l.length, rfl, rfl, Nat.zero_le _, Nat.le_refl _, fun x _ h => absurd h (Nat.not_lt_zero _), fun x h h' => absurd h (by omega), HB0⟩
  case round =>
    obtain ⟨p, q, rfl, rfl, hpq, hq, hlo, hhi, hb⟩ := hrel
    by_cases hlt : p < q
    · have hx : (p + q) / 2 < l.length := by omega
      obtain ⟨ad, e', hc0, hc1⟩ := at40 HR.out hb.out ((p + q) / 2) hx
      subst e'
      have r := HS.out.lo ((p + q) / 2) hx
      have HC := Lib.hid (lay1.walk l[(p + q) / 2].f0 m l[(p + q) / 2].f1 wr (by omega) (by omega) (by omega) hm1)
      by_cases hv : l[(p + q) / 2].f0 - m < 0
      · go_wp2_with (go_at_call 38; refine HC.out.mono ?_; rintro e w1 ⟨rfl, hb1⟩; have HB1 := Lib.hid hb1; clear hb1)
        go_roundw
        case rel =>
          exact ⟨(p + q) / 2 + 1, q, by go_num, rfl, by omega, hq, fun x h h' => by
            rcases Nat.eq_or_lt_of_le (Nat.le_of_lt_succ h') with rfl | h2
            · omega
            · have := HS.out.up x _ h2 hx; omega, hhi, keepB hb HB1.out⟩
        case measure => simp [intOf]; omega
      · go_wp2_with (go_at_call 38; refine HC.out.mono ?_; rintro e w1 ⟨rfl, hb1⟩; have HB1 := Lib.hid hb1; clear hb1)
        go_roundw
        case rel =>
          exact ⟨p, (p + q) / 2, rfl, by go_num, by omega, by omega, hlo, fun x h h' => by
            rcases Nat.eq_or_lt_of_le h' with rfl | h2
            · omega
            · have := HS.out.up _ x h2 h; omega, keepB hb HB1.out⟩
        case measure => simp [intOf]; omega
    · obtain rfl : p = q := by omega
      have HL : Hid (lowP l m = p) := by
        unfold Hid lowP
        rcases Nat.eq_or_lt_of_le hq with h | h
        · rw [h]; apply List.findIdx_eq_length.2
          intro x hx
          obtain ⟨j, hj, rfl⟩ := List.getElem_of_mem hx
          have := hlo.out j hj (by omega)
          simp; omega
        · rw [List.findIdx_eq h]
          refine ⟨by simpa using hhi.out p h (Nat.le_refl _), fun j hj => ?_⟩
          have := hlo.out j (by omega) hj
          simp; omega
      by_cases he : p = l.length
      · have HT : Hid (thereP l m = false) := by
          unfold Hid thereP
          rw [List.any_eq_false]
          intro x hx
          obtain ⟨j, hj, rfl⟩ := List.getElem_of_mem hx
          have := hlo.out j hj (by omega)
          simp; omega
        have d1 : decide ((p : Int) < l.length) = false := by simp; omega
        have d2 : decide (p < l.length) = false := by simp; omega
        subst he
        go_wp2
        go_ret2
        exact ⟨by rw [HL.out, HT.out]; rfl, hb.out⟩
      · have hx : p < l.length := by omega
        obtain ⟨ad, e', hc0, hc1⟩ := at40 HR.out hb.out p hx
        subst e'
        have r := HS.out.lo p hx
        have HC := Lib.hid (lay1.walk l[p].f0 m l[p].f1 wr (by omega) (by omega) (by omega) hm1)
        have d1 : decide ((p : Int) < l.length) = true := by simp; omega
        have HT : Hid (thereP l m = (l[p].f0 - m == 0)) := by
          unfold Hid thereP
          rw [Bool.eq_iff_iff, List.any_eq_true]
          constructor
          · rintro ⟨x, hm, hxm⟩
            obtain ⟨j, hj, rfl⟩ := List.getElem_of_mem hm
            have hxm' : l[j].f0 = m := by simpa using hxm
            have : j = p := by
              rcases Nat.lt_trichotomy j p with h | h | h
              · have := hlo.out j hj h; omega
              · exact h
              · have := HS.out.up p j h hj; have := hhi.out p hx (Nat.le_refl _); omega
            subst this
            simp; omega
          · intro h
            have h' : l[p].f0 - m = 0 := by simpa using h
            exact ⟨l[p], List.getElem_mem hx, by simp; omega⟩
        clear he
        go_wp2_with (go_at_call 38; refine HC.out.mono ?_; rintro e w1 ⟨rfl, hb1⟩; have HB1 := Lib.hid hb1; clear hb1)
        go_ret2
        exact ⟨by rw [HL.out, HT.out]; rfl, keepB hb HB1.out⟩
end Go.Proofs.YtgpmkbmobdbdoaaDoor.Q

-- T16
namespace Go.Proofs.YtgpmkbmobdbdoaaDoor.Q
open Go.RowKit Go.Proofs.YtgpmkbmobdbdoaaDoorW.PrintWords Go.Proofs.YtgpmkbmobdbdoaaDoorW.PrintLast Go.Proofs.YtgpmkbmobdbdoaaDoorW.PrintMore
set_option linter.unusedVariables false
set_option linter.unusedSimpArgs false

def insAt (xs : List Value) (i : Nat) (c : List Value) : List Value := xs.take (i * 2) ++ (c ++ xs.drop (i * 2))
def InsPost (base n i : Nat) (v : Value) (xs c : List Value) (w : World) (e : Ending) (w' : World) : Prop :=
  ∃ v', e = .returned v' ∧ w'.ownsRow base 40 2 v' (n + 1) (insAt xs i c) ∧ w.grownBy w' v.ownBlock
set_option maxHeartbeats 4000000 in
set_option maxRecDepth 100000 in
theorem insert_end.walk (base n : Nat) (v : Value) (xs : List Value) (bv : Nat) (N : Int) (D : ByteArray) (w : World) (hown : w.ownsRow base 40 2 v n xs) (hb : base ≤ w.heap.size) (hn : n ≤ 1000)
    (hv : w.heap[bv]? = some (.cells #[.int .i64 N, .string D] 40 (0, 0))) :
    Calls Tryd.prog 40 #[v, .int .i64 n, .slice (some ⟨bv, 0, none⟩) 1 1] w (InsPost base n n v xs [.int .i64 N, .string D] w) := by
  obtain ⟨i0, hi, hy0, hy1, hy2⟩ := info_parts info40
  have HV := Lib.hid hv; clear hv
  have HX : Hid (insAt xs n [.int .i64 N, .string D] = xs ++ [.int .i64 N, .string D]) := by
    unfold Hid insAt; rw [List.take_of_length_le (by rw [hown.1]; omega), List.drop_eq_nil_of_le (by rw [hown.1]; omega), List.append_nil]
  have HOWN := Lib.hid hown
  obtain ⟨A, cap, rfl, hA⟩ : ∃ A cap, v = .slice A n cap ∧ n ≤ cap := by
    rcases hown.2 with ⟨h1, h2⟩ | ⟨g, cap, cur, h1, _, _, h2, _⟩
    · exact ⟨none, 0, by rw [h1, h2], by omega⟩
    · exact ⟨_, cap, h1, h2⟩
  clear hown
  have C1 : Hid (∀ (j : Nat) (u : Value), ([.int .i64 N, .string D] : List Value)[j]? = some u → w.cell? ((⟨bv, 0, none⟩ : Addr).add j) = some u) := World.news_of_block HV.out
  have C2 : Hid (∀ u ∈ ([.int .i64 N, .string D] : List Value), u.oneCell' = true) := by unfold Hid; simp [Value.oneCell']
  have C3 : Hid (n + 1 ≤ maxLen) := by unfold Hid maxLen; omega
  have C4 : Hid ((n + 1) * 24 ≤ 140737488355328) := by unfold Hid; omega
  by_cases hc : cap = n
  all_goals
    go_enter Tryd.func40, Tryd.ntmps40
    go_wp2_with (at_builtin; refine wpList_append_own _ rfl _ _ 23 rfl base 40 i0 (.agg #[(.int .i64 0), (.string ⟨#[]⟩)]) 2 24 Tryd.underlying23 hi hy0 hy1 hy2 rfl (by decide) _ _ _ rfl HOWN.out ⟨bv, 0, none⟩ 1 1 [.int .i64 N, .string D] rfl rfl C1.out C2.out C3.out C4.out hb ?_; intro v' w4 hown' hgrow _; have HO4 := Lib.hid hown'; have HG4 := Lib.hid hgrow; clear hown' hgrow)
    go_ret
    exact ⟨v', rfl, by rw [HX.out]; exact HO4.out, HG4.out⟩
end Go.Proofs.YtgpmkbmobdbdoaaDoor.Q

-- T17
namespace Go.Proofs.YtgpmkbmobdbdoaaDoor.Q
open Go.RowKit Go.Proofs.YtgpmkbmobdbdoaaDoorW.PrintWords Go.Proofs.YtgpmkbmobdbdoaaDoorW.PrintLast Go.Proofs.YtgpmkbmobdbdoaaDoorW.PrintMore
set_option linter.unusedVariables false
set_option linter.unusedSimpArgs false

def z40v : Value := .agg #[(.int .i64 0), (.string ⟨#[]⟩)]
def z40L (n : Nat) : List Value := (Builtin.zeroCells z40v.cells n).toList
theorem z40_len (n : Nat) : (z40L n).length = n * 2 := by unfold z40L; rw [Array.length_toList, size_zeroCells]; rfl
theorem i40sz : (Tryd.prog.info? 40).map (·.size) = some 2 := by kernel_rfl
theorem add_at (g o j : Nat) : (Addr.add ⟨g, o, none⟩ j) = ⟨g, o + j, none⟩ := by unfold Addr.add; split <;> simp_all
theorem insAt_len (xs : List Value) (i n : Nat) (hx : xs.length = n * 2) (hi : i ≤ n) (c : List Value) (hc : c.length = 2) : (insAt xs i c).length = (n + 1) * 2 := by
  unfold insAt; simp only [List.length_append, List.length_take, List.length_drop, hx, hc]; omega
theorem ins_list (xs R1 : List Value) (i n nc : Nat) (hx : xs.length = n * 2) (hi : i < n) (hnc : n + 1 ≤ nc) (hR : R1.length = nc * 2) (h0 : R1.take (i * 2) = xs.take (i * 2)) (c : List Value) (hc : c.length = 2) :
    (splice (splice R1 (i * 2) c) ((i + 1) * 2) (xs.drop (i * 2))).length = nc * 2 ∧ (splice (splice R1 (i * 2) c) ((i + 1) * 2) (xs.drop (i * 2))).take ((n + 1) * 2) = insAt xs i c := by
  have e1 : (splice R1 (i * 2) c).length = nc * 2 := by rw [length_splice _ _ _ (by omega)]; exact hR
  have e2 : (splice R1 (i * 2) c).take ((i + 1) * 2) = xs.take (i * 2) ++ c := by
    unfold splice
    rw [← List.append_assoc, h0]
    rw [List.take_left' (by rw [List.length_append, List.length_take, hx, hc]; omega)]
  refine ⟨by rw [length_splice _ _ _ (by rw [e1, List.length_drop, hx]; omega)]; exact e1, ?_⟩
  unfold splice at e2 ⊢
  rw [e2, ← List.append_assoc, List.take_left' (by simp only [List.length_append, List.length_take, List.length_drop, hx, hc]; omega)]
  unfold insAt
  rw [List.append_assoc]
set_option maxHeartbeats 4000000 in
set_option maxRecDepth 100000 in
theorem insert_grow.walk (base n i : Nat) (g cap : Nat) (cur : Array Value) (xs : List Value) (bv : Nat) (N : Int) (D : ByteArray) (w : World) (hi : i < n) (hn : n ≤ 1000) (hb : base ≤ w.heap.size)
    (hg : w.heap[g]? = some (.cells cur 40 (0, 0))) (hx : xs.length = n * 2) (hcur : cur.toList.take (n * 2) = xs) (hcap : n ≤ cap) (hfull : cap < n + 1) (h1 : ∀ u ∈ xs, u.oneCell' = true)
    (hv : w.heap[bv]? = some (.cells #[.int .i64 N, .string D] 40 (0, 0))) :
    Calls Tryd.prog 40 #[.slice (some ⟨g, 0, none⟩) n cap, .int .i64 i, .slice (some ⟨bv, 0, none⟩) 1 1] w (InsPost base n i (.slice (some ⟨g, 0, none⟩) n cap) xs [.int .i64 N, .string D] w) := by
  obtain ⟨i0, hi0, hy0, hy1, hy2⟩ := info_parts info40
  have HV := Lib.hid hv; clear hv
  have HG := Lib.hid hg; clear hg
  have d0 : ¬ cap = i := by omega
  have d1 : ¬ cap = 0 := by omega
  have d2 : ((i : Int) == n) = false := beq_eq_false_iff_ne.2 (by omega)
  have d3 : decide ((cap : Int) < (n : Int) + 1) = true := by simp; omega
  have d4 : (i : Int) ≤ cap := by omega
  have XI := Lib.hid (show (xs.take (i * 2)).length = i * 2 by rw [List.length_take]; omega)
  have XC := Lib.hid (show ∀ (j : Nat) (u : Value), (xs.take (i * 2))[j]? = some u → w.cell? ((⟨g, 0, none⟩ : Addr).add j) = some u from fun j u hu => by
    rw [add_at, blk_cell HG.out, Nat.zero_add]
    rw [List.getElem?_take] at hu
    split at hu
    · rw [← hcur, List.getElem?_take] at hu
      split at hu
      · simpa using hu
      · cases hu
    · cases hu)
  have XD := Lib.hid (show ∀ (j : Nat) (u : Value), (xs.drop (i * 2))[j]? = some u → w.cell? ((⟨g, i * 2, none⟩ : Addr).add j) = some u from fun j u hu => by
    rw [add_at, blk_cell HG.out]
    rw [List.getElem?_drop, ← hcur, List.getElem?_take] at hu
    split at hu
    · simpa using hu
    · cases hu)
  clear hcur
  go_enter Tryd.func40, Tryd.ntmps40
  go_wp2_with (at_builtin; refine wpList_zeros_grow rfl _ _ 23 3 rfl 40 i0 z40v Tryd.underlying23 .i64 Tryd.underlying3 hi0 hy0 (by rw [hy1]; rfl) (by rw [hy1]; decide) ⟨g, 0, none⟩ i cap (xs.take (i * 2)) rfl (by rw [hy1]; exact XI.out) XC.out .i64 (n + 1 - i) ?a1 (by omega) (by omega) (by omega) (by rw [hy2]; decide) z40L (fun _ => rfl) ?_)
  case a1 =>
    show Value.int .i64 ((n : Int) + 1 - i) = Value.int .i64 ((n + 1 - i : Nat) : Int)
    congr 1; omega
  intro nc w1 hnc hmx hw1
  have HMX := Lib.hid hmx; clear hmx
  have hlen : i + (n + 1 - i) = n + 1 := by omega
  rw [hlen] at hnc hw1 ⊢
  clear hlen
  obtain ⟨R1, hR1⟩ : ∃ R1, R1 = xs.take (i * 2) ++ (z40L (n + 1 - i) ++ z40L (nc - (n + 1))) := ⟨_, rfl⟩
  rw [← hR1] at hw1
  have HR1 := Lib.hid hR1; clear hR1
  have HB1 : Hid (w1.heap[w.heap.size]? = some (.cells R1.toArray 40 (0, 0))) := by unfold Hid; rw [hw1.out]; exact heap_alloc_new w.drew _
  have HD1 : Hid (Below w.heap.size w w1) := by unfold Hid; rw [hw1.out]; exact (Below.refl _ _).drew.alloc (Nat.le_refl _) _
  have HL1 : Hid (R1.length = nc * 2) := by
    unfold Hid; rw [HR1.out, List.length_append, List.length_append, z40_len, z40_len, XI.out]; omega
  have d5 : ¬ nc = i := by omega
  have d6 : ¬ nc = i + 1 := by omega
  have d7 : (i : Int) ≤ (n : Int) + 1 := by omega
  clear hw1
  have C1 : Hid (∀ (j : Nat) (u : Value), ([.int .i64 N, .string D] : List Value)[j]? = some u → w1.cell? ((⟨bv, 0, none⟩ : Addr).add j) = some u) := fun j u hu => keepc HD1.out (World.news_of_block HV.out j u hu)
  have C2 : Hid (∀ u ∈ ([.int .i64 N, .string D] : List Value), u.oneCell' = true) := by unfold Hid; simp [Value.oneCell']
  have C3 : Hid (([.int .i64 N, .string D] : List Value).length = Nat.min 1 (n + 1 - i) * 2) := by unfold Hid; rw [show Nat.min 1 (n + 1 - i) = 1 from by simp [Nat.min_def]; omega]; rfl
  have C4 : Hid (i * 2 + ([.int .i64 N, .string D] : List Value).length ≤ R1.toArray.size) := by unfold Hid; rw [List.size_toArray, HL1.out]; simp; omega
  go_wp2_with (with_reducible refine wpList_copy_cells rfl (.tmp 43) (.tmp 44) 23 23 rfl 40 2 Tryd.underlying23 i40sz w.heap.size (i * 2) (n + 1 - i) (nc - i) ⟨bv, 0, none⟩ 1 1 ?b1 rfl R1.toArray 40 HB1.out [.int .i64 N, .string D] C3.out C1.out C4.out C2.out ?_)
  case b1 => rfl
  intro w2 hw2
  have HB2 : Hid (w2.drew.heap[w.heap.size]? = some (.cells (splice R1 (i * 2) [.int .i64 N, .string D]).toArray 40 (0, 0))) := by
    unfold Hid; rw [hw2.out]; exact setRow_heap _ _ _ _ _ _ HB1.out
  have HD2 : Hid (Below w.heap.size w w2.drew) := by unfold Hid; rw [hw2.out]; exact (below_setRow HD1.out (Nat.le_refl _) _).drew
  have HL2 : Hid ((splice R1 (i * 2) [.int .i64 N, .string D]).length = nc * 2) := by
    unfold Hid; rw [length_splice _ _ _ (by rw [HL1.out]; simp; omega)]; exact HL1.out
  have E1 : Hid (∀ (j : Nat) (u : Value), (xs.drop (i * 2))[j]? = some u → w2.drew.cell? ((⟨g, i * 2, none⟩ : Addr).add j) = some u) := fun j u hu => keepc HD2.out (XD.out j u hu)
  have E2 : Hid (∀ u ∈ xs.drop (i * 2), u.oneCell' = true) := fun u hu => h1 u (List.mem_of_mem_drop hu)
  have E3 : Hid ((xs.drop (i * 2)).length = Nat.min (n - i) (n - i) * 2) := by unfold Hid; rw [List.length_drop, hx, show (n - i).min (n - i) = n - i from Nat.min_self _]; omega
  have E4 : Hid ((i + 1) * 2 + (xs.drop (i * 2)).length ≤ (splice R1 (i * 2) [.int .i64 N, .string D]).toArray.size) := by unfold Hid; rw [List.size_toArray, HL2.out, List.length_drop, hx]; omega
  clear hw2
  have d8 : (i : Int) + 1 ≤ (n : Int) + 1 := by omega
  have d9 : (0 : Int) ≤ (i : Int) + 1 := by omega
  have d10 : (0 : Int) ≤ (i : Int) := by omega
  have d11 : (i : Int) ≤ (n : Int) := by omega
  have q1 : IntKind.i64.wrap ((i : Int) + 1) = (i : Int) + 1 := by rw [IntKind.wrap_i64]; omega
  have q2 : ((i : Int) + 1).toNat = i + 1 := by omega
  go_wp2_with fail
  go_still_tail 8, (by kernel_rfl)
  change wpList _ _ _ _ _ w2.drew
  go_wp2_with (with_reducible refine wpList_copy_cells rfl (.tmp 50) (.tmp 53) 23 23 rfl 40 2 Tryd.underlying23 i40sz w.heap.size ((i + 1) * 2) (n - i) (nc - (i + 1)) ⟨g, i * 2, none⟩ (n - i) (cap - i) ?e1 ?e2 _ 40 HB2.out (xs.drop (i * 2)) E3.out E1.out E4.out E2.out ?_)
  case e1 => rfl
  case e2 => rfl
  intro w3 hw3
  go_wp2_with fail
  go_ret
  have HB3 : w3.heap[w.heap.size]? = some (.cells (splice (splice R1 (i * 2) [.int .i64 N, .string D]) ((i + 1) * 2) (xs.drop (i * 2))).toArray 40 (0, 0)) := by
    rw [hw3.out]; exact setRow_heap _ _ _ _ _ _ HB2.out
  have HD3 : Below w.heap.size w w3 := by rw [hw3.out]; exact below_setRow HD2.out (Nat.le_refl _) _
  have hL := ins_list xs R1 i n nc hx hi hnc HL1.out (by rw [HR1.out, List.take_left' XI.out]) [.int .i64 N, .string D] rfl
  refine ⟨_, rfl, ⟨by rw [insAt_len xs i n hx (by omega) _ rfl], Or.inr ⟨w.heap.size, nc, _, rfl, hb, HB3, hnc, HMX.out, ?_, ?_⟩⟩, ⟨HD3.os, HD3.tape, HD3.output, HD3.size, fun k hk _ => HD3.block k hk⟩⟩
  · rw [List.size_toArray, hL.1]
  · rw [hL.2]
end Go.Proofs.YtgpmkbmobdbdoaaDoor.Q

-- T18
namespace Go.Proofs.YtgpmkbmobdbdoaaDoor.Q
open Go.RowKit Go.Proofs.YtgpmkbmobdbdoaaDoorW.PrintWords Go.Proofs.YtgpmkbmobdbdoaaDoorW.PrintLast Go.Proofs.YtgpmkbmobdbdoaaDoorW.PrintMore
set_option linter.unusedVariables false
set_option linter.unusedSimpArgs false

theorem ins_list2 (cur xs : List Value) (i n cap : Nat) (hx : xs.length = n * 2) (hi : i < n) (hcap : n + 1 ≤ cap) (hR : cur.length = cap * 2) (h0 : cur.take (n * 2) = xs) (c : List Value) (hc : c.length = 2) :
    (splice (splice cur ((i + 1) * 2) (xs.drop (i * 2))) (i * 2) c).length = cap * 2 ∧ (splice (splice cur ((i + 1) * 2) (xs.drop (i * 2))) (i * 2) c).take ((n + 1) * 2) = insAt xs i c := by
  have hl : (xs.drop (i * 2)).length = (n - i) * 2 := by rw [List.length_drop, hx]; omega
  have e1 : (splice cur ((i + 1) * 2) (xs.drop (i * 2))).length = cap * 2 := by rw [length_splice _ _ _ (by rw [hl]; omega)]; exact hR
  have ht : cur.take (i * 2) = xs.take (i * 2) := by rw [← h0, List.take_take, Nat.min_eq_left (by omega)]
  refine ⟨by rw [length_splice _ _ _ (by omega)]; exact e1, ?_⟩
  have t1 : (splice cur ((i + 1) * 2) (xs.drop (i * 2))).take (i * 2) = xs.take (i * 2) := by
    unfold splice
    rw [List.take_append_of_le_length (by rw [List.length_take]; omega), List.take_take, Nat.min_eq_left (by omega), ht]
  have t2 : (splice cur ((i + 1) * 2) (xs.drop (i * 2))).drop (i * 2 + c.length) = xs.drop (i * 2) ++ cur.drop ((n + 1) * 2) := by
    unfold splice
    rw [hc, show i * 2 + 2 = (i + 1) * 2 by omega, List.drop_left' (by rw [List.length_take]; omega), hl]
    congr 2; omega
  show ((splice cur ((i + 1) * 2) (xs.drop (i * 2))).take (i * 2) ++ (c ++ (splice cur ((i + 1) * 2) (xs.drop (i * 2))).drop (i * 2 + c.length))).take ((n + 1) * 2) = _
  rw [t1, t2]
  unfold insAt
  rw [← List.append_assoc c, ← List.append_assoc (xs.take (i * 2)), List.take_left' (by simp only [List.length_append, List.length_take, List.length_drop, hx, hc]; omega)]
set_option maxHeartbeats 4000000 in
set_option maxRecDepth 100000 in
theorem insert_room.walk (base n i : Nat) (g cap : Nat) (cur : Array Value) (xs : List Value) (bv : Nat) (N : Int) (D : ByteArray) (w : World) (hi : i < n) (hn : n ≤ 1000) (hb : base ≤ g)
    (hg : w.heap[g]? = some (.cells cur 40 (0, 0))) (hx : xs.length = n * 2) (hcur : cur.toList.take (n * 2) = xs) (hcap : n + 1 ≤ cap) (hmx : cap ≤ maxLen) (hsz : cur.size = cap * 2) (h1 : ∀ u ∈ xs, u.oneCell' = true)
    (hv : w.heap[bv]? = some (.cells #[.int .i64 N, .string D] 40 (0, 0))) (hne : bv ≠ g) :
    Calls Tryd.prog 40 #[.slice (some ⟨g, 0, none⟩) n cap, .int .i64 i, .slice (some ⟨bv, 0, none⟩) 1 1] w (InsPost base n i (.slice (some ⟨g, 0, none⟩) n cap) xs [.int .i64 N, .string D] w) := by
  have HV := Lib.hid hv; clear hv
  have HG := Lib.hid hg; clear hg
  have HMX := Lib.hid hmx
  unfold maxLen at hmx
  have d0 : ¬ cap = i := by omega
  have d1 : ¬ cap = 0 := by omega
  have d2 : ((i : Int) == n) = false := beq_eq_false_iff_ne.2 (by omega)
  have d3 : decide ((cap : Int) < (n : Int) + 1) = false := by simp; omega
  have d4 : (i : Int) ≤ cap := by omega
  have d5 : ¬ cap = i + 1 := by omega
  have d8 : (i : Int) + 1 ≤ (n : Int) + 1 := by omega
  have d9 : (0 : Int) ≤ (i : Int) + 1 := by omega
  have d10 : (0 : Int) ≤ (i : Int) := by omega
  have d11 : (i : Int) ≤ (n : Int) := by omega
  have d12 : (n : Int) + 1 ≤ cap := by omega
  have d13 : (i : Int) ≤ (n : Int) + 1 := by omega
  have HX := Lib.hid hx; have HCUR := Lib.hid hcur; have HSZ := Lib.hid hsz
  have XD := Lib.hid (show ∀ (j : Nat) (u : Value), (xs.drop (i * 2))[j]? = some u → w.cell? ((⟨g, i * 2, none⟩ : Addr).add j) = some u from fun j u hu => by
    rw [add_at, blk_cell HG.out]
    rw [List.getElem?_drop, ← hcur, List.getElem?_take] at hu
    split at hu
    · simpa using hu
    · cases hu)
  have HOV := Lib.hid (fun (W : World) (hW : W.heap = w.heap) => show (callFunc 61 #[.slice (some ⟨bv, 0, none⟩) 1 1, .slice (some ⟨g, (i + 1) * 2, none⟩) (n - i) (cap - (i + 1))]).run Tryd.prog W = .ok (.value (.bool false)) W by
    have h1 : W.heap[bv]? = some (.cells #[.int .i64 N, .string D] 40 (0, 0)) := by rw [hW]; exact HV.out
    have h2 : W.heap[g]? = some (.cells cur 40 (0, 0)) := by rw [hW]; exact HG.out
    rw [run_callFunc_extern Tryd.func61 (by kernel_rfl) (by kernel_rfl) (by kernel_rfl) (e := Extern.SlicesOverlaps.overlaps #[23, 23] #[4]) (by kernel_rfl)]
    rw [Lib.run_overlaps_apart (P := Tryd.prog) W 23 4 40 Tryd.underlying23 2 Tryd.sizeOf40 ⟨bv, 0, none⟩ ⟨g, (i + 1) * 2, none⟩ 1 1 (n - i) (cap - (i + 1)) hne 40 40 2 cur.size (by simp [World.shape?, h1]) (by simp [World.shape?, h2]) (by omega) (blk_frozen h1 0) (blk_frozen h1 2)]
    rfl)
  clear hcur hx hsz hmx
  have ho := HOV.out w rfl
  go_enter Tryd.func40, Tryd.ntmps40
  go_wp2_with fail
  clear ho
  have q1 : IntKind.i64.wrap ((i : Int) + 1) = (i : Int) + 1 := by rw [IntKind.wrap_i64]; omega
  have q2 : ((i : Int) + 1).toNat = i + 1 := by omega
  have hl : (xs.drop (i * 2)).length = (n - i) * 2 := by rw [List.length_drop, HX.out]; omega
  have hcl : cur.toList.length = cap * 2 := by rw [Array.length_toList, HSZ.out]
  have E1 : Hid (∀ (j : Nat) (u : Value), (xs.drop (i * 2))[j]? = some u → w.drew.cell? ((⟨g, i * 2, none⟩ : Addr).add j) = some u) := fun j u hu => XD.out j u hu
  have E2 : Hid (∀ u ∈ xs.drop (i * 2), u.oneCell' = true) := fun u hu => h1 u (List.mem_of_mem_drop hu)
  have E3 : Hid ((xs.drop (i * 2)).length = Nat.min (n + 1 - i) (n - i) * 2) := by unfold Hid; rw [hl, show Nat.min (n + 1 - i) (n - i) = n - i from Nat.min_eq_right (by omega)]
  have E4 : Hid ((i + 1) * 2 + (xs.drop (i * 2)).length ≤ cur.size) := by unfold Hid; rw [hl, HSZ.out]; omega
  have HGd : Hid (w.drew.heap[g]? = some (.cells cur 40 (0, 0))) := HG
  have HIL := Lib.hid (ins_list2 cur.toList xs i n cap HX.out hi hcap hcl HCUR.out [.int .i64 N, .string D] rfl)
  have HSL : Hid ((splice cur.toList ((i + 1) * 2) (xs.drop (i * 2))).length = cap * 2) := by unfold Hid; rw [length_splice _ _ _ (by rw [hl, hcl]; omega)]; exact hcl
  clear hl hcl
  go_still_tail 8, (by kernel_rfl)
  change wpList _ _ _ _ _ w.drew
  clear q1 q2
  go_wp2_with (with_reducible refine wpList_copy_cells rfl (.tmp 73) (.tmp 76) 23 23 rfl 40 2 Tryd.underlying23 i40sz g ((i + 1) * 2) (n - i) (cap - (i + 1)) ⟨g, i * 2, none⟩ (n + 1 - i) (cap - i) ?e1 ?e2 cur 40 HGd.out (xs.drop (i * 2)) E3.out E1.out E4.out E2.out ?_)
  case e1 => rfl
  case e2 => rfl
  intro w2 hw2
  have HB2 : Hid (w2.heap[g]? = some (.cells (splice cur.toList ((i + 1) * 2) (xs.drop (i * 2))).toArray 40 (0, 0))) := by
    unfold Hid; rw [hw2.out]; exact setRow_heap _ _ _ _ _ _ HGd.out
  have HO2 : Hid (Only g w w2) := by unfold Hid; rw [hw2.out]; exact ((Only.refl g w).drewN 1).setRow _
  have F1 : Hid (∀ (j : Nat) (u : Value), ([.int .i64 N, .string D] : List Value)[j]? = some u → w2.cell? ((⟨bv, 0, none⟩ : Addr).add j) = some u) := World.news_of_block (HO2.out.blk HV.out hne)
  have F2 : Hid (∀ u ∈ ([.int .i64 N, .string D] : List Value), u.oneCell' = true) := by unfold Hid; simp [Value.oneCell']
  have F3 : Hid (([.int .i64 N, .string D] : List Value).length = Nat.min 1 (n + 1 - i) * 2) := by unfold Hid; rw [show Nat.min 1 (n + 1 - i) = 1 from Nat.min_eq_left (by omega)]; rfl
  have F4 : Hid (i * 2 + ([.int .i64 N, .string D] : List Value).length ≤ (splice cur.toList ((i + 1) * 2) (xs.drop (i * 2))).toArray.size) := by unfold Hid; rw [List.size_toArray, HSL.out]; simp; omega
  clear hw2
  go_wp2_with (with_reducible refine wpList_copy_cells rfl (.tmp 80) (.tmp 81) 23 23 rfl 40 2 Tryd.underlying23 i40sz g (i * 2) (n + 1 - i) (cap - i) ⟨bv, 0, none⟩ 1 1 ?f1 ?f2 _ 40 HB2.out [.int .i64 N, .string D] F3.out F1.out F4.out F2.out ?_)
  case f1 => rfl
  case f2 => rfl
  intro w3 hw3
  go_wp2_with fail
  go_ret
  have HB3 : w3.heap[g]? = some (.cells (splice (splice cur.toList ((i + 1) * 2) (xs.drop (i * 2))) (i * 2) [.int .i64 N, .string D]).toArray 40 (0, 0)) := by
    rw [hw3.out]; exact setRow_heap _ _ _ _ _ _ HB2.out
  have HD3 : Only g w w3 := by rw [hw3.out]; exact HO2.out.setRow _
  refine ⟨_, rfl, ⟨by rw [insAt_len xs i n HX.out (by omega) _ rfl], Or.inr ⟨g, cap, _, rfl, hb, HB3, hcap, HMX.out, ?_, ?_⟩⟩, ⟨HD3.os, HD3.tape, HD3.output, HD3.size, fun k hk hg => HD3.block k hk (fun e => hg (by rw [e]; rfl))⟩⟩
  · rw [List.size_toArray, HIL.out.1]
  · rw [HIL.out.2]
theorem insert.walk (base n i : Nat) (v : Value) (xs : List Value) (bv : Nat) (N : Int) (D : ByteArray) (w : World) (hown : w.ownsRow base 40 2 v n xs) (hb : base ≤ w.heap.size) (hi : i ≤ n) (hn : n ≤ 1000) (h1 : ∀ u ∈ xs, u.oneCell' = true)
    (hv : w.heap[bv]? = some (.cells #[.int .i64 N, .string D] 40 (0, 0))) (hne : v.ownBlock ≠ some bv) :
    Calls Tryd.prog 40 #[v, .int .i64 i, .slice (some ⟨bv, 0, none⟩) 1 1] w (InsPost base n i v xs [.int .i64 N, .string D] w) := by
  rcases Nat.eq_or_lt_of_le hi with rfl | hlt
  · exact insert_end.walk base i v xs bv N D w hown hb hn hv
  · rcases hown.2 with ⟨_, h0⟩ | ⟨g, cap, cur, rfl, hbg, hg, hnc, hcm, hcs, htake⟩
    · omega
    · by_cases hroom : n + 1 ≤ cap
      · exact insert_room.walk base n i g cap cur xs bv N D w hlt hn hbg hg hown.1 htake hroom hcm hcs h1 hv (fun e => hne (by rw [e]; rfl))
      · exact insert_grow.walk base n i g cap cur xs bv N D w hlt hn hb hg hown.1 htake hnc (by omega) h1 hv
end Go.Proofs.YtgpmkbmobdbdoaaDoor.Q

-- T19
namespace Go.Proofs.YtgpmkbmobdbdoaaDoor.Q
open Go.RowKit Go.Proofs.YtgpmkbmobdbdoaaDoorW.PrintWords Go.Proofs.YtgpmkbmobdbdoaaDoorW.PrintLast Go.Proofs.YtgpmkbmobdbdoaaDoorW.PrintMore
set_option linter.unusedVariables false
set_option linter.unusedSimpArgs false

def cell40 (p : S40) : List Value := [.int .i64 p.f0, .string p.f1]
def cells40 (l : List S40) : List Value := (l.map cell40).flatten
theorem cells40_len (l : List S40) : (cells40 l).length = l.length * 2 := by
  unfold cells40
  rw [flat_len (sz := 2) (by intro c hc; obtain ⟨p, _, rfl⟩ := List.mem_map.1 hc; rfl), List.length_map]
theorem cells40_one (l : List S40) : ∀ u ∈ cells40 l, u.oneCell' = true := by
  intro u hu
  obtain ⟨c, hc, hu⟩ := List.mem_flatten.1 hu
  obtain ⟨p, _, rfl⟩ := List.mem_map.1 hc
  simp [cell40] at hu
  rcases hu with rfl | rfl <;> rfl
theorem rows40 {w : World} {l : List S40} {rows : List (List Value)} (h : RowsOf k40 w l rows) : rows = l.map cell40 := by
  apply List.ext_getElem?
  intro j
  rw [List.getElem?_map]
  rcases Nat.lt_or_ge j l.length with hj | hj
  · have hj' : j < rows.length := by have := h.len; omega
    rw [List.getElem?_eq_getElem hj, List.getElem?_eq_getElem hj']
    exact congrArg some (k40_open (h.at_ j _ _ (List.getElem?_eq_getElem hj) (List.getElem?_eq_getElem hj')))
  · rw [List.getElem?_eq_none hj, List.getElem?_eq_none (by have := h.len; omega)]; rfl
theorem rowsOf40 (w : World) (l : List S40) : RowsOf k40 w l (l.map cell40) := by
  refine ⟨by simp, fun j x c hx hc => ?_⟩
  rw [List.getElem?_map, hx] at hc
  injection hc with hc
  subst hc
  exact k40_mk w x
theorem own40 {w : World} {base : Nat} {v : Value} {l : List S40} (h : w.ownsRow base 40 2 v l.length (cells40 l)) : ∃ A c, v = .slice A l.length c ∧ l.length ≤ c ∧ Kd.C k40 w A l.length l := by
  rcases h.2 with ⟨h1, h2⟩ | ⟨g, cap, cur, h1, hg, hh, hn, hm, _⟩
  · have : l = [] := List.length_eq_zero_iff.1 h2
    subst this
    exact ⟨none, 0, h1, Nat.le_refl _, Kd.C_nil _ _⟩
  · subst h1
    exact ⟨_, cap, rfl, hn, rows_C (rowsOf40 w l) (own_raw h) (by unfold maxLen at hm; omega)⟩
theorem clone39_any {w : World} {A : Option Addr} {c : Nat} {l : List S40} (hr : Kd.C k40 w A l.length l) (hn : l.length ≤ 1000000) :
    Calls Tryd.prog 39 #[.slice A l.length c] w fun e w' => ∃ v, e = .returned v ∧ w'.ownsRow w.heap.size 40 2 v l.length (cells40 l) ∧ Below w.heap.size w w' := by
  cases A with
  | none =>
    have h0 : l.length = 0 := by
      rcases Nat.eq_zero_or_pos l.length with h | h
      · exact h
      · obtain ⟨ad, e, _⟩ := hr.2.2 h; cases e
    have : l = [] := List.length_eq_zero_iff.1 h0
    subst this
    refine (clone39_nil 0 c w).mono ?_
    rintro e w' ⟨rfl, hb⟩
    exact ⟨_, rfl, own_nil _ _ _ _, hb⟩
  | some ad =>
    obtain ⟨rows, h1, h2⟩ := C_rows hr
    rw [rows40 h1] at h2
    exact clone39.walk ad l.length c (cells40 l) w (cells40_len l) (cells40_one l) h2 hn
theorem insAt40 (l : List S40) (k : Nat) (p : S40) : insAt (cells40 l) k (cell40 p) = cells40 (l.take k ++ (p :: l.drop k)) := by
  have h : ∀ (l : List S40) (k : Nat), (cells40 l).take (k * 2) = cells40 (l.take k) ∧ (cells40 l).drop (k * 2) = cells40 (l.drop k) := by
    intro l
    induction l with
    | nil => intro k; simp [cells40]
    | cons x l ih =>
      intro k
      rcases k with _ | k
      · simp [cells40]
      · obtain ⟨a, b⟩ := ih k
        have e : cells40 (x :: l) = .int .i64 x.f0 :: .string x.f1 :: cells40 l := rfl
        rw [e, show (k + 1) * 2 = k * 2 + 1 + 1 by omega, List.take_succ_cons, List.take_succ_cons, List.drop_succ_cons, List.drop_succ_cons, a, b]
        exact ⟨rfl, rfl⟩
  unfold insAt
  rw [(h l k).1, (h l k).2]
  unfold cells40
  rw [List.map_append, List.flatten_append]
  rfl
theorem set40 (l : List S40) (k : Nat) (p : S40) (hk : k < l.length) : ((cells40 l).set (k * 2) (.int .i64 p.f0)).set (k * 2 + 1) (.string p.f1) = cells40 (l.set k p) := by
  induction l generalizing k with
  | nil => simp at hk
  | cons x l ih =>
    have e : ∀ x (l : List S40), cells40 (x :: l) = .int .i64 x.f0 :: .string x.f1 :: cells40 l := fun _ _ => rfl
    rcases k with _ | k
    · rfl
    · have := ih k (by simpa using hk)
      rw [e, show (k + 1) * 2 = k * 2 + 1 + 1 by omega, List.set_cons_succ, List.set_cons_succ, List.set_cons_succ, List.set_cons_succ, this, List.set_cons_succ, e]
theorem fine_sorted {u : Int} {key : ByteArray} {l : List S40} (h : fineB u key l = true) : SortedP l ∧ l.length ≤ 30 := by
  unfold fineB at h
  simp only [Bool.and_eq_true, decide_eq_true_eq] at h
  obtain ⟨_, _, hl, ha⟩ := h
  have hj : ∀ (j : Nat) (hj : j < l.length), mayB l[j] = true ∧ (0 < j → l[j - 1].f0 < l[j].f0) := by
    intro j hj
    have := allFrom_at ha j (by omega) (by omega)
    unfold adjB at this
    rw [Bool.and_eq_true, Bool.or_eq_true] at this
    rw [List.getD_eq_getElem?_getD, List.getElem?_eq_getElem hj, List.getD_eq_getElem?_getD, List.getElem?_eq_getElem (show j - 1 < l.length by omega)] at this
    refine ⟨this.1, fun h0 => ?_⟩
    rcases this.2 with h | h
    · have : j = 0 := by simpa using h
      omega
    · simpa using h
  refine ⟨⟨fun j h => ?_, fun i j h hj' => ?_⟩, hl⟩
  · have := (hj j h).1
    unfold mayB at this
    simp only [Bool.and_eq_true, decide_eq_true_eq] at this
    exact ⟨this.1, this.2.1⟩
  · induction j with
    | zero => omega
    | succ j ih =>
      have h1 : l[j].f0 < l[j + 1].f0 := (hj (j + 1) hj').2 (by omega)
      rcases Nat.eq_or_lt_of_le (Nat.le_of_lt_succ h) with rfl | h2
      · exact h1
      · have := ih h2 (by omega); omega
theorem check_fine {l : List S25} (h : checkB l = true) : l.length ≤ 10 ∧ ∀ (j : Nat) (hj : j < l.length), fineB l[j].f0 l[j].f1 l[j].f2 = true := by
  unfold checkB at h
  simp only [Bool.and_eq_true, decide_eq_true_eq] at h
  refine ⟨h.1, fun j hj => ?_⟩
  have := allFrom_at h.2 j (by omega) (by omega)
  unfold adjU at this
  rw [Bool.and_eq_true, List.getD_eq_getElem?_getD, List.getElem?_eq_getElem hj] at this
  exact this.1
end Go.Proofs.YtgpmkbmobdbdoaaDoor.Q

-- T20
namespace Go.Proofs.YtgpmkbmobdbdoaaDoor.Q
open Go.RowKit Go.Proofs.YtgpmkbmobdbdoaaDoorW.PrintWords Go.Proofs.YtgpmkbmobdbdoaaDoorW.PrintLast Go.Proofs.YtgpmkbmobdbdoaaDoorW.PrintMore
set_option linter.unusedVariables false
set_option linter.unusedSimpArgs false

def layParts (l : List S40) (p : S40) : List S40 := if thereP l p.f0 = true then l.set (lowP l p.f0) p else l.take (lowP l p.f0) ++ (p :: l.drop (lowP l p.f0))
def layR (l : List S25) (id : Int) (p : S40) : List S25 × Int × Int :=
  if checkB l = false ∨ mayB p = false then ([], 0, 1)
  else match posU l id with
    | none => ([], 0, 4)
    | some i =>
      if thereP (l.getD i z25).f2 p.f0 = false ∧ (l.getD i z25).f2.length = 30 then ([], 0, 6)
      else (l.set i ⟨(l.getD i z25).f0, (l.getD i z25).f1, layParts (l.getD i z25).f2 p⟩, tagOf p.f1, 0)
def ListPost (r : List S25) (rest : List Value) (w : World) (e : Ending) (w' : World) : Prop :=
  ∃ A c, e = .returned (.tuple (#[.slice A r.length c] ++ rest.toArray)) ∧ r.length ≤ c ∧ Kd.C k25 w' A r.length r ∧ Below w.heap.size w w'
theorem may_calls (p : S40) (w : World) : Calls Tryd.prog 36 #[.agg #[.int .i64 p.f0, .string p.f1]] w fun e w' => e = .returned (.bool (mayB p)) ∧ Below w.heap.size w w' :=
  parts_may.calls p.f0 p.f1 _ w (may_of p)
set_option maxHeartbeats 4000000 in
set_option maxRecDepth 100000 in
theorem lay_err.walk (A : Option Addr) (c : Nat) (l : List S25) (id : Int) (p : S40) (w : World) (hr : Kd.C k25 w A l.length l) (hc : l.length ≤ c) (e : Int) (he : e = 1 ∨ e = 4)
    (hp : checkB l = false ∧ e = 1 ∨ checkB l = true ∧ mayB p = false ∧ e = 1 ∨ checkB l = true ∧ mayB p = true ∧ posU l id = none ∧ e = 4) :
    Calls Tryd.prog 14 #[.slice A l.length c, .int .u64 id, .agg #[.int .i64 p.f0, .string p.f1]] w (ListPost [] [.int .u32 0, .int .i64 e] w) := by
  have HB0 : Hid (Below w.heap.size w w) := Below.refl _ _
  have HA := Lib.hid (HB0.out.alloc (Nat.le_refl _) (.cells #[.int .i64 p.f0, .string p.f1] 40))
  have HZ := Lib.hid (place.walk A c l id _ (Kd.C_below hr HA.out) hc)
  have HM := Lib.hid (fun W => may_calls p W)
  clear hr
  have fin : ∀ w', Below w.heap.size w w' → ListPost [] [.int .u32 0, .int .i64 e] w (.returned (.tuple #[.slice none 0 0, .int .u32 0, .int .i64 e])) w' := fun w' hb => ⟨none, 0, rfl, Nat.le_refl _, Kd.C_nil _ _, hb⟩
  have FIN := Lib.hid fin; clear fin
  rcases hp with ⟨h1, rfl⟩ | ⟨h1, h2, rfl⟩ | ⟨h1, h2, h3, rfl⟩
  · have e1 : placeR l id = (0, 1) := by unfold placeR; rw [if_pos h1]
    rw [e1] at HZ
    clear h1 e1 he
    go_enter Tryd.func14, Tryd.ntmps14
    go_wp2_with (first | (go_at_call 35; refine HZ.out.mono ?_; rintro e w1 ⟨rfl, hb⟩; have HB1 := keepB HA hb; clear hb))
    go_ret3
    exact FIN.out _ HB1.out
  · rw [h2] at HM
    obtain ⟨x, y, e1, hy⟩ : ∃ x y, placeR l id = (x, y) ∧ (y = 0 ∨ y = 4) := by
      unfold placeR; rw [if_neg (by simp [h1])]
      cases posU l id
      · exact ⟨_, _, rfl, Or.inr rfl⟩
      · exact ⟨_, _, rfl, Or.inl rfl⟩
    rw [e1] at HZ
    clear h1 h2 e1 he
    rcases hy with rfl | rfl
    all_goals
      go_enter Tryd.func14, Tryd.ntmps14
      go_wp2_with (first | (go_at_call 35; refine HZ.out.mono ?_; rintro e w1 ⟨rfl, hb⟩; have hk1 := blk_below (blk_new w _) hb; have c0 := (blk_cell hk1 0).trans rfl; have c1 := (blk_cell hk1 1).trans rfl; have HB1 := keepB HA hb; clear hb hk1) | (go_at_call 36; refine (HM.out _).mono ?_; rintro e w2 ⟨rfl, hb⟩; have HB2 := keepB HB1 hb; clear hb))
      go_ret3
      exact FIN.out _ HB2.out
  · rw [h2] at HM
    have e1 : placeR l id = (0, 4) := by unfold placeR; rw [if_neg (by simp [h1]), h3]
    rw [e1] at HZ
    clear h1 h2 h3 e1 he
    go_enter Tryd.func14, Tryd.ntmps14
    go_wp2_with (first | (go_at_call 35; refine HZ.out.mono ?_; rintro e w1 ⟨rfl, hb⟩; have hk1 := blk_below (blk_new w _) hb; have c0 := (blk_cell hk1 0).trans rfl; have c1 := (blk_cell hk1 1).trans rfl; have HB1 := keepB HA hb; clear hb hk1) | (go_at_call 36; refine (HM.out _).mono ?_; rintro e w2 ⟨rfl, hb⟩; have HB2 := keepB HB1 hb; clear hb))
    go_ret3
    exact FIN.out _ HB2.out
end Go.Proofs.YtgpmkbmobdbdoaaDoor.Q

-- T21
namespace Go.Proofs.YtgpmkbmobdbdoaaDoor.Q
open Go.RowKit Go.Proofs.YtgpmkbmobdbdoaaDoorW.PrintWords Go.Proofs.YtgpmkbmobdbdoaaDoorW.PrintLast Go.Proofs.YtgpmkbmobdbdoaaDoorW.PrintMore
set_option linter.unusedVariables false
set_option linter.unusedSimpArgs false

theorem keepK {w w' : World} {g : Nat} {o : Obj} (h : Hid (w.heap[g]? = some o)) (hb : Below w.heap.size w w') : Hid (w'.heap[g]? = some o) := blk_below h.out hb
theorem keepKD {w : World} {g : Nat} {o : Obj} (h : Hid (w.heap[g]? = some o)) : Hid (w.drew.heap[g]? = some o) := h
theorem keepcD {w : World} {p : Addr} {v : Value} (h : w.cell? p = some v) : w.drew.cell? p = some v := h
theorem k25_row {w : World} {x : S25} {c : List Value} (h : k25.K w x c) : ∃ A2 c2, c = [.int .u64 x.f0, .string x.f1, .slice A2 x.f2.length c2] ∧ x.f2.length ≤ c2 ∧ Kd.C k40 w A2 x.f2.length x.f2 := k25_open h
theorem flat_set {rows : List (List Value)} {sz : Nat} (h : ∀ c ∈ rows, c.length = sz) (i j : Nat) (hi : i < rows.length) (hj : j < sz) (v : Value) : rows.flatten.set (i * sz + j) v = (rows.set i (rows[i].set j v)).flatten := by
  induction rows generalizing i with
  | nil => simp at hi
  | cons c rows ih =>
    have hc := h c List.mem_cons_self
    rcases i with _ | i
    · rw [List.flatten_cons, Nat.zero_mul, Nat.zero_add, List.set_append_left _ _ (by omega)]; rfl
    · rw [List.flatten_cons, List.set_append_right _ _ (by rw [hc, Nat.add_mul]; omega), hc, show (i + 1) * sz + j - sz = i * sz + j by rw [Nat.add_mul]; omega, ih (fun d hd => h d (List.mem_cons_of_mem _ hd)) i (by simpa using hi)]
      rfl
theorem blk_raw {w : World} {g : Nat} {cur : Array Value} {t : TypeId} {cs : List Value} (h : w.heap[g]? = some (.cells cur t (0, 0))) (m : Nat) (ht : cur.toList.take m = cs) : RawAt w ⟨g, 0, none⟩ cs := by
  intro j u hu
  rw [add_at, Nat.zero_add, blk_cell h]
  rw [← ht, List.getElem?_take] at hu
  split at hu
  · simpa using hu
  · cases hu
theorem lay_fin {w : World} (l : List S25) (i : Nat) (hi : i < l.length) (rows : List (List Value)) (hrows : RowsOf k25 w l rows) (W : World) (hb : Below w.heap.size w W) (g1 cap1 : Nat) (cur1 : Array Value) (A' : Option Addr) (m cap' : Nat)
    (hg : W.heap[g1]? = some (.cells (cur1.setIfInBounds (i * 3 + 2) (.slice A' m cap')) 25 (0, 0))) (htake : cur1.toList.take (l.length * 3) = rows.flatten) (hcap : l.length ≤ cap1) (x : Value)
    (hrow : rows[i]'(by have := hrows.len; omega) = [.int .u64 l[i].f0, .string l[i].f1, x]) (f2 : List S40) (hC : Kd.C k40 W A' m f2) (hm : m = f2.length) (hle : f2.length ≤ cap') (rest : List Value) (hl : l.length ≤ 10) :
    ListPost (l.set i ⟨l[i].f0, l[i].f1, f2⟩) rest w (.returned (.tuple (#[.slice (some ⟨g1, 0, none⟩) l.length cap1] ++ rest.toArray))) W := by
  subst hm
  refine ⟨some ⟨g1, 0, none⟩, cap1, by rw [List.length_set], by rw [List.length_set]; exact hcap, ?_, hb⟩
  have hri : i < rows.length := by have := hrows.len; omega
  have h1 := (hrows.below hb).set i ⟨l[i].f0, l[i].f1, f2⟩ [.int .u64 l[i].f0, .string l[i].f1, .slice A' f2.length cap'] (k25_mk W ⟨l[i].f0, l[i].f1, f2⟩ hle hC)
  refine rows_C h1 (blk_raw hg (l.length * 3) ?_) (by rw [List.length_set]; omega)
  rw [Array.toList_setIfInBounds, List.take_set, htake, flat_set (sz := 3) hrows.lens i 2 hri (by omega), hrow]
  rfl
set_option maxHeartbeats 8000000 in
set_option maxRecDepth 100000 in
theorem lay_there.walk (ad : Addr) (c : Nat) (l : List S25) (id : Int) (p : S40) (w : World) (hr : Kd.C k25 w (some ad) l.length l) (hc : l.length ≤ c) (i : Nat) (hi : i < l.length)
    (hk : checkB l = true) (hm : mayB p = true) (hp : posU l id = some i) (hth : thereP l[i].f2 p.f0 = true) :
    Calls Tryd.prog 14 #[.slice (some ad) l.length c, .int .u64 id, .agg #[.int .i64 p.f0, .string p.f1]] w (ListPost (layR l id p).1 [.int .u32 (layR l id p).2.1, .int .i64 (layR l id p).2.2] w) := by
  have HB0 : Hid (Below w.heap.size w w) := Below.refl _ _
  obtain ⟨hl10, hfn⟩ := check_fine hk
  obtain ⟨hsort, hl30⟩ := fine_sorted (hfn i hi)
  have hm' := hm
  unfold mayB at hm'
  simp only [Bool.and_eq_true, decide_eq_true_eq] at hm'
  obtain ⟨m0, m1, m2⟩ := hm'
  have HA := Lib.hid (HB0.out.alloc (Nat.le_refl _) (.cells #[.int .i64 p.f0, .string p.f1] 40))
  have HZ := Lib.hid (place.walk (some ad) c l id _ (Kd.C_below hr HA.out) hc)
  have e1 : placeR l id = ((i : Int), 0) := by unfold placeR; rw [if_neg (by simp [hk]), hp]
  rw [e1] at HZ
  have HM := Lib.hid (fun W => may_calls p W)
  rw [hm] at HM
  have HLR : Hid (layR l id p = if thereP l[i].f2 p.f0 = false ∧ l[i].f2.length = 30 then ([], 0, 6) else (l.set i ⟨l[i].f0, l[i].f1, layParts l[i].f2 p⟩, tagOf p.f1, 0)) := by
    unfold Hid layR
    rw [if_neg (by simp [hk, hm]), hp]
    simp [List.getD_eq_getElem?_getD, hi]
  have HLR2 : Hid (layR l id p = (l.set i ⟨l[i].f0, l[i].f1, l[i].f2.set (lowP l[i].f2 p.f0) p⟩, tagOf p.f1, 0)) := by
    unfold Hid; rw [HLR.out, if_neg (by simp [hth])]; unfold layParts; rw [if_pos hth]
  have hlow : lowP l[i].f2 p.f0 < l[i].f2.length := by
    unfold lowP
    rw [List.findIdx_lt_length]
    unfold thereP at hth
    obtain ⟨x, hx, hxp⟩ := List.any_eq_true.1 hth
    exact ⟨x, hx, by have : x.f0 = p.f0 := by simpa using hxp
                     simp [this]⟩
  clear e1 hk hm hp hfn HLR
  have HR := Lib.hid hr
  have HSORT := Lib.hid hsort
  clear hr hsort
  obtain ⟨rows, hrows, hraw⟩ := C_rows HR.out
  have hri : i < rows.length := by have := hrows.len; omega
  obtain ⟨A2, c2, hrow, g3, g4⟩ := k25_row (hrows.at_ i l[i] rows[i] (List.getElem?_eq_getElem hi) (List.getElem?_eq_getElem hri))
  have hfa : ∀ j v, j < 3 → ([.int .u64 l[i].f0, .string l[i].f1, .slice A2 l[i].f2.length c2] : List Value)[j]? = some v → rows.flatten[i * 3 + j]? = some v := fun j v hj h => by
    rw [flat_at (sz := 3) hrows.lens i j hj, List.getElem?_eq_getElem hri, Option.bind_some, hrow]; exact h
  have g2 := hraw _ _ (hfa 2 _ (by omega) rfl)
  rw [add_field _ _ 2 (by omega)] at g2
  have hfl : rows.flatten.length = l.length * 3 := by rw [flat_len (sz := 3) hrows.lens, hrows.len]
  have HFA := Lib.hid hfa; have HFL := Lib.hid hfl; have HROWS := Lib.hid hrows; have HRAW := Lib.hid hraw; have HROW := Lib.hid hrow
  have G2 := Lib.hid g2; have G3 := Lib.hid g3; have G4 := Lib.hid g4
  clear g2 g3 g4 hfa hfl hrows hraw hrow
  have HBS := Lib.hid (fun (W : World) (h : Below w.heap.size w W) => bsearch.walk A2 c2 l[i].f2 p.f0 W (Kd.C_below G4.out h) HSORT.out (by omega) m0 m1)
  simp only [hth] at HBS
  clear hth
  generalize hkk : lowP l[i].f2 p.f0 = k at *
  clear hkk
  go_enter Tryd.func14, Tryd.ntmps14
  go_wp2_with (first | (go_at_call 35; refine HZ.out.mono ?_; rintro e w1 ⟨rfl, hb⟩; have hk1 := blk_below (blk_new w _) hb; have c0 := (blk_cell hk1 0).trans rfl; have c1 := (blk_cell hk1 1).trans rfl; have BK1 := Lib.hid hk1; have HB1 := keepB HA hb; clear hb hk1) | (go_at_call 36; refine (HM.out _).mono ?_; rintro e w2 ⟨rfl, hb⟩; have BK2 := Lib.hid (blk_below BK1.out hb); have HB2 := keepB HB1 hb; clear hb))
  clear c0 c1
  have c0 := (blk_cell BK2.out 0).trans rfl
  have c1 := (blk_cell BK2.out 1).trans rfl
  have b2 := keepc HB2.out G2.out
  have i0 : (0 : Int) ≤ (i : Int) := by omega
  have i1 : (i : Int) < (l.length : Int) := by omega
  go_region_held3 (fun W => W.cell? ⟨w.heap.size, 0, none⟩ = some (.int .i64 p.f0) ∧ W.cell? ⟨(ad.add (i * 3)).block, (ad.add (i * 3)).off + 2, none⟩ = some (.slice A2 l[i].f2.length c2) ∧ Hid (Below w.heap.size w W) ∧ Hid (W.heap[w.heap.size]? = some (.cells #[.int .i64 p.f0, .string p.f1] 40 (0, 0))))
    (((try go_split_ands); refine ⟨?_, ?_, ?_, ?_⟩ <;> first | assumption | (refine keepc hb ?_; assumption) | (refine keepB ?_ hb; assumption) | (refine keepK ?_ hb; assumption) | (refine keepD ?_; assumption) | (refine keepKD ?_; assumption) | (refine keepcD ?_; assumption)))
    (first | (go_at_call 37; refine (HBS.out _ (outB (by first | assumption | exact keepD HB2))).mono ?_; rintro e w' ⟨rfl, hb⟩))
  try go_split_ands
  have HB3 : Hid (Below w.heap.size w w') := by assumption
  have BK3 : Hid (w'.heap[w.heap.size]? = some (.cells #[.int .i64 p.f0, .string p.f1] 40 (0, 0))) := by assumption
  have HCL := Lib.hid (clone34.walk ad l.length c rows.flatten w' HFL.out HROWS.out.one (fun j u hu => keepc HB3.out (HRAW.out j u hu)) (by omega))
  go_wp2_with (go_at_call 34; refine HCL.out.mono ?_; rintro e w4 ⟨v1, rfl, hown1, hb4⟩; have HB4 := keepB HB3 hb4; have BK4 := keepK BK3 hb4; have HO1 := Lib.hid hown1; have HS4 := Lib.hid hb4.size; (obtain ⟨g1, cap1, cur1, rfl, q1, q2, q3, q4, q5, q6⟩ : ∃ g1 cap1 cur1, v1 = .slice (some ⟨g1, 0, none⟩) l.length cap1 ∧ w'.heap.size ≤ g1 ∧ w4.heap[g1]? = some (.cells cur1 25 (0, 0)) ∧ l.length ≤ cap1 ∧ cap1 ≤ maxLen ∧ cur1.size = cap1 * 3 ∧ cur1.toList.take (l.length * 3) = rows.flatten := (by rcases hown1.2 with ⟨_, h0⟩ | ⟨g, cap, cur, h1, h2, h3, h4, h5, h6, h7⟩; (omega); (exact ⟨g, cap, cur, h1, h2, h3, h4, h5, h6, h7⟩))); have BG1 := Lib.hid q2; have Q1 := Lib.hid q1; have Q3 := Lib.hid q3; have Q4 := Lib.hid q4; have Q5 := Lib.hid q5; have Q6 := Lib.hid q6; have m2 : w4.cell? ⟨g1, i * 3 + 2, none⟩ = some (.slice A2 l[i].f2.length c2) := (by rw [blk_cell BG1.out, ← Array.getElem?_toList]; have := HFA.out 2 _ (by omega) rfl; rw [← q6, List.getElem?_take, if_pos (by omega)] at this; exact this); have HC39 := Lib.hid (clone39_any (w := w4) (c := c2) (Kd.C_below G4.out HB4.out) (by omega)); clear hown1 hb4 q1 q2 q3 q4 q5 q6)
  go_wp2_with (go_at_call 39; refine HC39.out.mono ?_; rintro e w5 ⟨v2, rfl, hown2, hb5⟩; have HB5 := keepB HB4 hb5; have BK5 := keepK BK4 hb5; have BG5 := keepK BG1 hb5; have m5 := keepc hb5 m2; have z5 := blk_frozen BG5.out (i * 3 + 2); have HO2 := Lib.hid hown2; (obtain ⟨g2, cap2, cur2, rfl, q1, q2, q3, q4, q5, q6⟩ : ∃ g2 cap2 cur2, v2 = .slice (some ⟨g2, 0, none⟩) l[i].f2.length cap2 ∧ w4.heap.size ≤ g2 ∧ w5.heap[g2]? = some (.cells cur2 40 (0, 0)) ∧ l[i].f2.length ≤ cap2 ∧ cap2 ≤ maxLen ∧ cur2.size = cap2 * 2 ∧ cur2.toList.take (l[i].f2.length * 2) = cells40 l[i].f2 := (by rcases hown2.2 with ⟨_, h0⟩ | ⟨g, cap, cur, h1, h2, h3, h4, h5, h6, h7⟩; (omega); (exact ⟨g, cap, cur, h1, h2, h3, h4, h5, h6, h7⟩))); have BG2 := Lib.hid q2; have P1 := Lib.hid q1; have P3 := Lib.hid q3; have P4 := Lib.hid q4; have P5 := Lib.hid q5; have P6 := Lib.hid q6; clear hown2 hb5 q1 q2 q3 q4 q5 q6)
  clear m2 m5 z5 b2 c0 c1
  obtain ⟨v2, hv2⟩ : ∃ v2 : Value, v2 = .slice (some ⟨g2, 0, none⟩) l[i].f2.length cap2 := ⟨_, rfl⟩
  obtain ⟨w6, hw6⟩ : ∃ w6, w6 = w5.setCell ⟨g1, i * 3 + 2, none⟩ (.slice (some ⟨g2, 0, none⟩) l[i].f2.length cap2) := ⟨_, rfl⟩
  rw [← hw6]
  have HV2 := Lib.hid hv2
  rw [← hv2] at hw6
  have HW6 := Lib.hid hw6
  clear hv2 hw6
  have L3 : w.heap.size < w'.heap.size := blk_lt BK3.out
  have L4 : g1 < w4.heap.size := blk_lt BG1.out
  have L5 : g1 < g2 := Nat.lt_of_lt_of_le L4 P1.out
  have L6 : w.heap.size < g1 := Nat.lt_of_lt_of_le L3 Q1.out
  have BG6 : Hid (w6.heap[g1]? = some (.cells (cur1.setIfInBounds (i * 3 + 2) v2) 25 (0, 0))) := by unfold Hid; rw [HW6.out]; exact blk_set BG5.out _ _
  have BG62 : Hid (w6.heap[g2]? = some (.cells cur2 40 (0, 0))) := by unfold Hid; rw [HW6.out]; exact blk_far BG2.out (p := ⟨g1, i * 3 + 2, none⟩) (Nat.ne_of_gt L5) _
  have BK6 : Hid (w6.heap[w.heap.size]? = some (.cells #[.int .i64 p.f0, .string p.f1] 40 (0, 0))) := by unfold Hid; rw [HW6.out]; exact blk_far BK5.out (p := ⟨g1, i * 3 + 2, none⟩) (Nat.ne_of_lt L6) _
  have HB6 : Hid (Below w.heap.size w w6) := by unfold Hid; rw [HW6.out]; exact HB5.out.setCell (p := ⟨g1, i * 3 + 2, none⟩) (Nat.le_of_lt L6) _
  have r2 : w6.cell? ⟨g1, i * 3 + 2, none⟩ = some (.slice (some ⟨g2, 0, none⟩) l[i].f2.length cap2) := by
    rw [blk_cell BG6.out, Array.getElem?_setIfInBounds, if_pos rfl, if_pos (by rw [Q5.out]; have := Q3.out; omega), HV2.out]
  have c0 := (blk_cell BK6.out 0).trans rfl
  have c1 := (blk_cell BK6.out 1).trans rfl
  have P3' := P3.out
  have P5' := P5.out
  obtain ⟨y0, s0⟩ : ∃ y, w6.cell? ⟨g2, k * 2, none⟩ = some y := by rw [blk_cell BG62.out]; exact ⟨_, Array.getElem?_eq_getElem (by omega)⟩
  obtain ⟨y1, s1⟩ : ∃ y, w6.cell? ⟨g2, k * 2 + 1, none⟩ = some y := by rw [blk_cell BG62.out]; exact ⟨_, Array.getElem?_eq_getElem (by omega)⟩
  have f0 := blk_frozen BG62.out (k * 2)
  have f1 := blk_frozen BG62.out (k * 2 + 1)
  clear P3' P5'
  have k0 : (0 : Int) ≤ (k : Int) := by omega
  have k1 : (k : Int) < (l[i].f2.length : Int) := by omega
  go_still_tail 8, (by kernel_rfl)
  change wpList _ _ _ _ _ w6.drew
  go_wp2_with (go_at_call 41; refine (tag_Of.walk p.f1 (by omega) _).mono ?_; rintro e w7 ⟨rfl, hb7⟩; have HB7 := Lib.hid hb7; clear hb7)
  go_ret3
  have hb7 : Below w.heap.size w w7 := ((((HB6.out.setCell (p := ⟨g2, k * 2, none⟩) (by show w.heap.size ≤ g2; omega) (.int .i64 p.f0)).setCell (p := ⟨g2, k * 2 + 1, none⟩) (by show w.heap.size ≤ g2; omega) (.string p.f1)).drew)).trans (HB7.out.mono (((HB6.out.setCell (p := ⟨g2, k * 2, none⟩) (by show w.heap.size ≤ g2; omega) (.int .i64 p.f0)).setCell (p := ⟨g2, k * 2 + 1, none⟩) (by show w.heap.size ≤ g2; omega) (.string p.f1)).drew).size)
  have k7 : w7.heap[g1]? = some (.cells (cur1.setIfInBounds (i * 3 + 2) v2) 25 (0, 0)) :=
    blk_below (blk_drew (blk_far (p := ⟨g2, k * 2 + 1, none⟩) (blk_far (p := ⟨g2, k * 2, none⟩) BG6.out (Nat.ne_of_lt L5) (.int .i64 p.f0)) (Nat.ne_of_lt L5) (.string p.f1))) HB7.out
  have k72 : w7.heap[g2]? = some (.cells ((cur2.setIfInBounds (k * 2) (.int .i64 p.f0)).setIfInBounds (k * 2 + 1) (.string p.f1)) 40 (0, 0)) :=
    blk_below (blk_drew (blk_set (blk_set BG62.out (k * 2) (.int .i64 p.f0)) (k * 2 + 1) (.string p.f1))) HB7.out
  rw [HV2.out] at k7
  rw [HLR2.out]
  refine lay_fin l i hi rows HROWS.out w7 hb7 g1 cap1 cur1 _ _ _ k7 Q6.out Q3.out _ HROW.out (l[i].f2.set k p) ?_ (by simp) (by rw [List.length_set]; exact P3.out) _ hl10
  have := rows_C (rowsOf40 w7 (l[i].f2.set k p)) (ad := ⟨g2, 0, none⟩) (blk_raw k72 (l[i].f2.length * 2) ?_) (by rw [List.length_set]; omega)
  · rw [List.length_set] at this; exact this
  · rw [Array.toList_setIfInBounds, Array.toList_setIfInBounds, List.take_set, List.take_set, P6.out, set40 _ _ _ hlow]; rfl
end Go.Proofs.YtgpmkbmobdbdoaaDoor.Q

-- T22
namespace Go.Proofs.YtgpmkbmobdbdoaaDoor.Q
open Go.RowKit Go.Proofs.YtgpmkbmobdbdoaaDoorW.PrintWords Go.Proofs.YtgpmkbmobdbdoaaDoorW.PrintLast Go.Proofs.YtgpmkbmobdbdoaaDoorW.PrintMore
set_option linter.unusedVariables false
set_option linter.unusedSimpArgs false

theorem own_shape {w : World} {base n sz : Nat} {e : TypeId} {v : Value} {xs : List Value} (ho : w.ownsRow base e sz v n xs) : ∃ A c, v = .slice A n c := by
  rcases ho.2 with ⟨h1, h2⟩ | ⟨g, cap, cur, h1, _⟩
  · exact ⟨none, 0, by rw [h1, h2]⟩
  · exact ⟨_, _, h1⟩
theorem own_heap {w W : World} (h : W.heap = w.heap) {base n sz : Nat} {e : TypeId} {v : Value} {xs : List Value} (ho : w.ownsRow base e sz v n xs) : W.ownsRow base e sz v n xs := by
  unfold World.ownsRow at ho ⊢
  rw [h]; exact ho
set_option maxHeartbeats 8000000 in
set_option maxRecDepth 100000 in
theorem lay_new.walk (ad : Addr) (c : Nat) (l : List S25) (id : Int) (p : S40) (w : World) (hr : Kd.C k25 w (some ad) l.length l) (hc : l.length ≤ c) (i : Nat) (hi : i < l.length)
    (hk : checkB l = true) (hm : mayB p = true) (hp : posU l id = some i) (hth : thereP l[i].f2 p.f0 = false) :
    Calls Tryd.prog 14 #[.slice (some ad) l.length c, .int .u64 id, .agg #[.int .i64 p.f0, .string p.f1]] w (ListPost (layR l id p).1 [.int .u32 (layR l id p).2.1, .int .i64 (layR l id p).2.2] w) := by
  have HB0 : Hid (Below w.heap.size w w) := Below.refl _ _
  obtain ⟨hl10, hfn⟩ := check_fine hk
  obtain ⟨hsort, hl30⟩ := fine_sorted (hfn i hi)
  have hm' := hm
  unfold mayB at hm'
  simp only [Bool.and_eq_true, decide_eq_true_eq] at hm'
  obtain ⟨m0, m1, m2⟩ := hm'
  have HA := Lib.hid (HB0.out.alloc (Nat.le_refl _) (.cells #[.int .i64 p.f0, .string p.f1] 40))
  have HZ := Lib.hid (place.walk (some ad) c l id _ (Kd.C_below hr HA.out) hc)
  have e1 : placeR l id = ((i : Int), 0) := by unfold placeR; rw [if_neg (by simp [hk]), hp]
  rw [e1] at HZ
  have HM := Lib.hid (fun W => may_calls p W)
  rw [hm] at HM
  have HLR : Hid (layR l id p = if thereP l[i].f2 p.f0 = false ∧ l[i].f2.length = 30 then ([], 0, 6) else (l.set i ⟨l[i].f0, l[i].f1, layParts l[i].f2 p⟩, tagOf p.f1, 0)) := by
    unfold Hid layR
    rw [if_neg (by simp [hk, hm]), hp]
    simp [List.getD_eq_getElem?_getD, hi]
  have HLR2 : Hid (layR l id p = if l[i].f2.length = 30 then ([], 0, 6) else (l.set i ⟨l[i].f0, l[i].f1, l[i].f2.take (lowP l[i].f2 p.f0) ++ (p :: l[i].f2.drop (lowP l[i].f2 p.f0))⟩, tagOf p.f1, 0)) := by
    unfold Hid; rw [HLR.out]; unfold layParts; rw [hth]; simp
  have hlow : lowP l[i].f2 p.f0 ≤ l[i].f2.length := List.findIdx_le_length
  clear e1 hk hm hp hfn HLR
  have HR := Lib.hid hr
  have HSORT := Lib.hid hsort
  clear hr hsort
  obtain ⟨rows, hrows, hraw⟩ := C_rows HR.out
  have hri : i < rows.length := by have := hrows.len; omega
  obtain ⟨A2, c2, hrow, g3, g4⟩ := k25_row (hrows.at_ i l[i] rows[i] (List.getElem?_eq_getElem hi) (List.getElem?_eq_getElem hri))
  have hfa : ∀ j v, j < 3 → ([.int .u64 l[i].f0, .string l[i].f1, .slice A2 l[i].f2.length c2] : List Value)[j]? = some v → rows.flatten[i * 3 + j]? = some v := fun j v hj h => by
    rw [flat_at (sz := 3) hrows.lens i j hj, List.getElem?_eq_getElem hri, Option.bind_some, hrow]; exact h
  have g2 := hraw _ _ (hfa 2 _ (by omega) rfl)
  rw [add_field _ _ 2 (by omega)] at g2
  have hfl : rows.flatten.length = l.length * 3 := by rw [flat_len (sz := 3) hrows.lens, hrows.len]
  have HFA := Lib.hid hfa; have HFL := Lib.hid hfl; have HROWS := Lib.hid hrows; have HRAW := Lib.hid hraw; have HROW := Lib.hid hrow
  have G2 := Lib.hid g2; have G3 := Lib.hid g3; have G4 := Lib.hid g4
  clear g2 g3 g4 hfa hfl hrows hraw hrow
  have HBS := Lib.hid (fun (W : World) (h : Below w.heap.size w W) => bsearch.walk A2 c2 l[i].f2 p.f0 W (Kd.C_below G4.out h) HSORT.out (by omega) m0 m1)
  simp only [hth] at HBS
  clear hth
  generalize hkk : lowP l[i].f2 p.f0 = k at *
  clear hkk
  go_enter Tryd.func14, Tryd.ntmps14
  go_wp2_with (first | (go_at_call 35; refine HZ.out.mono ?_; rintro e w1 ⟨rfl, hb⟩; have hk1 := blk_below (blk_new w _) hb; have c0 := (blk_cell hk1 0).trans rfl; have c1 := (blk_cell hk1 1).trans rfl; have BK1 := Lib.hid hk1; have HB1 := keepB HA hb; clear hb hk1) | (go_at_call 36; refine (HM.out _).mono ?_; rintro e w2 ⟨rfl, hb⟩; have BK2 := Lib.hid (blk_below BK1.out hb); have HB2 := keepB HB1 hb; clear hb))
  clear c0 c1
  have c0 := (blk_cell BK2.out 0).trans rfl
  have c1 := (blk_cell BK2.out 1).trans rfl
  have b2 := keepc HB2.out G2.out
  have i0 : (0 : Int) ≤ (i : Int) := by omega
  have i1 : (i : Int) < (l.length : Int) := by omega
  go_region_held3 (fun W => W.cell? ⟨w.heap.size, 0, none⟩ = some (.int .i64 p.f0) ∧ W.cell? ⟨(ad.add (i * 3)).block, (ad.add (i * 3)).off + 2, none⟩ = some (.slice A2 l[i].f2.length c2) ∧ Hid (Below w.heap.size w W) ∧ Hid (W.heap[w.heap.size]? = some (.cells #[.int .i64 p.f0, .string p.f1] 40 (0, 0))))
    (((try go_split_ands); refine ⟨?_, ?_, ?_, ?_⟩ <;> first | assumption | (refine keepc hb ?_; assumption) | (refine keepB ?_ hb; assumption) | (refine keepK ?_ hb; assumption) | (refine keepD ?_; assumption) | (refine keepKD ?_; assumption) | (refine keepcD ?_; assumption)))
    (first | (go_at_call 37; refine (HBS.out _ (outB (by first | assumption | exact keepD HB2))).mono ?_; rintro e w' ⟨rfl, hb⟩))
  try go_split_ands
  have HB3 : Hid (Below w.heap.size w w') := by assumption
  have BK3 : Hid (w'.heap[w.heap.size]? = some (.cells #[.int .i64 p.f0, .string p.f1] 40 (0, 0))) := by assumption
  have HCL := Lib.hid (clone34.walk ad l.length c rows.flatten w' HFL.out HROWS.out.one (fun j u hu => keepc HB3.out (HRAW.out j u hu)) (by omega))
  go_wp2_with (go_at_call 34; refine HCL.out.mono ?_; rintro e w4 ⟨v1, rfl, hown1, hb4⟩; have HB4 := keepB HB3 hb4; have BK4 := keepK BK3 hb4; have HO1 := Lib.hid hown1; have HS4 := Lib.hid hb4.size; (obtain ⟨g1, cap1, cur1, rfl, q1, q2, q3, q4, q5, q6⟩ : ∃ g1 cap1 cur1, v1 = .slice (some ⟨g1, 0, none⟩) l.length cap1 ∧ w'.heap.size ≤ g1 ∧ w4.heap[g1]? = some (.cells cur1 25 (0, 0)) ∧ l.length ≤ cap1 ∧ cap1 ≤ maxLen ∧ cur1.size = cap1 * 3 ∧ cur1.toList.take (l.length * 3) = rows.flatten := (by rcases hown1.2 with ⟨_, h0⟩ | ⟨g, cap, cur, h1, h2, h3, h4, h5, h6, h7⟩; (omega); (exact ⟨g, cap, cur, h1, h2, h3, h4, h5, h6, h7⟩))); have BG1 := Lib.hid q2; have Q1 := Lib.hid q1; have Q3 := Lib.hid q3; have Q4 := Lib.hid q4; have Q5 := Lib.hid q5; have Q6 := Lib.hid q6; have m2 : w4.cell? ⟨g1, i * 3 + 2, none⟩ = some (.slice A2 l[i].f2.length c2) := (by rw [blk_cell BG1.out, ← Array.getElem?_toList]; have := HFA.out 2 _ (by omega) rfl; rw [← q6, List.getElem?_take, if_pos (by omega)] at this; exact this); have HC39 := Lib.hid (clone39_any (w := w4) (c := c2) (Kd.C_below G4.out HB4.out) (by omega)); clear hown1 hb4 q1 q2 q3 q4 q5 q6)
  have hsplit : l[i].f2.length = 30 ∨ l[i].f2.length ≠ 30 := by omega
  rcases hsplit with h30 | h30
  · have d30 : ((l[i].f2.length : Int) == 30) = true := beq_iff_eq.2 (by omega)
    rw [if_pos h30] at HLR2
    clear h30
    go_wp2_with (go_at_call 39; refine HC39.out.mono ?_; rintro e w5 ⟨v2, rfl, hown2, hb5⟩; (obtain ⟨A', cap2, rfl, _, _⟩ := own40 hown2); have HB5 := keepB HB4 hb5; have BK5 := keepK BK4 hb5; have BG5 := keepK BG1 hb5; have m5 := keepc hb5 m2; have z5 := blk_frozen BG5.out (i * 3 + 2); clear hown2 hb5)
    go_ret3
    rw [HLR2.out]
    exact ⟨none, 0, rfl, Nat.le_refl _, Kd.C_nil _ _, HB5.out.setCell (p := ⟨g1, i * 3 + 2, none⟩) (by have := blk_lt BK3.out; have := Q1.out; show w.heap.size ≤ g1; omega) _⟩
  · have d30 : ((l[i].f2.length : Int) == 30) = false := beq_eq_false_iff_ne.2 (by omega)
    rw [if_neg h30] at HLR2
    clear h30
    go_wp2_with (go_at_call 39; refine HC39.out.mono ?_; rintro e w5 ⟨v2, rfl, hown2, hb5⟩; have HO2 := Lib.hid hown2; (obtain ⟨A', cap2, rfl, _, _⟩ := own40 hown2); have HB5 := keepB HB4 hb5; have BK5 := keepK BK4 hb5; have BG5 := keepK BG1 hb5; have m5 := keepc hb5 m2; have z5 := blk_frozen BG5.out (i * 3 + 2); have HS45 := Lib.hid hb5.size; clear hown2 hb5)
    clear m2 m5 z5 b2 c0 c1
    obtain ⟨v2, hv2⟩ : ∃ v2 : Value, v2 = .slice A' l[i].f2.length cap2 := ⟨_, rfl⟩
    obtain ⟨w6, hw6⟩ : ∃ w6, w6 = w5.setCell ⟨g1, i * 3 + 2, none⟩ (.slice A' l[i].f2.length cap2) := ⟨_, rfl⟩
    rw [← hw6]
    have HV2 := Lib.hid hv2
    have HO2' := HO2.out
    rw [← hv2] at hw6 HO2'
    have HW6 := Lib.hid hw6
    have HO5 := Lib.hid HO2'
    clear hv2 hw6 HO2' HO2
    have L3 : w.heap.size < w'.heap.size := blk_lt BK3.out
    have L4 : g1 < w4.heap.size := blk_lt BG1.out
    have L6 : w.heap.size < g1 := Nat.lt_of_lt_of_le L3 Q1.out
    have BG6 : Hid (w6.heap[g1]? = some (.cells (cur1.setIfInBounds (i * 3 + 2) v2) 25 (0, 0))) := by unfold Hid; rw [HW6.out]; exact blk_set BG5.out _ _
    have BK6 : Hid (w6.heap[w.heap.size]? = some (.cells #[.int .i64 p.f0, .string p.f1] 40 (0, 0))) := by unfold Hid; rw [HW6.out]; exact blk_far BK5.out (p := ⟨g1, i * 3 + 2, none⟩) (Nat.ne_of_lt L6) _
    have HB6 : Hid (Below w.heap.size w w6) := by unfold Hid; rw [HW6.out]; exact HB5.out.setCell (p := ⟨g1, i * 3 + 2, none⟩) (Nat.le_of_lt L6) _
    have HO6 : Hid (w6.ownsRow w4.heap.size 40 2 v2 l[i].f2.length (cells40 l[i].f2)) := by
      unfold Hid; rw [HW6.out]
      exact own_move HO5.out (fun q hq => Below.heap_setCell _ _ _ _ (fun e => own_ne HO5.out BG5.out (by decide) (by rw [hq, e])))
    have N1 := Lib.hid (own_ne HO6.out BG6.out (by decide))
    have N2 : Hid (some w.heap.size ≠ v2.ownBlock) := fun e => by have := own_base HO6.out _ e.symm; omega
    have S6 : w4.heap.size ≤ w6.heap.size := by
      have h2 := HS45.out
      have h3 : w6.heap.size = w5.heap.size := by rw [HW6.out]; simp [World.setCell]
      omega
    have r2 : w6.cell? ⟨g1, i * 3 + 2, none⟩ = some (.slice A' l[i].f2.length cap2) := by
      rw [blk_cell BG6.out, Array.getElem?_setIfInBounds, if_pos rfl, if_pos (by rw [Q5.out]; have := Q3.out; omega), HV2.out]
    have HC6 : Hid ((cur1.setIfInBounds (i * 3 + 2) v2)[i * 3 + 2]? = some v2) := by
      unfold Hid; rw [Array.getElem?_setIfInBounds, if_pos rfl, if_pos (by rw [Q5.out]; have := Q3.out; omega)]
    have c0 := (blk_cell BK6.out 0).trans rfl
    have c1 := (blk_cell BK6.out 1).trans rfl
    have nn1 := World.new_ne w6 _ r2
    have nn2 : g1 < w6.heap.size := blk_lt BG6.out
    have HIN : Hid (∀ W : World, W.heap = (w6.alloc (.cells #[.int .i64 p.f0, .string p.f1] 40)).heap → Calls Tryd.prog 40 #[.slice A' l[i].f2.length cap2, .int .i64 k, .slice (some ⟨w6.heap.size, 0, none⟩) 1 1] W (InsPost w4.heap.size l[i].f2.length k v2 (cells40 l[i].f2) (cell40 p) W)) := by
      intro W hW
      have ho : W.ownsRow w4.heap.size 40 2 v2 l[i].f2.length (cells40 l[i].f2) := own_heap hW (HO6.out.alloc _)
      have hbv : W.heap[w6.heap.size]? = some (.cells #[.int .i64 p.f0, .string p.f1] 40 (0, 0)) := by rw [hW]; exact blk_new _ _
      have := insert.walk w4.heap.size l[i].f2.length k v2 (cells40 l[i].f2) w6.heap.size p.f0 p.f1 W ho (by rw [hW]; simp; omega) hlow (by omega) (cells40_one _) hbv (fun e => by
        obtain ⟨cells, hc⟩ := own_typed HO6.out _ e
        exact absurd (blk_lt hc) (Nat.lt_irrefl _))
      rw [HV2.out] at this ⊢
      exact this
    go_region_with (first | (go_at_call 40; refine (HIN.out _ (by exact rfl)).mono ?_; rintro e w8 ⟨v3, rfl, ho8, hg8⟩; have BG8 := Lib.hid (blk_grown (blk_drew (blk_alloc BG6.out _)) hg8 N1.out); have BK8 := Lib.hid (blk_grown (blk_drew (blk_alloc BK6.out _)) hg8 N2.out); have m8 := (blk_cell BG8.out (i * 3 + 2)).trans HC6.out; have z8 := blk_frozen BG8.out (i * 3 + 2); (obtain ⟨A3, c3, rfl⟩ := own_shape ho8); have HO8 := Lib.hid ho8; have HG8 := Lib.hid hg8; clear ho8 hg8))
    all_goals
      have c8 : w8.cell? ⟨w.heap.size, 1, none⟩ = some (.string p.f1) := (blk_cell BK8.out 1).trans rfl
      have L6' : ¬ g1 = w.heap.size := by omega
      have L6'' : ¬ w.heap.size = g1 := by omega
      clear c0 c1 r2 nn1
      go_wp2_with (go_at_call 41; refine (tag_Of.walk p.f1 (by omega) _).mono ?_; rintro e w9 ⟨rfl, hb9⟩; have HB9 := Lib.hid hb9; clear hb9)
      go_ret3
      have hb8 : Below w.heap.size w w8 := ((HB6.out.alloc HB6.out.size (.cells #[.int .i64 p.f0, .string p.f1] 40)).drew).grown HG8.out (by have := HB6.out.size; simp; omega) (fun q hq => by have := own_base HO6.out q hq; omega)
      have hb9 : Below w.heap.size w w9 := (hb8.setCell (p := ⟨g1, i * 3 + 2, none⟩) (Nat.le_of_lt L6) (.slice A3 (l[i].f2.length + 1) c3)).trans (HB9.out.mono (hb8.setCell (p := ⟨g1, i * 3 + 2, none⟩) (Nat.le_of_lt L6) (.slice A3 (l[i].f2.length + 1) c3)).size)
      have kg9 := blk_below (blk_set BG8.out (i * 3 + 2) (.slice A3 (l[i].f2.length + 1) c3)) HB9.out
      rw [Array.setIfInBounds_setIfInBounds] at kg9
      have ho9 : w9.ownsRow w4.heap.size 40 2 (.slice A3 (l[i].f2.length + 1) c3) (l[i].f2.take k ++ (p :: l[i].f2.drop k)).length (cells40 (l[i].f2.take k ++ (p :: l[i].f2.drop k))) := by
        rw [← insAt40, List.length_append, List.length_take, List.length_cons, List.length_drop, show min k l[i].f2.length + (l[i].f2.length - k + 1) = l[i].f2.length + 1 by omega]
        exact pw_own_below (own_move HO8.out (fun q hq => Below.heap_setCell _ _ _ _ (fun e => own_ne HO8.out BG8.out (by decide) (by rw [hq, e])))) HB9.out
      obtain ⟨A4, c4, e4, hle, hC⟩ := own40 ho9
      injection e4 with e5 e6 e7
      subst e5 e7
      rw [HLR2.out]
      exact lay_fin l i hi rows HROWS.out w9 hb9 g1 cap1 cur1 _ _ _ kg9 Q6.out Q3.out _ HROW.out (l[i].f2.take k ++ (p :: l[i].f2.drop k)) (by rw [e6]; exact hC) e6 hle _ hl10
end Go.Proofs.YtgpmkbmobdbdoaaDoor.Q

-- T23
namespace Go.Proofs.YtgpmkbmobdbdoaaDoor.Q
open Go.RowKit Go.Proofs.YtgpmkbmobdbdoaaDoorW.PrintWords Go.Proofs.YtgpmkbmobdbdoaaDoorW.PrintLast Go.Proofs.YtgpmkbmobdbdoaaDoorW.PrintMore
set_option linter.unusedVariables false
set_option linter.unusedSimpArgs false

theorem some_of_lt {w : World} {A : Option Addr} {l : List S25} (hr : Kd.C k25 w A l.length l) (h : 0 < l.length) : ∃ ad, A = some ad := by
  obtain ⟨ad, e, _⟩ := hr.2.2 h; exact ⟨ad, e⟩
theorem lay.walk (A : Option Addr) (c : Nat) (l : List S25) (id : Int) (p : S40) (w : World) (hr : Kd.C k25 w A l.length l) (hc : l.length ≤ c) :
    Calls Tryd.prog 14 #[.slice A l.length c, .int .u64 id, .agg #[.int .i64 p.f0, .string p.f1]] w (ListPost (layR l id p).1 [.int .u32 (layR l id p).2.1, .int .i64 (layR l id p).2.2] w) := by
  cases hk : checkB l
  · have e : layR l id p = ([], 0, 1) := by unfold layR; rw [if_pos (Or.inl hk)]
    rw [e]
    exact lay_err.walk A c l id p w hr hc 1 (Or.inl rfl) (Or.inl ⟨hk, rfl⟩)
  · cases hm : mayB p
    · have e : layR l id p = ([], 0, 1) := by unfold layR; rw [if_pos (Or.inr hm)]
      rw [e]
      exact lay_err.walk A c l id p w hr hc 1 (Or.inl rfl) (Or.inr (Or.inl ⟨hk, hm, rfl⟩))
    · cases hp : posU l id with
      | none =>
        have e : layR l id p = ([], 0, 4) := by unfold layR; rw [if_neg (by simp [hk, hm]), hp]
        rw [e]
        exact lay_err.walk A c l id p w hr hc 4 (Or.inr rfl) (Or.inr (Or.inr ⟨hk, hm, hp, rfl⟩))
      | some i =>
        obtain ⟨hi, _⟩ := posU_lt hp
        obtain ⟨ad, rfl⟩ := some_of_lt hr (by omega)
        cases hth : thereP l[i].f2 p.f0
        · exact lay_new.walk ad c l id p w hr hc i hi hk hm hp hth
        · exact lay_there.walk ad c l id p w hr hc i hi hk hm hp hth
theorem clone34_any {w : World} {A : Option Addr} {c : Nat} {l : List S25} (hr : Kd.C k25 w A l.length l) (hn : l.length ≤ 1000000) :
    Calls Tryd.prog 34 #[.slice A l.length c] w fun e w' => ∃ v rows, e = .returned v ∧ RowsOf k25 w l rows ∧ w'.ownsRow w.heap.size 25 3 v l.length rows.flatten ∧ Below w.heap.size w w' := by
  cases A with
  | none =>
    have h0 : l.length = 0 := by
      rcases Nat.eq_zero_or_pos l.length with h | h
      · exact h
      · obtain ⟨ad, e, _⟩ := hr.2.2 h; cases e
    have : l = [] := List.length_eq_zero_iff.1 h0
    subst this
    refine (clone34_nil 0 c w).mono ?_
    rintro e w' ⟨rfl, hb⟩
    exact ⟨_, [], rfl, RowsOf.nil_, own_nil _ _ _ _, hb⟩
  | some ad =>
    obtain ⟨rows, h1, h2⟩ := C_rows hr
    refine (clone34.walk ad l.length c rows.flatten w (by rw [flat_len (sz := 3) h1.lens, h1.len]) h1.one h2 hn).mono ?_
    rintro e w' ⟨v, rfl, ho, hb⟩
    exact ⟨v, rows, rfl, h1, ho, hb⟩
def lastB (l : List S25) (id : Int) : Bool := decide (0 < l.length) && decide (id ≤ (l.getD (l.length - 1) z25).f0)
def beginR (l : List S25) (id : Int) (key : ByteArray) : List S25 × Int :=
  if checkB l = false ∨ numB id = false ∨ keyB key = false then ([], 1)
  else if lastB l id = true then ([], 9)
  else if l.length = 10 then ([], 6)
  else (l ++ [⟨id, key, []⟩], 0)
theorem num_calls (i : Int) (w : World) : Calls Tryd.prog 32 #[.int .u64 i] w fun e w' => e = .returned (.bool (numB i)) ∧ Drawn0 w w' := parts_numbered.calls i _ w (num_of i)
theorem key_calls (s : ByteArray) (w : World) : Calls Tryd.prog 33 #[.string s] w fun e w' => e = .returned (.bool (keyB s)) ∧ Below w.heap.size w w' := name_Key.calls s _ w rfl
theorem outD {w w' : World} (h : Drawn0 w w') : Below w.heap.size w w' := by
  obtain ⟨n, rfl⟩ := h.out
  exact below_drewN _ _ _
theorem begin_fin {w w0 W : World} (l : List S25) (id : Int) (key : ByteArray) (rows : List (List Value)) (hrows : RowsOf k25 w0 l rows) (hb0 : Below w0.heap.size w0 W) (hb : Below w.heap.size w W) (base g cap : Nat)
    (ho : W.ownsRow base 25 3 (.slice (some ⟨g, 0, none⟩) (l.length + 1) cap) (l.length + 1) (rows.flatten ++ [.int .u64 id, .string key, .slice none 0 0])) (hl : l.length ≤ 10) :
    ListPost (l ++ [⟨id, key, []⟩]) [.int .i64 0] w (.returned (.tuple #[.slice (some ⟨g, 0, none⟩) (l.length + 1) cap, .int .i64 0])) W := by
  refine ⟨some ⟨g, 0, none⟩, cap, by simp, ?_, ?_, hb⟩
  · rcases ho.2 with ⟨h, _⟩ | ⟨g', cap', cur, hv, _, _, hn, _⟩
    · cases h
    · injection hv with _ _ e; subst e; simpa using hn
  · have h1 := (hrows.below hb0).append (RowsOf.one_ (⟨id, key, []⟩ : S25) [.int .u64 id, .string key, .slice none 0 0] (k25_mk W ⟨id, key, []⟩ (Nat.le_refl _) (Kd.C_nil _ _)))
    refine rows_C h1 ?_ (by simp; omega)
    have := own_raw ho
    rwa [List.flatten_append, List.flatten_cons, List.flatten_nil, List.append_nil]
set_option maxHeartbeats 8000000 in
set_option maxRecDepth 100000 in
theorem begin_ok.walk (A : Option Addr) (c : Nat) (l : List S25) (id : Int) (key : ByteArray) (w : World) (hr : Kd.C k25 w A l.length l) (hc : l.length ≤ c) (hc1 : checkB l = true) (hn1 : numB id = true) (hk1 : keyB key = true) (hla : lastB l id = false) :
    Calls Tryd.prog 12 #[.slice A l.length c, .int .u64 id, .string key] w (ListPost (if l.length = 10 then [] else l ++ [⟨id, key, []⟩]) [.int .i64 (if l.length = 10 then 6 else 0)] w) := by
  have HB0 : Hid (Below w.heap.size w w) := Below.refl _ _
  have HK := Lib.hid (check_calls hr hc)
  have HN := Lib.hid (fun W => num_calls id W)
  have HY := Lib.hid (fun W => key_calls key W)
  have FIN : Hid (∀ e w', Below w.heap.size w w' → ListPost [] [.int .i64 e] w (.returned (.tuple #[.slice none 0 0, .int .i64 e])) w') := fun e w' hb => ⟨none, 0, rfl, Nat.le_refl _, Kd.C_nil _ _, hb⟩
  have hl10 := (check_fine hc1).1
  rw [hc1] at HK; simp only [hn1] at HN; simp only [hk1] at HY
  have f2 : errOf true = 0 := rfl
  rw [f2] at HK
  have HCL : Hid (∀ W, Below w.heap.size w W → Calls Tryd.prog 34 #[.slice A l.length c] W fun e w' => ∃ v rows, e = .returned v ∧ RowsOf k25 W l rows ∧ w'.ownsRow W.heap.size 25 3 v l.length rows.flatten ∧ Below W.heap.size W w') := fun W hb => clone34_any (Kd.C_below hr hb) (by omega)
  obtain ⟨i0, hi, hy0, hy1, hy2⟩ := info_parts info25
  clear hc1 hn1 hk1 f2
  unfold lastB at hla
  simp only [Bool.and_eq_false_iff, decide_eq_false_iff_not] at hla
  by_cases h0 : 0 < l.length
  · obtain ⟨k, hk⟩ : ∃ k, l.length = k + 1 := ⟨l.length - 1, by omega⟩
    have hgd : l.getD (l.length - 1) z25 = l[k]'(by omega) := by rw [List.getD_eq_getElem?_getD, show l.length - 1 = k by omega, List.getElem?_eq_getElem (by omega)]; rfl
    rw [hgd] at hla
    obtain ⟨ad, rfl⟩ := some_of_lt hr h0
    have HAT : Hid (∀ W, Below w.heap.size w W → W.cell? (ad.add (k * 3)) = some (.int .u64 (l[k]'(by omega)).f0)) := fun W hb => by
      obtain ⟨ad', _, _, e, h0, _⟩ := at25 hr hb k (by omega)
      injection e with e; subst e; exact h0
    generalize (l[k]'(by omega)).f0 = x at *
    clear hgd
    have HR := Lib.hid hr
    clear hr
    have q1 : IntKind.i64.wrap ((l.length : Int) - 1) = (k : Int) := by rw [IntKind.wrap_i64]; omega
    have q3 : (0 : Int) ≤ (k : Int) := by omega
    have q4 : (k : Int) < (l.length : Int) := by omega
    have d1 : decide ((0 : Int) < (l.length : Int)) = true := by simp; omega
    have d2 : decide (id ≤ x) = false := by simp; omega
    have HK1 := Lib.hid hk
    by_cases h10 : l.length = 10
    · have d3 : ((l.length : Int) == 10) = true := beq_iff_eq.2 (by omega)
      rw [if_pos h10, if_pos h10]
      clear hk hla h0 h10
      go_enter Tryd.func12, Tryd.ntmps12
      go_wp2_with (first | (go_at_call 18; refine HK.out.mono ?_; rintro e w1 ⟨rfl, hb⟩; have HB1 := keepB HB0 hb; clear hb) | (go_at_call 32; refine (HN.out _).mono ?_; rintro e w2 ⟨rfl, hb⟩; have HB2 := keepB HB1 (outD hb); clear hb) | (go_at_call 33; refine (HY.out _).mono ?_; rintro e w3 ⟨rfl, hb⟩; have HB3 := keepB HB2 hb; have c0 := HAT.out _ HB3.out; clear hb))
      go_ret2
      exact FIN.out _ _ HB3.out
    · have d3 : ((l.length : Int) == 10) = false := beq_eq_false_iff_ne.2 (by omega)
      rw [if_neg h10, if_neg h10]
      clear hk hla h0 h10
      go_enter Tryd.func12, Tryd.ntmps12
      go_wp2_with (first | (go_at_call 18; refine HK.out.mono ?_; rintro e w1 ⟨rfl, hb⟩; have HB1 := keepB HB0 hb; clear hb) | (go_at_call 32; refine (HN.out _).mono ?_; rintro e w2 ⟨rfl, hb⟩; have HB2 := keepB HB1 (outD hb); clear hb) | (go_at_call 33; refine (HY.out _).mono ?_; rintro e w3 ⟨rfl, hb⟩; have HB3 := keepB HB2 hb; have c0 := HAT.out _ HB3.out; clear hb) | (go_at_call 34; refine (HCL.out _ (outB HB3)).mono ?_; rintro e w4 ⟨v1, rows, rfl, hrows, hown, hb4⟩; have HROWS := Lib.hid hrows; have HX4 := Lib.hid hb4; have HO4 := Lib.hid hown; have HS4 := Lib.hid hb4.size; clear hrows hown hb4) | (at_builtin; refine wpList_append_lies _ rfl _ _ 27 rfl w3.heap.size 25 i0 (.agg #[(.int .u64 0), (.string ⟨#[]⟩), (.slice none 0 0)]) 3 48 Tryd.underlying27 hi hy0 hy1 hy2 rfl (by decide) _ _ _ rfl (HO4.out.alloc _) ⟨w4.heap.size, 0, none⟩ 1 1 [.int .u64 id, .string key, .slice none 0 0] rfl rfl ?c1 ?c2 (by decide) ?c3 ?c4 ?c5 _ rfl ?_))
      case c1 => exact World.news_of_block (blk_new w4 _)
      case c2 => exact (by intro u hu; simp at hu; rcases hu with rfl | rfl | rfl <;> rfl)
      case c3 => unfold maxLen; omega
      case c4 => omega
      case c5 => have := HS4.out; simp; omega
      intro g cap w5 hown' hgrow _ _
      have HX5 := Lib.hid ((HX4.out.alloc HX4.out.size (.cells #[.int .u64 id, .string key, .slice none 0 0] 25)).grown hgrow (by have := HX4.out.size; simp; omega) (fun q hq => own_base HO4.out q hq))
      have HO5 := Lib.hid hown'
      clear hown' hgrow
      go_wp2
      go_ret2
      exact begin_fin l id key rows HROWS.out HX5.out (keepB HB3 HX5.out).out _ g cap HO5.out hl10
  · obtain rfl : l = [] := List.length_eq_zero_iff.1 (by omega)
    have HR := Lib.hid hr
    rw [if_neg (by decide), if_neg (by decide)]
    clear hla h0 hr
    simp only [List.length_nil] at *
    go_enter Tryd.func12, Tryd.ntmps12
    go_wp2_with (first | (go_at_call 18; refine HK.out.mono ?_; rintro e w1 ⟨rfl, hb⟩; have HB1 := keepB HB0 hb; clear hb) | (go_at_call 32; refine (HN.out _).mono ?_; rintro e w2 ⟨rfl, hb⟩; have HB2 := keepB HB1 (outD hb); clear hb) | (go_at_call 33; refine (HY.out _).mono ?_; rintro e w3 ⟨rfl, hb⟩; have HB3 := keepB HB2 hb;  clear hb) | (go_at_call 34; refine (HCL.out _ (outB HB3)).mono ?_; rintro e w4 ⟨v1, rows, rfl, hrows, hown, hb4⟩; have HROWS := Lib.hid hrows; have HX4 := Lib.hid hb4; have HO4 := Lib.hid hown; have HS4 := Lib.hid hb4.size; clear hrows hown hb4) | (at_builtin; refine wpList_append_lies _ rfl _ _ 27 rfl w3.heap.size 25 i0 (.agg #[(.int .u64 0), (.string ⟨#[]⟩), (.slice none 0 0)]) 3 48 Tryd.underlying27 hi hy0 hy1 hy2 rfl (by decide) _ _ _ rfl (HO4.out.alloc _) ⟨w4.heap.size, 0, none⟩ 1 1 [.int .u64 id, .string key, .slice none 0 0] rfl rfl ?c1 ?c2 (by decide) ?c3 ?c4 ?c5 _ rfl ?_))
    case c1 => exact World.news_of_block (blk_new w4 _)
    case c2 => exact (by intro u hu; simp at hu; rcases hu with rfl | rfl | rfl <;> rfl)
    case c3 => unfold maxLen; omega
    case c4 => omega
    case c5 => have := HS4.out; simp; omega
    intro g cap w5 hown' hgrow _ _
    have HX5 := Lib.hid ((HX4.out.alloc HX4.out.size (.cells #[.int .u64 id, .string key, .slice none 0 0] 25)).grown hgrow (by have := HX4.out.size; simp; omega) (fun q hq => own_base HO4.out q hq))
    have HO5 := Lib.hid hown'
    clear hown' hgrow
    go_wp2
    go_ret2
    exact begin_fin [] id key rows HROWS.out HX5.out (keepB HB3 HX5.out).out _ g cap HO5.out (by decide)
set_option maxHeartbeats 8000000 in
set_option maxRecDepth 100000 in
theorem begin.walk (A : Option Addr) (c : Nat) (l : List S25) (id : Int) (key : ByteArray) (w : World) (hr : Kd.C k25 w A l.length l) (hc : l.length ≤ c) :
    Calls Tryd.prog 12 #[.slice A l.length c, .int .u64 id, .string key] w (ListPost (beginR l id key).1 [.int .i64 (beginR l id key).2] w) := by
  have HB0 : Hid (Below w.heap.size w w) := Below.refl _ _
  have HK := Lib.hid (check_calls hr hc)
  have HN := Lib.hid (fun W => num_calls id W)
  have HY := Lib.hid (fun W => key_calls key W)
  have FIN : Hid (∀ e w', Below w.heap.size w w' → ListPost [] [.int .i64 e] w (.returned (.tuple #[.slice none 0 0, .int .i64 e])) w') := fun e w' hb => ⟨none, 0, rfl, Nat.le_refl _, Kd.C_nil _ _, hb⟩
  by_cases hbad : checkB l = false ∨ numB id = false ∨ keyB key = false
  · have e : beginR l id key = ([], 1) := by unfold beginR; rw [if_pos hbad]
    rw [e]
    clear e
    cases h1 : checkB l <;> cases h2 : numB id <;> cases h3 : keyB key
    all_goals first
      | (exfalso; simp [h1, h2, h3] at hbad; done)
      | skip
    all_goals
      rw [h1] at HK
      simp only [h2] at HN
      simp only [h3] at HY
      have f1 : errOf false = 1 := rfl
      have f2 : errOf true = 0 := rfl
      first | rw [f1] at HK | rw [f2] at HK
      clear hbad h1 h2 h3 f1 f2
      go_enter Tryd.func12, Tryd.ntmps12
      go_wp2_with (first | (go_at_call 18; refine HK.out.mono ?_; rintro e w1 ⟨rfl, hb⟩; have HB1 := keepB HB0 hb; clear hb) | (go_at_call 32; refine (HN.out _).mono ?_; rintro e w2 ⟨rfl, hb⟩; have HB1 := keepB HB1 (outD hb); clear hb) | (go_at_call 33; refine (HY.out _).mono ?_; rintro e w3 ⟨rfl, hb⟩; have HB1 := keepB HB1 hb; clear hb))
      go_ret2
      exact FIN.out _ _ HB1.out
  · have hc1 : checkB l = true := by cases h : checkB l <;> simp_all
    have hn1 : numB id = true := by cases h : numB id <;> simp_all
    have hk1 : keyB key = true := by cases h : keyB key <;> simp_all
    rw [hc1] at HK; simp only [hn1] at HN; simp only [hk1] at HY
    have f2 : errOf true = 0 := rfl
    rw [f2] at HK
    have hl10 := (check_fine hc1).1
    have E : Hid (beginR l id key = if lastB l id = true then ([], 9) else if l.length = 10 then ([], 6) else (l ++ [⟨id, key, []⟩], 0)) := by unfold Hid beginR; rw [if_neg hbad]
    have CHK := hc1; have NUMB := hn1; have KEYB := hk1
    clear hbad hc1 hn1 hk1 f2
    cases hla : lastB l id
    · rw [if_neg (by simp [hla])] at E
      rw [E.out]
      have := begin_ok.walk A c l id key w hr hc CHK NUMB KEYB hla
      by_cases h10 : l.length = 10
      · rw [if_pos h10]; rwa [if_pos h10, if_pos h10] at this
      · rw [if_neg h10]; rwa [if_neg h10, if_neg h10] at this
    · rw [if_pos hla] at E
      unfold lastB at hla
      simp only [Bool.and_eq_true, decide_eq_true_eq] at hla
      obtain ⟨h0, hle⟩ := hla
      obtain ⟨k, hk⟩ : ∃ k, l.length = k + 1 := ⟨l.length - 1, by omega⟩
      have hgd : l.getD (l.length - 1) z25 = l[k]'(by omega) := by rw [List.getD_eq_getElem?_getD, show l.length - 1 = k by omega, List.getElem?_eq_getElem (by omega)]; rfl
      rw [hgd] at hle
      obtain ⟨ad, rfl⟩ := some_of_lt hr h0
      have HAT : Hid (∀ W, Below w.heap.size w W → W.cell? (ad.add (k * 3)) = some (.int .u64 (l[k]'(by omega)).f0)) := fun W hb => by
        obtain ⟨ad', _, _, e, h0, _⟩ := at25 hr hb k (by omega)
        injection e with e; subst e; exact h0
      generalize (l[k]'(by omega)).f0 = x at *
      clear CHK NUMB KEYB
      clear hr hgd
      have q1 : IntKind.i64.wrap ((l.length : Int) - 1) = (k : Int) := by rw [IntKind.wrap_i64]; omega
      have q3 : (0 : Int) ≤ (k : Int) := by omega
      have q4 : (k : Int) < (l.length : Int) := by omega
      have d1 : decide ((0 : Int) < (l.length : Int)) = true := by simp; omega
      have d2 : decide (id ≤ x) = true := by simp; omega
      have HK1 := Lib.hid hk
      have HLE := Lib.hid hle
      clear hk hle h0
      go_enter Tryd.func12, Tryd.ntmps12
      go_wp2_with (first | (go_at_call 18; refine HK.out.mono ?_; rintro e w1 ⟨rfl, hb⟩; have HB1 := keepB HB0 hb; clear hb) | (go_at_call 32; refine (HN.out _).mono ?_; rintro e w2 ⟨rfl, hb⟩; have HB2 := keepB HB1 (outD hb); clear hb) | (go_at_call 33; refine (HY.out _).mono ?_; rintro e w3 ⟨rfl, hb⟩; have HB3 := keepB HB2 hb; have c0 := HAT.out _ HB3.out; clear hb))
      go_ret2
      rw [E.out]
      exact FIN.out _ _ HB3.out
end Go.Proofs.YtgpmkbmobdbdoaaDoor.Q

-- T24
namespace Go.Proofs.YtgpmkbmobdbdoaaDoor.Q
open Go.RowKit Go.Proofs.YtgpmkbmobdbdoaaDoorW.PrintWords Go.Proofs.YtgpmkbmobdbdoaaDoorW.PrintLast Go.Proofs.YtgpmkbmobdbdoaaDoorW.PrintMore
set_option linter.unusedVariables false
set_option linter.unusedSimpArgs false

def sK : ByteArray := ⟨#[107]⟩
def sHello : ByteArray := ⟨#[104, 101, 108, 108, 111]⟩
def sWorld : ByteArray := ⟨#[119, 111, 114, 108, 100]⟩
def sFour : ByteArray := ⟨#[102, 111, 117, 114]⟩
def sBoth : ByteArray := ⟨#[119, 111, 114, 108, 100, 104, 101, 108, 108, 111]⟩
def uK (l : List S40) : S25 := ⟨1, sK, l⟩
def pH : S40 := ⟨2, sHello⟩
def pW : S40 := ⟨1, sWorld⟩
def pF : S40 := ⟨3, sFour⟩
def pS : S40 := ⟨1, sFour⟩
set_option maxRecDepth 100000 in
theorem aw1 : beginR [] 1 sK = ([uK []], 0) := by rfl
set_option maxRecDepth 100000 in
theorem aw2 : layR [uK []] 1 pH = ([uK [pH]], tagOf sHello, 0) := by rfl
set_option maxRecDepth 100000 in
theorem aw3 : layR [uK [pH]] 1 pW = ([uK [pW, pH]], tagOf sWorld, 0) := by rfl
set_option maxRecDepth 100000 in
theorem aw4 : layR [uK [pW, pH]] 1 pF = ([uK [pW, pH, pF]], tagOf sFour, 0) := by rfl
set_option maxRecDepth 100000 in
theorem aw5 : findR [uK [pW, pH, pF]] 1 = (uK [pW, pH, pF], 0) := by rfl
set_option maxRecDepth 100000 in
theorem aw6 : wholeR (uK [pW, pH, pF]) [⟨1, tagOf sWorld⟩, ⟨2, tagOf sHello⟩] = (sBoth, manyText [tagOf sWorld, tagOf sHello], 0) := by
  unfold wholeR
  rw [if_neg (by intro h; rcases h with h | h; exact absurd h (by decide); exact absurd h (by decide)), if_neg (by decide), if_neg (by simp [lackB, hasPiece, isPiece, uK, pW, pH, pF]), if_neg (by decide), if_neg (by decide)]
  rfl
theorem aw7 : wholeR (uK [pW, pH, pF]) [⟨2, tagOf sHello⟩, ⟨1, tagOf sWorld⟩] = (noStr, noStr, 9) := by
  unfold wholeR
  rw [if_neg (by intro h; rcases h with h | h; exact absurd h (by decide); exact absurd h (by decide)), if_pos (by decide)]
theorem aw8 : layR [uK [pW, pH, pF]] 1 pS = ([uK [pS, pH, pF]], tagOf sFour, 0) := by rfl
theorem aw9 : findR [uK [pS, pH, pF]] 1 = (uK [pS, pH, pF], 0) := by rfl
theorem aw10 : wholeR (uK [pS, pH, pF]) [⟨1, tagOf sFour⟩, ⟨2, tagOf sHello⟩] = (noStr, noStr, 3) := by
  unfold wholeR
  rw [if_neg (by intro h; rcases h with h | h; exact absurd h (by decide); exact absurd h (by decide)), if_neg (by decide), if_neg (by simp [lackB, hasPiece, isPiece, uK, pS, pH, pF]), if_pos (by decide)]
theorem awBegin (w : World) : Calls Tryd.prog 12 #[.slice none 0 0, .int .u64 1, .string ⟨#[107]⟩] w fun e w' => ∃ A c, e = .returned (.tuple #[.slice A 1 c, .int .i64 0]) ∧ 1 ≤ c ∧ Hid (Kd.C k25 w' A 1 [uK []]) ∧ Below w.heap.size w w' := by
  have := begin.walk none 0 [] 1 sK w (Kd.C_nil _ _) (Nat.le_refl _)
  rw [aw1] at this
  exact this
theorem awLay (A : Option Addr) (c : Nat) (x y : List S40) (n : Int) (s : ByteArray) (w : World) (h : layR [uK x] 1 ⟨n, s⟩ = ([uK y], tagOf s, 0)) (hr : Hid (Kd.C k25 w A 1 [uK x])) (hc : 1 ≤ c) :
    Calls Tryd.prog 14 #[.slice A 1 c, .int .u64 1, .agg #[.int .i64 n, .string s]] w fun e w' => ∃ A c, e = .returned (.tuple #[.slice A 1 c, .int .u32 (tagOf s), .int .i64 0]) ∧ 1 ≤ c ∧ Hid (Kd.C k25 w' A 1 [uK y]) ∧ Below w.heap.size w w' := by
  have := lay.walk A c [uK x] 1 ⟨n, s⟩ w hr.out hc
  rw [h] at this
  exact this
theorem awFind (A : Option Addr) (c : Nat) (x : List S40) (w : World) (h : findR [uK x] 1 = (uK x, 0)) (hr : Hid (Kd.C k25 w A 1 [uK x])) (hc : 1 ≤ c) :
    Calls Tryd.prog 16 #[.slice A 1 c, .int .u64 1] w fun e w' => ∃ A c, e = .returned (.tuple #[.agg #[.int .u64 1, .string sK, .slice A x.length c], .int .i64 0]) ∧ x.length ≤ c ∧ Hid (Kd.C k40 w' A x.length x) ∧ Below w.heap.size w w' := by
  have := find.walk A c [uK x] 1 w hr.out hc
  unfold FindPost at this
  rw [h] at this
  exact this
theorem awWhole (A : Option Addr) (c : Nat) (x : List S40) (n m s t : Int) (r : ByteArray × ByteArray × Int) (w0 w : World) (b : Nat) (h : wholeR (uK x) [⟨n, s⟩, ⟨m, t⟩] = r) (hr : Hid (Kd.C k40 w0 A x.length x)) (hc : x.length ≤ c)
    (hw : Below w0.heap.size w0 w) (hb : w.heap[b]? = some (.cells #[.int .i64 n, .int .u32 s, .int .i64 m, .int .u32 t] 48 (0, 0))) :
    Calls Tryd.prog 9 #[.agg #[.int .u64 1, .string sK, .slice A x.length c], .slice (some ⟨b, 0, none⟩) 2 2] w fun e w' => e = .returned (.tuple #[.string r.1, .string r.2.1, .int .i64 r.2.2]) ∧ Below w.heap.size w w' := by
  have h1 := RowsOf.append (RowsOf.one_ (⟨n, s⟩ : S48) _ (k48_mk w ⟨n, s⟩)) (RowsOf.one_ (⟨m, t⟩ : S48) _ (k48_mk w ⟨m, t⟩))
  have := whole.walk (uK x) A c (some ⟨b, 0, none⟩) 2 [⟨n, s⟩, ⟨m, t⟩] _ (by simp) (Kd.C_below hr.out hw) hc (rows_C h1 (blk_raw hb 4 rfl) (by simp))
  rw [h] at this
  exact this
theorem blk_new1 (w : World) (c1 c2 : Array Value) (t1 t2 : TypeId) : ((w.alloc (.cells c1 t1)).alloc (.cells c2 t2)).heap[w.heap.size + 1]? = some (.cells c2 t2 (0, 0)) := by
  have := blk_new (w.alloc (.cells c1 t1)) (.cells c2 t2)
  rwa [World.size_alloc] at this
theorem below1 (w : World) (o : Obj) : Below w.heap.size w (w.alloc o) := (Below.refl _ _).alloc (Nat.le_refl _) _
theorem below2 (w : World) (o p : Obj) : Below w.heap.size w ((w.alloc o).alloc p) := (below1 w o).alloc (by simp) _
theorem keepR {α : Type} {d : Kd α} {w w' : World} {A : Option Addr} {n : Nat} {l : List α} (h : Hid (Kd.C d w A n l)) (hb : Below w.heap.size w w') : Hid (Kd.C d w' A n l) := Kd.C_below h.out hb
set_option maxHeartbeats 8000000 in
set_option maxRecDepth 100000 in
theorem awake.walk (w : World) : Calls Tryd.prog 11 #[] w fun e w' => e = .returned (.bool true) ∧ Below w.heap.size w w' := by
  have HB0 : Hid (Below w.heap.size w w) := Below.refl _ _
  have T0 : Hid True := trivial
  go_enter Tryd.func11, Tryd.ntmps11
  go_wp2_with (first
    | (go_at_call 12; have _t := T0; refine (awBegin _).mono ?_; rintro e w1 ⟨A1, c1, rfl, hc1, R1, hb⟩; have HB := keepB HB0 hb; clear hb HB0 _t T0)
    | (go_at_call 14; have _t := R1; refine (awLay A1 c1 [] [pH] 2 sHello _ aw2 R1 hc1).mono ?_; rintro e w2 ⟨A2, c2, rfl, hc2, R2, hb⟩; have HB := keepB HB hb; clear hb _t R1)
    | (go_at_call 14; have _t := R2; refine (awLay A2 c2 [pH] [pW, pH] 1 sWorld _ aw3 R2 hc2).mono ?_; rintro e w3 ⟨A3, c3, rfl, hc3, R3, hb⟩; have HB := keepB HB hb; clear hb _t R2)
    | (go_at_call 14; have _t := R3; refine (awLay A3 c3 [pW, pH] [pW, pH, pF] 3 sFour _ aw4 R3 hc3).mono ?_; rintro e w4 ⟨A4, c4, rfl, hc4, R4, hb⟩; have HB := keepB HB hb; clear hb _t R3)
    | (go_at_call 16; have _t := R4; refine (awFind A4 c4 [pW, pH, pF] _ aw5 R4 hc4).mono ?_; rintro e w5 ⟨A5, c5, rfl, hc5, R5, hb⟩; have HB := keepB HB hb; have R6 := keepR R4 hb; clear hb _t R4)
    | (go_at_call 9; have _t := R5; refine (awWhole A5 c5 [pW, pH, pF] 1 2 (tagOf sWorld) (tagOf sHello) (⟨#[119, 111, 114, 108, 100, 104, 101, 108, 108, 111]⟩, manyText [tagOf sWorld, tagOf sHello], 0) w5 _ _ aw6 R5 hc5 (below2 _ _ _) (blk_new1 _ _ _ _ _)).mono ?_; rintro e w6 ⟨rfl, hb⟩; have hk1 := blk_below (blk_alloc (blk_new w5 _) _) hb; have u0 := (blk_cell hk1 0).trans rfl; have u1 := (blk_cell hk1 1).trans rfl; have u2 := (blk_cell hk1 2).trans rfl; have hb := (keepB (Lib.hid (below2 _ _ _)) hb).out; have HB := keepB HB hb; have R6 := keepR R6 hb; have R7 := keepR R5 hb; clear hb _t R5 hk1)
    | (go_at_call 9; have _t := R7; refine (awWhole A5 c5 [pW, pH, pF] 2 1 (tagOf sHello) (tagOf sWorld) (⟨#[]⟩, ⟨#[]⟩, 9) w6 _ _ aw7 R7 hc5 (below1 _ _) (blk_new _ _)).mono ?_; rintro e w7 ⟨rfl, hb⟩; have hb := (keepB (Lib.hid (below1 _ _)) hb).out; have HB := keepB HB hb; have R8 := keepR R6 hb; clear hb _t R7 R6 u0 u1 u2)
    | (go_at_call 14; have _t := R8; refine (awLay A4 c4 [pW, pH, pF] [pS, pH, pF] 1 sFour _ aw8 R8 hc4).mono ?_; rintro e w8 ⟨A8, c8, rfl, hc8, R9, hb⟩; have HB := keepB HB hb; clear hb _t R8)
    | (go_at_call 16; have _t := R9; refine (awFind A8 c8 [pS, pH, pF] _ aw9 R9 hc8).mono ?_; rintro e w9 ⟨A9, c9, rfl, hc9, R10, hb⟩; have HB := keepB HB hb; clear hb _t R9)
    | (go_at_call 9; have _t := R10; refine (awWhole A9 c9 [pS, pH, pF] 1 2 (tagOf sFour) (tagOf sHello) (⟨#[]⟩, ⟨#[]⟩, 3) w9 _ _ aw10 R10 hc9 (below2 _ _ _) (blk_new1 _ _ _ _ _)).mono ?_; rintro e w10 ⟨rfl, hb⟩; have hb := (keepB (Lib.hid (below2 _ _ _)) hb).out; have HB := keepB HB hb; clear hb _t R10))
  go_ret
  exact ⟨rfl, HB.out⟩
end Go.Proofs.YtgpmkbmobdbdoaaDoor.Q

-- P3
namespace Go.Proofs.YtgpmkbmobdbdoaaDoor.Q
open Go.RowKit Go.Proofs.YtgpmkbmobdbdoaaDoorW.PrintWords Go.Proofs.YtgpmkbmobdbdoaaDoorW.PrintLast Go.Proofs.YtgpmkbmobdbdoaaDoorW.PrintMore
set_option linter.unusedVariables false
set_option linter.unusedSimpArgs false

/-! law08.Few in plain words. -/
def fewKey (s : ByteArray) : ByteArray := if (s.size : Int) > 80 then s.extract 0 80 else s
def onePart (p : S40) : S40 := ⟨p.f0, if (p.f1.size : Int) > 2001 then p.f1.extract 0 2001 else p.f1⟩
def fewU (u : S25) : S25 := ⟨u.f0, fewKey u.f1, (u.f2.take 31).map onePart⟩
def fewL (l : List S25) : List S25 := (l.take 11).map fewU
theorem few_key (s : ByteArray) : cellarerlaw01_Few.f s = some (fewKey s) := by
  unfold cellarerlaw01_Few.f fewKey
  by_cases h : (s.size : Int) > 80
  · rw [if_pos h, if_pos (by decide), if_pos (by omega), if_pos h]
  · rw [if_neg h, if_neg h]
theorem one_part (p : S40) : cellarerlaw08_One.f p.f0 p.f1 = some ((onePart p).f0, (onePart p).f1) := by
  unfold cellarerlaw08_One.f onePart
  by_cases h : (p.f1.size : Int) > 2001
  · rw [if_pos h, if_pos (by decide), if_pos (by omega)]; simp only [if_pos h]
  · rw [if_neg h]; simp only [if_neg h]
theorem few_l1 (l : List S25) (out : List S25) (i : Nat) (hi : i < l.length) (hi2 : i < 11) (hout : out.length ≤ i) (a : Int) (b : ByteArray) (k : Nat) :
    ∀ (d j : Nat) (acc : List S40), j + d = min 31 (l.getD i z25).f2.length → acc.length ≤ j →
    cellarerlaw08_Few.l1 (k + d + 1) l out (i : Int) (j : Int) a b acc = cellarerlaw08_Few.l0 k l (out ++ [⟨a, b, acc ++ ((((l.getD i z25).f2.take 31).drop j).map onePart)⟩]) ((i + 1 : Nat) : Int) := by
  have er : rd_T25 l (i : Int) = l.getD i z25 := by unfold rd_T25; rw [Int.toNat_natCast]
  have ew : wrap64 ((i : Int) + 1) = ((i + 1 : Nat) : Int) := by rw [wrap64_of (by omega) (by omega)]; omega
  intro d
  induction d with
  | zero =>
    intro j acc hj hacc
    rw [show k + 0 + 1 = k + 1 from rfl]
    simp only [cellarerlaw08_Few.l1]
    rw [if_pos (by omega), if_pos (by omega), er, ew]
    have hd : (((l.getD i z25).f2.take 31).drop j) = [] := List.drop_eq_nil_of_le (by rw [List.length_take]; omega)
    rw [hd, List.map_nil, List.append_nil]
    by_cases h1 : (j : Int) < ((l.getD i z25).f2.length : Int)
    · rw [if_pos h1, if_neg (by omega), if_pos (by omega)]
    · rw [if_neg h1, if_pos (by omega)]
  | succ d ih =>
    intro j acc hj hacc
    rw [show k + (d + 1) + 1 = (k + d + 1) + 1 from rfl]
    generalize hK : k + d + 1 = K
    simp only [cellarerlaw08_Few.l1]
    subst hK
    rw [if_pos (by omega), if_pos (by omega), er, if_pos (by omega), if_pos (by omega), if_pos (by omega)]
    have e2 : rd_T40 (l.getD i z25).f2 (j : Int) = (l.getD i z25).f2.getD j z40 := by unfold rd_T40; rw [Int.toNat_natCast]
    rw [e2, one_part, Option.bind_some, if_pos (by omega), show wrap64 ((j : Int) + 1) = ((j + 1 : Nat) : Int) by rw [wrap64_of (by omega) (by omega)]; omega,
      ih (j + 1) _ (by omega) (by rw [List.length_append, List.length_singleton]; omega)]
    have hj1 : j < ((l.getD i z25).f2.take 31).length := by rw [List.length_take]; omega
    rw [List.drop_eq_getElem_cons hj1, List.map_cons, List.append_assoc, List.singleton_append]
    have : ((l.getD i z25).f2.take 31)[j] = (l.getD i z25).f2.getD j z40 := by
      rw [List.getElem_take, List.getD_eq_getElem?_getD (l := (l.getD i z25).f2), List.getElem?_eq_getElem (l := (l.getD i z25).f2) (by rw [List.length_take] at hj1; omega)]; rfl
    rw [this]
def needU : List S25 → Nat
  | [] => 2
  | u :: us => needU us + min 31 u.f2.length + 3
theorem few_l0 (l : List S25) (hn : (l.length : Int) ≤ 9223372036854775807) : ∀ (us : List S25) (i : Nat) (out : List S25), us = (l.take 11).drop i → out.length = i → i ≤ min 11 l.length →
    cellarerlaw08_Few.l0 (needU us) l out (i : Int) = some (out ++ us.map fewU) := by
  intro us
  induction us with
  | nil =>
    intro i out hu ho hi
    have hl : min 11 l.length ≤ i := by
      have := congrArg List.length hu
      rw [List.length_drop, List.length_take] at this
      simp at this; omega
    show cellarerlaw08_Few.l0 (1 + 1) l out (i : Int) = _
    simp only [cellarerlaw08_Few.l0]
    by_cases h : (i : Int) < (l.length : Int)
    · rw [if_pos h, show decide ((i : Int) < 11) = false by simp; omega]
      simp [cellarerlaw08_Few.j1]
    · rw [if_neg h]; simp [cellarerlaw08_Few.j1]
  | cons u us ih =>
    intro i out hu ho hi
    have hlen : i < (l.take 11).length := by
      have := congrArg List.length hu
      rw [List.length_drop] at this
      simp only [List.length_cons] at this; omega
    rw [List.drop_eq_getElem_cons hlen] at hu
    injection hu with hu1 hu2
    rw [List.length_take] at hlen
    have hu3 : l.getD i z25 = u := by rw [hu1, List.getElem_take, List.getD_eq_getElem?_getD, List.getElem?_eq_getElem (by omega)]; rfl
    have er : rd_T25 l (i : Int) = u := by unfold rd_T25; rw [Int.toNat_natCast, hu3]
    show cellarerlaw08_Few.l0 (needU us + min 31 u.f2.length + 1 + 1 + 1) l out (i : Int) = _
    generalize hK : needU us + min 31 u.f2.length + 1 = K
    simp only [cellarerlaw08_Few.l0]
    rw [if_pos (by omega), show decide ((i : Int) < 11) = true by simp; omega]
    simp only [cellarerlaw08_Few.j1]
    subst hK
    rw [if_pos trivial, if_pos (by omega), if_pos (by omega), er, few_key, Option.bind_some]
    have := few_l1 l out i (by omega) (by omega) (by omega) u.f0 (fewKey u.f1) (needU us) (min 31 u.f2.length) 0 [] (by rw [hu3]; omega) (by simp)
    rw [show ((0 : Nat) : Int) = 0 from rfl] at this
    rw [this, hu3, List.drop_zero, List.nil_append, ih (i + 1) _ hu2 (by simp [ho]) (by omega), List.map_cons, List.append_assoc]
    rfl
theorem few_of (l : List S25) (hn : (l.length : Int) ≤ 9223372036854775807) : ∃ k, cellarerlaw08_Few.f k l = some (fewL l) :=
  ⟨needU (l.take 11), by unfold cellarerlaw08_Few.f; exact few_l0 l hn (l.take 11) 0 [] rfl rfl (by omega)⟩
end Go.Proofs.YtgpmkbmobdbdoaaDoor.Q

-- T25
namespace Go.Proofs.YtgpmkbmobdbdoaaDoor.Q
open Go.RowKit Go.Proofs.YtgpmkbmobdbdoaaDoorW.PrintWords Go.Proofs.YtgpmkbmobdbdoaaDoorW.PrintLast Go.Proofs.YtgpmkbmobdbdoaaDoorW.PrintMore
set_option linter.unusedVariables false
set_option linter.unusedSimpArgs false

theorem few.walk (A : Option Addr) (c : Nat) (l : List S25) (w : World) (hr : Kd.C k25 w A l.length l) (hc : l.length ≤ c) :
    Calls Tryd.prog 8 #[.slice A l.length c] w fun e w' => ∃ A' c', e = .returned (.slice A' (fewL l).length c') ∧ (fewL l).length ≤ c' ∧ Kd.C k25 w' A' (fewL l).length (fewL l) ∧ Below w.heap.size w w' := by
  obtain ⟨k, hk⟩ := few_of l (by have := hr.2.1; omega)
  refine (cellarerlaw08_Few.calls k A c l _ w hr hc hk).mono ?_
  rintro e w' ⟨v, rfl, hs, hb⟩
  obtain ⟨A', c', rfl, hl, hC⟩ := Kd.R_reads (Kd.S_R hs)
  exact ⟨A', c', rfl, hl, hC, hb⟩
/-- A slice of one upload: what Few makes of it; it is the call's own. -/
def Few1Post (u : S25) (w : World) (e : Ending) (w' : World) : Prop :=
  ∃ ad A3 c3 c', e = .returned (.slice (some ad) 1 c') ∧ w.heap.size ≤ ad.block ∧ w'.cell? ad = some (.int .u64 (fewU u).f0) ∧ w'.cell? ⟨ad.block, ad.off + 1, none⟩ = some (.string (fewU u).f1) ∧
      w'.cell? ⟨ad.block, ad.off + 2, none⟩ = some (.slice A3 (fewU u).f2.length c3) ∧ (fewU u).f2.length ≤ c3 ∧ Hid (∀ W : World, (∀ k, w.heap.size ≤ k → k < w'.heap.size → W.heap[k]? = w'.heap[k]?) → Kd.C k40 W A3 (fewU u).f2.length (fewU u).f2) ∧ Below w.heap.size w w'
theorem few1.walk (b c : Nat) (u : S25) (A2 : Option Addr) (c2 : Nat) (w : World) (hb : w.heap[b]? = some (.cells #[.int .u64 u.f0, .string u.f1, .slice A2 u.f2.length c2] 25 (0, 0))) (hr : Kd.C k40 w A2 u.f2.length u.f2) (hc : u.f2.length ≤ c2) (h1 : 1 ≤ c) :
    Calls Tryd.prog 8 #[.slice (some ⟨b, 0, none⟩) 1 c] w (Few1Post u w) := by
  have h0 := rows_C (RowsOf.one_ u _ (k25_mk w u hc hr)) (blk_raw hb 3 rfl) (by simp)
  obtain ⟨k, hk⟩ := few_of [u] (by simp)
  refine (cellarerlaw08_Few.calls k _ c [u] _ w h0 h1 hk).mono ?_
  rintro e w' ⟨v, rfl, hs, hb'⟩
  have e0 : fewL [u] = [fewU u] := rfl
  rw [e0] at hs
  obtain ⟨hok, hrow⟩ := Kd.R_bound (Kd.S_R hs)
  obtain ⟨A', c', rfl, hle, hrd⟩ := hrow.reads
  obtain ⟨ad, rfl, hcl⟩ := hrd.2.2 (by simp)
  obtain ⟨cs, hl, hM, hcell⟩ := hcl 0 (fewU u) rfl
  obtain ⟨v2, rfl, hR2⟩ := k25_openM hM
  obtain ⟨A3, c3, rfl, hl3, hC3⟩ := Kd.R_reads hR2
  have f0 := hcell 0 _ rfl
  have f1 := hcell 1 _ rfl
  have f2 := hcell 2 _ rfl
  refine ⟨ad, A3, c3, c', rfl, (hok ad.block (by simp [Value.ownBlock])).2.1, by simpa [Addr.add] using f0, by simpa [Addr.add] using f1, by simpa [Addr.add] using f2, hl3, fun W hW => ?_, hb'⟩
  obtain ⟨A4, c4, e4, _, hC4⟩ := Kd.R_reads (Kd.R_step (w1 := W) hR2 (fun k hk hlt => hW k hk.1.2.1 hlt))
  injection e4 with e5 _ _
  subst e5
  exact hC4
theorem set3_below {w w1 w2 : World} {b : Nat} {x y z : Value} (h : Below w.heap.size w w1) (hb : w.heap.size ≤ b) (h2 : Below (((w1.setCell ⟨b, 0, none⟩ x).setCell ⟨b, 1, none⟩ y).setCell ⟨b, 2, none⟩ z).heap.size (((w1.setCell ⟨b, 0, none⟩ x).setCell ⟨b, 1, none⟩ y).setCell ⟨b, 2, none⟩ z) w2) : Below w.heap.size w w2 := by
  have h3 := ((h.setCell (p := ⟨b, 0, none⟩) hb x).setCell (p := ⟨b, 1, none⟩) hb y).setCell (p := ⟨b, 2, none⟩) hb z
  exact h3.trans (h2.mono h3.size)
set_option maxHeartbeats 8000000 in
set_option maxRecDepth 100000 in
theorem pieces_few.walk (u : S25) (A2 : Option Addr) (c2 : Nat) (A : Option Addr) (c : Nat) (l : List S48) (at_ : Int) (w : World) (hr2 : Kd.C k40 w A2 u.f2.length u.f2) (hc2 : u.f2.length ≤ c2) (hr : Kd.C k48 w A l.length l) (hc : l.length ≤ c) (h0 : 0 ≤ at_) (h1 : at_ < 256) (hl : l.length < 2 ∨ 30 < l.length) :
    Calls Tryd.prog 5 #[.agg #[.int .u64 u.f0, .string u.f1, .slice A2 u.f2.length c2], .slice A l.length c, .int .u8 at_] w fun e w' => e = .returned (.bool true) ∧ Below w.heap.size w w' := by
  have HB0 : Hid (Below w.heap.size w w) := Below.refl _ _
  have HR := Lib.hid hr; have HR2 := Lib.hid hr2
  clear hr hr2
  have HF := Lib.hid (few1.walk (w.heap.size + 1) 1 u A2 c2 _ (blk_new1 w #[.int .u64 u.f0, .string u.f1, .slice A2 u.f2.length c2] #[.int .u64 u.f0, .string u.f1, .slice A2 u.f2.length c2] 25 25) (Kd.C_below HR2.out (below2 w _ _)) hc2 (Nat.le_refl _))
  unfold Few1Post at HF
  go_enter Tryd.func5, Tryd.ntmps5
  have HAW : Hid (∀ W, Calls Tryd.prog 11 #[] W fun e w' => e = .returned (.bool true) ∧ Below W.heap.size W w') := fun W => awake.walk W
  rcases hl with hl | hl
  · have d1 : decide ((30 : Int) < (l.length : Int)) = false := by simp; omega
    have d2 : decide ((l.length : Int) < 2) = true := by simp; omega
    go_wp2_with (first | (go_at_call 8; refine HF.out.mono ?_; rintro e w1 ⟨ad, A3, c3, c', rfl, hge, f0, f1, f2, hl3, HP, hb⟩; have HB1 := keepB (Lib.hid (below2 w (.cells #[.int .u64 u.f0, .string u.f1, .slice A2 u.f2.length c2] 25) (.cells #[.int .u64 u.f0, .string u.f1, .slice A2 u.f2.length c2] 25))) hb; have BK1 := Lib.hid (blk_below (blk_alloc (blk_new w (.cells #[.int .u64 u.f0, .string u.f1, .slice A2 u.f2.length c2] 25)) (.cells #[.int .u64 u.f0, .string u.f1, .slice A2 u.f2.length c2] 25)) hb); have u0 := (blk_cell BK1.out 0).trans rfl; have u1 := (blk_cell BK1.out 1).trans rfl; have u2 := (blk_cell BK1.out 2).trans rfl; have z0 := blk_frozen BK1.out 0; have z1 := blk_frozen BK1.out 1; have z2 := blk_frozen BK1.out 2; clear hb) | (go_at_call 11; refine (HAW.out _).mono ?_; rintro e w4 ⟨rfl, hb4⟩; have HB4 := Lib.hid (set3_below HB1.out (Nat.le_refl _) hb4); clear hb4))
    all_goals
      go_ret
      exact ⟨rfl, HB4.out⟩
  · have d1 : decide ((30 : Int) < (l.length : Int)) = true := by simp; omega
    go_wp2_with (first | (go_at_call 8; refine HF.out.mono ?_; rintro e w1 ⟨ad, A3, c3, c', rfl, hge, f0, f1, f2, hl3, HP, hb⟩; have HB1 := keepB (Lib.hid (below2 w (.cells #[.int .u64 u.f0, .string u.f1, .slice A2 u.f2.length c2] 25) (.cells #[.int .u64 u.f0, .string u.f1, .slice A2 u.f2.length c2] 25))) hb; have BK1 := Lib.hid (blk_below (blk_alloc (blk_new w (.cells #[.int .u64 u.f0, .string u.f1, .slice A2 u.f2.length c2] 25)) (.cells #[.int .u64 u.f0, .string u.f1, .slice A2 u.f2.length c2] 25)) hb); have u0 := (blk_cell BK1.out 0).trans rfl; have u1 := (blk_cell BK1.out 1).trans rfl; have u2 := (blk_cell BK1.out 2).trans rfl; have z0 := blk_frozen BK1.out 0; have z1 := blk_frozen BK1.out 1; have z2 := blk_frozen BK1.out 2; clear hb) | (go_at_call 11; refine (HAW.out _).mono ?_; rintro e w4 ⟨rfl, hb4⟩; have HB4 := Lib.hid (set3_below HB1.out (Nat.le_refl _) hb4); clear hb4))
    all_goals
      go_ret
      exact ⟨rfl, HB4.out⟩
end Go.Proofs.YtgpmkbmobdbdoaaDoor.Q

-- P4
namespace Go.Proofs.YtgpmkbmobdbdoaaDoor.Q
open Go.RowKit Go.Proofs.YtgpmkbmobdbdoaaDoorW.PrintWords Go.Proofs.YtgpmkbmobdbdoaaDoorW.PrintLast Go.Proofs.YtgpmkbmobdbdoaaDoorW.PrintMore
set_option linter.unusedVariables false
set_option linter.unusedSimpArgs false

/-! Plain: the whole of some pieces is that of the first ones, and that of the others. -/
theorem allFrom_iff (P : Nat → Bool) : ∀ (d i : Nat), allFrom P i d = true ↔ ∀ j, i ≤ j → j < i + d → P j = true := by
  intro d
  induction d with
  | zero => intro i; simp [allFrom]; intro j h1 h2; omega
  | succ d ih =>
    intro i
    show (P i && allFrom P (i + 1) d) = true ↔ _
    rw [Bool.and_eq_true, ih (i + 1)]
    constructor
    · rintro ⟨h1, h2⟩ j h3 h4
      rcases Nat.lt_or_ge i j with h | h
      · exact h2 j (by omega) (by omega)
      · obtain rfl : j = i := by omega
        exact h1
    · intro h
      exact ⟨h i (Nat.le_refl _) (by omega), fun j h1 h2 => h j (by omega) (by omega)⟩
theorem getD_take {α : Type} (l : List α) (k j : Nat) (d : α) (h : j < k) : (l.take k).getD j d = l.getD j d := by
  rw [List.getD_eq_getElem?_getD, List.getD_eq_getElem?_getD, List.getElem?_take, if_pos h]
theorem getD_drop {α : Type} (l : List α) (k j : Nat) (d : α) : (l.drop k).getD j d = l.getD (k + j) d := by
  rw [List.getD_eq_getElem?_getD, List.getD_eq_getElem?_getD, List.getElem?_drop]
theorem ord_take {l : List S48} (h : ordB l = true) (k : Nat) (hk : k ≤ l.length) : ordB (l.take k) = true := by
  unfold ordB at h ⊢
  rw [allFrom_iff] at h ⊢
  intro j h1 h2
  rw [List.length_take] at h2
  have := h j h1 (by omega)
  unfold ordAt at this ⊢
  rwa [getD_take _ _ _ _ (by omega), getD_take _ _ _ _ (by omega)]
theorem ord_drop {l : List S48} (h : ordB l = true) (k : Nat) (hk : k ≤ l.length) : ordB (l.drop k) = true := by
  unfold ordB at h ⊢
  rw [allFrom_iff] at h ⊢
  intro j h1 h2
  rw [List.length_drop] at h2
  have := h (k + j) (by omega) (by omega)
  unfold ordAt at this ⊢
  rwa [getD_drop, getD_drop, show k + (j - 1) = k + j - 1 by omega]
theorem long_take {ps : List S40} {l : List S48} (h : longB ps l = true) (k : Nat) (hk : k ≤ l.length) : longB ps (l.take k) = true := by
  unfold longB at h ⊢
  rw [allFrom_iff] at h ⊢
  intro j h1 h2
  rw [List.length_take] at h2
  have := h j h1 (by omega)
  unfold longAt at this ⊢
  rw [getD_take _ _ _ _ (by omega), List.length_take]
  by_cases h5 : j + 1 < min k l.length
  · rw [decide_eq_true (show j + 1 < l.length by omega)] at this
    rw [decide_eq_true h5]; exact this
  · rw [decide_eq_false h5]; rfl
theorem long_drop {ps : List S40} {l : List S48} (h : longB ps l = true) (k : Nat) (hk : k ≤ l.length) : longB ps (l.drop k) = true := by
  unfold longB at h ⊢
  rw [allFrom_iff] at h ⊢
  intro j h1 h2
  rw [List.length_drop] at h2
  have := h (k + j) (by omega) (by omega)
  unfold longAt at this ⊢
  rw [getD_drop, List.length_drop]
  by_cases h5 : j + 1 < l.length - k
  · rw [decide_eq_true (show k + j + 1 < l.length by omega)] at this
    rw [decide_eq_true h5]; exact this
  · rw [decide_eq_false h5]; rfl
theorem any_take {α : Type} {l : List α} {f : α → Bool} (h : ¬ l.any f = true) (k : Nat) : ¬ (l.take k).any f = true := by
  intro h2
  obtain ⟨x, hx, hf⟩ := List.any_eq_true.1 h2
  exact h (List.any_eq_true.2 ⟨x, List.mem_of_mem_take hx, hf⟩)
theorem any_drop {α : Type} {l : List α} {f : α → Bool} (h : ¬ l.any f = true) (k : Nat) : ¬ (l.drop k).any f = true := by
  intro h2
  obtain ⟨x, hx, hf⟩ := List.any_eq_true.1 h2
  exact h (List.any_eq_true.2 ⟨x, List.mem_of_mem_drop hx, hf⟩)
theorem bytes_split (ps : List S40) (l : List S48) (k : Nat) : bytesFor ps l = bytesFor ps (l.take k) ++ bytesFor ps (l.drop k) := by
  unfold bytesFor
  rw [← List.flatMap_append, List.take_append_drop]
theorem mk_append (x y : List UInt8) : (⟨(x ++ y).toArray⟩ : ByteArray) = (⟨x.toArray⟩ : ByteArray) ++ ⟨y.toArray⟩ := by
  apply ByteArray.ext
  simp
theorem whole_split (u : S25) (l : List S48) (k : Nat) (h1 : 1 ≤ k) (h2 : k < l.length) :
    (∃ t e, wholeR u l = (⟨#[]⟩, t, e) ∧ e ≠ 0) ∨ (∃ a t1 b t2 t, wholeR u l = (a ++ b, t, 0) ∧ wholeR u (l.take k) = (a, t1, 0) ∧ wholeR u (l.drop k) = (b, t2, 0) ∧ a.size + b.size ≤ 2000) := by
  have key : ∀ m : List S48, fineB u.f0 u.f1 u.f2 = true → m.length ≠ 0 → ordB m = true → ¬ m.any (lackB u.f2) = true → longB u.f2 m = true → (bytesFor u.f2 m).length ≤ 2000 → wholeR u m = (⟨(bytesFor u.f2 m).toArray⟩, manyText (tagsFor m), 0) := by
    intro m a1 a2 a3 a4 a5 a6
    unfold wholeR
    rw [if_neg (by rintro (h | h); rw [a1] at h; cases h; exact a2 h), if_neg (by rw [a3]; simp), if_neg a4, if_neg (by rw [a5]; simp), if_neg (by omega)]
  by_cases c1 : fineB u.f0 u.f1 u.f2 = false ∨ l.length = 0
  · exact Or.inl ⟨noStr, 1, by unfold wholeR; rw [if_pos c1]; rfl, by decide⟩
  by_cases c2 : ordB l = false
  · exact Or.inl ⟨noStr, 9, by unfold wholeR; rw [if_neg c1, if_pos c2]; rfl, by decide⟩
  by_cases c3 : l.any (lackB u.f2) = true
  · exact Or.inl ⟨noStr, 4, by unfold wholeR; rw [if_neg c1, if_neg c2, if_pos c3]; rfl, by decide⟩
  by_cases c4 : longB u.f2 l = false
  · exact Or.inl ⟨noStr, 3, by unfold wholeR; rw [if_neg c1, if_neg c2, if_neg c3, if_pos c4]; rfl, by decide⟩
  by_cases c5 : 2000 < (bytesFor u.f2 l).length
  · exact Or.inl ⟨noStr, 6, by unfold wholeR; rw [if_neg c1, if_neg c2, if_neg c3, if_neg c4, if_pos c5]; rfl, by decide⟩
  have b1 : fineB u.f0 u.f1 u.f2 = true := by cases h : fineB u.f0 u.f1 u.f2 <;> simp_all
  have b2 : ordB l = true := by cases h : ordB l <;> simp_all
  have b4 : longB u.f2 l = true := by cases h : longB u.f2 l <;> simp_all
  have hb := bytes_split u.f2 l k
  have hbl := congrArg List.length hb
  rw [List.length_append] at hbl
  refine Or.inr ⟨⟨(bytesFor u.f2 (l.take k)).toArray⟩, _, ⟨(bytesFor u.f2 (l.drop k)).toArray⟩, _, manyText (tagsFor l), ?_, key (l.take k) b1 (by rw [List.length_take]; omega) (ord_take b2 k (by omega)) (any_take c3 k) (long_take b4 k (by omega)) (by omega),
    key (l.drop k) b1 (by rw [List.length_drop]; omega) (ord_drop b2 k (by omega)) (any_drop c3 k) (long_drop b4 k (by omega)) (by omega), ?_⟩
  · rw [key l b1 (by omega) b2 c3 b4 (by omega), hb, mk_append]
  · have e1 : ∀ x : List UInt8, (⟨x.toArray⟩ : ByteArray).size = x.length := fun x => by simp [ByteArray.size]
    rw [e1, e1]; omega
end Go.Proofs.YtgpmkbmobdbdoaaDoor.Q

-- T26
namespace Go.Proofs.YtgpmkbmobdbdoaaDoor.Q
open Go.RowKit Go.Proofs.YtgpmkbmobdbdoaaDoorW.PrintWords Go.Proofs.YtgpmkbmobdbdoaaDoorW.PrintLast Go.Proofs.YtgpmkbmobdbdoaaDoorW.PrintMore
set_option linter.unusedVariables false
set_option linter.unusedSimpArgs false

theorem set3_far {w1 : World} {b : Nat} {x y z : Value} (k : Nat) (h : k ≠ b) : (((w1.setCell ⟨b, 0, none⟩ x).setCell ⟨b, 1, none⟩ y).setCell ⟨b, 2, none⟩ z).heap[k]? = w1.heap[k]? := by
  rw [Below.heap_setCell _ ⟨b, 2, none⟩ _ _ h, Below.heap_setCell _ ⟨b, 1, none⟩ _ _ h, Below.heap_setCell _ ⟨b, 0, none⟩ _ _ h]
theorem set3_self {w w1 : World} {b : Nat} {x y z : Value} (h : Below w.heap.size w w1) (hb : w.heap.size ≤ b) : Below w.heap.size w (((w1.setCell ⟨b, 0, none⟩ x).setCell ⟨b, 1, none⟩ y).setCell ⟨b, 2, none⟩ z) :=
  ((h.setCell (p := ⟨b, 0, none⟩) hb x).setCell (p := ⟨b, 1, none⟩) hb y).setCell (p := ⟨b, 2, none⟩) hb z
theorem outR {α : Type} {d : Kd α} {w : World} {A : Option Addr} {n : Nat} {l : List α} (h : Hid (Kd.C d w A n l)) : Kd.C d w A n l := h.out
theorem keepRD {α : Type} {d : Kd α} {w : World} {A : Option Addr} {n : Nat} {l : List α} (h : Hid (Kd.C d w A n l)) : Hid (Kd.C d w.drew A n l) := Kd.C_below h.out (by have := below_drewN w.heap.size w 1; exact this)
set_option maxHeartbeats 8000000 in
set_option maxRecDepth 100000 in
theorem pieces.walk (u : S25) (A2 : Option Addr) (c2 : Nat) (ad : Addr) (c : Nat) (l : List S48) (at_ : Int) (w : World) (hr2 : Kd.C k40 w A2 u.f2.length u.f2) (hc2 : u.f2.length ≤ c2) (hr : Kd.C k48 w (some ad) l.length l) (hc : l.length ≤ c) (h0 : 0 ≤ at_) (h1 : at_ < 256) (hl2 : 2 ≤ l.length) (hl30 : l.length ≤ 30) :
    Calls Tryd.prog 5 #[.agg #[.int .u64 u.f0, .string u.f1, .slice A2 u.f2.length c2], .slice (some ad) l.length c, .int .u8 at_] w fun e w' => e = .returned (.bool true) ∧ Below w.heap.size w w' := by
  have HB0 : Hid (Below w.heap.size w w) := Below.refl _ _
  have HR := Lib.hid hr; have HR2 := Lib.hid hr2
  clear hr hr2
  have HF := Lib.hid (few1.walk (w.heap.size + 1) 1 u A2 c2 _ (blk_new1 w #[.int .u64 u.f0, .string u.f1, .slice A2 u.f2.length c2] #[.int .u64 u.f0, .string u.f1, .slice A2 u.f2.length c2] 25 25) (Kd.C_below HR2.out (below2 w _ _)) hc2 (Nat.le_refl _))
  unfold Few1Post at HF
  have HAW : Hid (∀ W, Calls Tryd.prog 11 #[] W fun e w' => e = .returned (.bool true) ∧ Below W.heap.size W w') := fun W => awake.walk W
  have d1 : decide ((30 : Int) < (l.length : Int)) = false := by simp; omega
  have d2 : decide ((l.length : Int) < 2) = false := by simp; omega
  obtain ⟨k, hk⟩ : ∃ k : Nat, wrap64 (1 + at_ % ((l.length : Int) - 1)) = (k : Int) ∧ 1 ≤ k ∧ k < l.length := by
    have e1 := Int.emod_nonneg at_ (b := (l.length : Int) - 1) (by omega)
    have e2 := Int.emod_lt_of_pos at_ (b := (l.length : Int) - 1) (by omega)
    refine ⟨(1 + at_ % ((l.length : Int) - 1)).toNat, ?_, by omega, by omega⟩
    rw [wrap64_of (by omega) (by omega)]; omega
  obtain ⟨q1, k1, k2⟩ := hk
  obtain ⟨s, t, e, hE, a, t1, f, hF, b, t2, g, hG, hlaw⟩ : ∃ s t e, wholeR (fewU u) l = (s, t, e) ∧ ∃ a t1 f, wholeR (fewU u) (l.take k) = (a, t1, f) ∧ ∃ b t2 g, wholeR (fewU u) (l.drop k) = (b, t2, g) ∧ ((e ≠ 0 ∧ s = ⟨#[]⟩) ∨ (e = 0 ∧ f = 0 ∧ g = 0 ∧ s = a ++ b ∧ a.size + b.size ≤ 2000)) := by
    rcases whole_split (fewU u) l k k1 k2 with ⟨t, e, h1, h2⟩ | ⟨a, t1, b, t2, t, h1, h2, h3, h4⟩
    · exact ⟨_, _, _, h1, _, _, _, rfl, _, _, _, rfl, Or.inl ⟨h2, rfl⟩⟩
    · exact ⟨_, _, _, h1, _, _, _, h2, _, _, _, h3, Or.inr ⟨rfl, rfl, rfl, rfl, h4⟩⟩
  have HW : Hid (∀ (W : World) (A3 : Option Addr) (c3 : Nat), Kd.C k40 W A3 (fewU u).f2.length (fewU u).f2 → (fewU u).f2.length ≤ c3 → Kd.C k48 W (some ad) l.length l →
    Calls Tryd.prog 9 #[.agg #[.int .u64 (fewU u).f0, .string (fewU u).f1, .slice A3 (fewU u).f2.length c3], .slice (some ad) l.length c] W fun x w' => x = .returned (.tuple #[.string s, .string t, .int .i64 e]) ∧ Below W.heap.size W w') := by
    intro W A3 c3 g1 g2 g3
    have := whole.walk (fewU u) A3 c3 (some ad) c l W (by omega) g1 g2 g3
    rw [hE] at this
    exact this
  have HW2 : Hid (∀ (W : World) (A3 : Option Addr) (c3 : Nat), Kd.C k40 W A3 (fewU u).f2.length (fewU u).f2 → (fewU u).f2.length ≤ c3 → Kd.C k48 W (some ad) l.length l →
    Calls Tryd.prog 9 #[.agg #[.int .u64 (fewU u).f0, .string (fewU u).f1, .slice A3 (fewU u).f2.length c3], .slice (some ad) k c] W fun x w' => x = .returned (.tuple #[.string a, .string t1, .int .i64 f]) ∧ Below W.heap.size W w') := by
    intro W A3 c3 g1 g2 g3
    have := whole.walk (fewU u) A3 c3 (some ad) c (l.take k) W (by rw [List.length_take]; omega) g1 g2 (Kd.C_take g3 (by omega))
    rw [hF, List.length_take, Nat.min_eq_left (by omega)] at this
    exact this
  have HW3 : Hid (∀ (W : World) (A3 : Option Addr) (c3 : Nat), Kd.C k40 W A3 (fewU u).f2.length (fewU u).f2 → (fewU u).f2.length ≤ c3 → Kd.C k48 W (some ad) l.length l →
    Calls Tryd.prog 9 #[.agg #[.int .u64 (fewU u).f0, .string (fewU u).f1, .slice A3 (fewU u).f2.length c3], .slice (if c = k then some ad else some (ad.add (k * 2))) (l.length - k) (c - k)] W fun x w' => x = .returned (.tuple #[.string b, .string t2, .int .i64 g]) ∧ Below W.heap.size W w') := by
    intro W A3 c3 g1 g2 g3
    have h3 := Kd.C_drop (m := k) (c := c) g3 (by omega) hc
    rw [if_neg (by omega)] at h3
    rw [if_neg (show ¬ c = k by omega)]
    have := whole.walk (fewU u) A3 c3 (some (ad.add (k * 2))) (c - k) (l.drop k) W (by rw [List.length_drop]; omega) g1 g2 h3
    rw [hG, List.length_drop] at this
    exact this
  clear hE hF hG
  have HLAW := Lib.hid hlaw
  clear hlaw
  have d3 : (0 : Int) ≤ (k : Int) := by omega
  have d4 : (k : Int) ≤ (c : Int) := by omega
  have d5 : (k : Int) ≤ (l.length : Int) := by omega
  have d6 : (l.length : Int) ≤ (c : Int) := by omega
  go_enter Tryd.func5, Tryd.ntmps5
  go_wp2_with (first
    | (go_at_call 8; refine HF.out.mono ?_; rintro e' w1 ⟨ad1, A3, c3, c', rfl, hge, f0, f1, f2, hl3, HP, hb⟩; have HB1 := keepB (Lib.hid (below2 w (.cells #[.int .u64 u.f0, .string u.f1, .slice A2 u.f2.length c2] 25) (.cells #[.int .u64 u.f0, .string u.f1, .slice A2 u.f2.length c2] 25))) hb; have BK1 := Lib.hid (blk_below (blk_alloc (blk_new w (.cells #[.int .u64 u.f0, .string u.f1, .slice A2 u.f2.length c2] 25)) (.cells #[.int .u64 u.f0, .string u.f1, .slice A2 u.f2.length c2] 25)) hb); have u0 := (blk_cell BK1.out 0).trans rfl; have u1 := (blk_cell BK1.out 1).trans rfl; have u2 := (blk_cell BK1.out 2).trans rfl; have z0 := blk_frozen BK1.out 0; have z1 := blk_frozen BK1.out 1; have z2 := blk_frozen BK1.out 2; clear hb; have HU3 := Lib.hid (HP.out (((w1.setCell ⟨w.heap.size, 0, none⟩ (.int .u64 (fewU u).f0)).setCell ⟨w.heap.size, 1, none⟩ (.string (fewU u).f1)).setCell ⟨w.heap.size, 2, none⟩ (.slice A3 (fewU u).f2.length c3)) (fun k h1 _ => set3_far k (by simp at h1; omega))); have HB3 := Lib.hid (set3_self (b := w.heap.size) (x := .int .u64 (fewU u).f0) (y := .string (fewU u).f1) (z := .slice A3 (fewU u).f2.length c3) HB1.out (Nat.le_refl _)); have BK3 := Lib.hid (blk_set (blk_set (blk_set BK1.out 0 (.int .u64 (fewU u).f0)) 1 (.string (fewU u).f1)) 2 (.slice A3 (fewU u).f2.length c3)))
    | (go_at_call 9; simp only [q1]; refine (HW.out _ A3 c3 HU3.out hl3 (keepR HR HB3.out).out).mono ?_; rintro x w5 ⟨rfl, hb5⟩; have HU5 := keepR HU3 hb5; have HL5 := keepR (keepR HR HB3.out) hb5; have HB5 := keepB HB3 hb5; have bk5 := blk_below BK3.out hb5; have v0 := (blk_cell bk5 0).trans rfl; have v1 := (blk_cell bk5 1).trans rfl; have v2 := (blk_cell bk5 2).trans rfl; clear hb5))
  go_region_held3 (fun W => W.cell? ⟨w.heap.size, 0, none⟩ = some (.int .u64 (fewU u).f0) ∧ W.cell? ⟨w.heap.size, 1, none⟩ = some (.string (fewU u).f1) ∧ W.cell? ⟨w.heap.size, 2, none⟩ = some (.slice A3 (fewU u).f2.length c3) ∧ Hid (Below w.heap.size w W) ∧ Hid (Kd.C k40 W A3 (fewU u).f2.length (fewU u).f2) ∧ Hid (Kd.C k48 W (some ad) l.length l))
    (((try go_split_ands); refine ⟨?_, ?_, ?_, ?_, ?_, ?_⟩ <;> first | assumption | (refine keepc hb ?_; assumption) | (refine keepB ?_ hb; assumption) | (refine keepR ?_ hb; assumption) | (refine keepD ?_; assumption) | (refine keepcD ?_; assumption) | (refine keepRD ?_; assumption)))
    (first | (go_at_call 9; refine (HW2.out _ A3 c3 (outR (by first | assumption | exact keepRD HU5)) hl3 (outR (by first | assumption | exact keepRD HL5))).mono ?_; rintro x w6 ⟨rfl, hb⟩))
  try go_split_ands
  have HB6 : Hid (Below w.heap.size w w6) := by assumption
  have HU6 : Hid (Kd.C k40 w6 A3 (fewU u).f2.length (fewU u).f2) := by assumption
  have HL6 : Hid (Kd.C k48 w6 (some ad) l.length l) := by assumption
  have x0 : w6.cell? ⟨w.heap.size, 0, none⟩ = some (.int .u64 (fewU u).f0) := by assumption
  have x1 : w6.cell? ⟨w.heap.size, 1, none⟩ = some (.string (fewU u).f1) := by assumption
  have x2 : w6.cell? ⟨w.heap.size, 2, none⟩ = some (.slice A3 (fewU u).f2.length c3) := by assumption
  go_wp2
  go_region_held3 (fun W => W.cell? ⟨w.heap.size, 0, none⟩ = some (.int .u64 (fewU u).f0) ∧ W.cell? ⟨w.heap.size, 1, none⟩ = some (.string (fewU u).f1) ∧ W.cell? ⟨w.heap.size, 2, none⟩ = some (.slice A3 (fewU u).f2.length c3) ∧ Hid (Below w.heap.size w W) ∧ Hid (Kd.C k40 W A3 (fewU u).f2.length (fewU u).f2) ∧ Hid (Kd.C k48 W (some ad) l.length l))
    (((try go_split_ands); refine ⟨?_, ?_, ?_, ?_, ?_, ?_⟩ <;> first | assumption | (refine keepc hb ?_; assumption) | (refine keepB ?_ hb; assumption) | (refine keepR ?_ hb; assumption) | (refine keepD ?_; assumption) | (refine keepcD ?_; assumption) | (refine keepRD ?_; assumption)))
    (first | (go_at_call 9; refine (HW3.out _ A3 c3 (outR (by first | assumption | exact keepRD HU6)) hl3 (outR (by first | assumption | exact keepRD HL6))).mono ?_; rintro x w7 ⟨rfl, hb⟩))
  try go_split_ands
  have HB7 : Hid (Below w.heap.size w w7) := by assumption
  rcases HLAW.out with ⟨he, rfl⟩ | ⟨rfl, rfl, rfl, rfl, hsz⟩
  · have d7 : (e == 0) = false := by simpa using he
    have d8 : (e != 0) = true := by simpa using he
    go_wp2_with (go_at_call 11; refine (HAW.out _).mono ?_; rintro x w8 ⟨rfl, hb8⟩; have HB8 := keepB HB7 hb8; clear hb8)
    go_ret
    exact ⟨rfl, HB8.out⟩
  · have d9 : ¬ (9223372036854775807 < a.size + b.size) := by omega
    clear HLAW
    go_wp2_with (go_at_call 11; refine (HAW.out _).mono ?_; rintro x w8 ⟨rfl, hb8⟩; have HB8 := keepB HB7 hb8; clear hb8)
    go_ret
    exact ⟨rfl, HB8.out⟩
end Go.Proofs.YtgpmkbmobdbdoaaDoor.Q

-- P5
namespace Go.Proofs.YtgpmkbmobdbdoaaDoor.Q
open Go.RowKit Go.Proofs.YtgpmkbmobdbdoaaDoorW.PrintWords Go.Proofs.YtgpmkbmobdbdoaaDoorW.PrintLast Go.Proofs.YtgpmkbmobdbdoaaDoorW.PrintMore
set_option linter.unusedVariables false
set_option linter.unusedSimpArgs false

/-! The tag by a table is the tag bit by bit. -/
theorem wrap32 (n : Int) : IntKind.u32.wrap n = n % 4294967296 := by simp [IntKind.wrap, IntKind.bits, IntKind.signed]
theorem wrap8 (n : Int) : IntKind.u8.wrap n = n % 256 := by simp [IntKind.wrap, IntKind.bits, IntKind.signed]
theorem of32 (a : Nat) (h : a < 4294967296) : (BitVec.ofInt 32 (a : Int)).toNat = a := by
  rw [BitVec.ofInt_natCast, BitVec.toNat_ofNat]; exact Nat.mod_eq_of_lt (by omega)
theorem of8 (a : Nat) (h : a < 256) : (BitVec.ofInt 8 (a : Int)).toNat = a := by
  rw [BitVec.ofInt_natCast, BitVec.toNat_ofNat]; exact Nat.mod_eq_of_lt (by omega)
theorem xor32 (a b : Nat) (ha : a < 4294967296) (hb : b < 4294967296) : bits .xor .u32 (a : Int) (b : Int) = ((a ^^^ b : Nat) : Int) ∧ a ^^^ b < 4294967296 := by
  have hx : a ^^^ b < 2 ^ 32 := Nat.xor_lt_two_pow (by omega) (by omega)
  refine ⟨?_, by omega⟩
  show IntKind.u32.wrap ((BitVec.ofInt 32 (a : Int) ^^^ BitVec.ofInt 32 (b : Int)).toNat : Int) = _
  rw [BitVec.toNat_xor, of32 a ha, of32 b hb, wrap32]
  omega
theorem xor8 (a b : Nat) (ha : a < 256) (hb : b < 256) : bits .xor .u8 (a : Int) (b : Int) = ((a ^^^ b : Nat) : Int) ∧ a ^^^ b < 256 := by
  have hx : a ^^^ b < 2 ^ 8 := Nat.xor_lt_two_pow (by omega) (by omega)
  refine ⟨?_, by omega⟩
  show IntKind.u8.wrap ((BitVec.ofInt 8 (a : Int) ^^^ BitVec.ofInt 8 (b : Int)).toNat : Int) = _
  rw [BitVec.toNat_xor, of8 a ha, of8 b hb, wrap8]
  omega
theorem and32 (a : Nat) (ha : a < 4294967296) : bits .and .u32 (a : Int) 1 = ((a % 2 : Nat) : Int) := by
  show IntKind.u32.wrap ((BitVec.ofInt 32 (a : Int) &&& BitVec.ofInt 32 ((1 : Nat) : Int)).toNat : Int) = _
  rw [BitVec.toNat_and, of32 a ha, of32 1 (by omega), wrap32, Nat.and_one_is_mod]
  omega
def nstep (c : Nat) : Nat := c / 2 ^^^ (if c % 2 = 1 then 2197175160 else 0)
theorem nstep_lt (c : Nat) (h : c < 4294967296) : nstep c < 4294967296 := by
  have : nstep c < 2 ^ 32 := Nat.xor_lt_two_pow (by omega) (by split <;> omega)
  omega
theorem tone_nat (c : Nat) (h : c < 4294967296) : tone (c : Int) = (nstep c : Int) := by
  unfold tone nstep
  rw [and32 c h, show ((c : Int) / 2) = ((c / 2 : Nat) : Int) by omega]
  by_cases hc : c % 2 = 1
  · rw [hc, if_pos rfl]
    exact (xor32 (c / 2) 2197175160 (by omega) (by omega)).1
  · rw [show c % 2 = 0 by omega, if_neg (by decide)]
    exact (xor32 (c / 2) 0 (by omega) (by omega)).1
def ntimes : Nat → Nat → Nat
  | 0, x => x
  | m + 1, x => nstep (ntimes m x)
theorem ntimes_lt (m c : Nat) (h : c < 4294967296) : ntimes m c < 4294967296 := by
  induction m with
  | zero => exact h
  | succ m ih => exact nstep_lt _ ih
theorem ttimes_nat (m c : Nat) (h : c < 4294967296) : ttimes m (c : Int) = (ntimes m c : Int) := by
  induction m with
  | zero => rfl
  | succ m ih =>
    show tone (ttimes m c) = _
    rw [ih]; exact tone_nat _ (ntimes_lt m c h)
theorem nstep_xor (a b : Nat) : nstep (a ^^^ b) = nstep a ^^^ nstep b := by
  unfold nstep
  have h1 : (a ^^^ b) / 2 = a / 2 ^^^ b / 2 := Nat.xor_div_two
  have h2 : (a ^^^ b) % 2 = (a % 2 ^^^ b % 2) % 2 := by
    have := Nat.xor_mod_two_pow (a := a) (b := b) (n := 1)
    have e : (a % 2 ^^^ b % 2) < 2 := by
      have : a % 2 ^^^ b % 2 < 2 ^ 1 := Nat.xor_lt_two_pow (by omega) (by omega)
      omega
    rw [Nat.mod_eq_of_lt e]; simpa using this
  rw [h1, h2]
  have ha : a % 2 = 0 ∨ a % 2 = 1 := by omega
  have hb : b % 2 = 0 ∨ b % 2 = 1 := by omega
  generalize a / 2 = p
  generalize b / 2 = q
  rcases ha with ha | ha <;> rcases hb with hb | hb <;> rw [ha, hb]
  · simp
  · simp [Nat.xor_assoc]
  · simp only [show (1 ^^^ 0) % 2 = 1 from rfl, if_true]
    rw [Nat.xor_assoc, Nat.xor_assoc, Nat.xor_comm q]; simp
  · simp only [show (1 ^^^ 1) % 2 = 0 from rfl, if_true]
    rw [if_neg (by decide), Nat.xor_zero, Nat.xor_assoc, ← Nat.xor_assoc 2197175160 q, Nat.xor_comm 2197175160 q, Nat.xor_assoc q, Nat.xor_self, Nat.xor_zero]
theorem ntimes_xor (m a b : Nat) : ntimes m (a ^^^ b) = ntimes m a ^^^ ntimes m b := by
  induction m with
  | zero => rfl
  | succ m ih => show nstep (ntimes m (a ^^^ b)) = _; rw [ih, nstep_xor]; rfl
theorem nstep_even (z : Nat) : nstep (2 * z) = z := by
  unfold nstep
  rw [show 2 * z / 2 = z by omega, if_neg (by omega), Nat.xor_zero]
theorem ntimes_high (m z : Nat) : ntimes m (z * 2 ^ m) = z := by
  induction m generalizing z with
  | zero => simp [ntimes]
  | succ m ih =>
    show nstep (ntimes m (z * 2 ^ (m + 1))) = z
    rw [show z * 2 ^ (m + 1) = (2 * z) * 2 ^ m by rw [Nat.pow_succ]; ac_rfl, ih, nstep_even]
theorem split256 (y : Nat) : y = (y / 256 * 2 ^ 8) ^^^ (y % 256) := by
  apply Nat.eq_of_testBit_eq
  intro i
  rw [Nat.testBit_xor, Nat.testBit_mul_two_pow, show (256 : Nat) = 2 ^ 8 from rfl, Nat.testBit_div_two_pow, Nat.testBit_mod_two_pow]
  by_cases h : i < 8
  · rw [decide_eq_true h, decide_eq_false (show ¬ i ≥ 8 by omega)]; simp
  · rw [decide_eq_false h, decide_eq_true (show i ≥ 8 by omega), show i - 8 + 8 = i by omega]; simp
theorem ntimes8 (y : Nat) : ntimes 8 y = ntimes 8 (y % 256) ^^^ (y / 256) := by
  conv => lhs; rw [split256 y, ntimes_xor, ntimes_high]
  exact Nat.xor_comm _ _
/-- One octet: the register bit by bit. -/
def nbyte (c x : Nat) : Nat := ntimes 8 (c ^^^ x)
theorem nbyte_lt (c x : Nat) (h : c < 4294967296) (hx : x < 256) : nbyte c x < 4294967296 := ntimes_lt 8 _ (xor32 c x h (by omega)).2
theorem tagStep_nat (c x : Nat) (h : c < 4294967296) (hx : x < 256) : tagStep (c : Int) (x : Int) = (nbyte c x : Int) := by
  have h8 := xor8 (c % 256) x (by omega) hx
  have hmod : (c ^^^ x) % 256 = c % 256 ^^^ x := by
    have := Nat.xor_mod_two_pow (a := c) (b := x) (n := 8)
    rw [show (2 : Nat) ^ 8 = 256 from rfl, Nat.mod_eq_of_lt hx] at this
    exact this
  have hdiv : (c ^^^ x) / 256 = c / 256 := by
    have := Nat.xor_div_two_pow (a := c) (b := x) (n := 8)
    rw [show (2 : Nat) ^ 8 = 256 from rfl, Nat.div_eq_of_lt hx, Nat.xor_zero] at this
    exact this
  unfold tagStep nbyte
  rw [show (c : Int) % 256 = ((c % 256 : Nat) : Int) by omega, h8.1, Int.toNat_natCast, show (c : Int) / 256 = ((c / 256 : Nat) : Int) by omega, ntimes8, hmod, hdiv]
  unfold tab
  rw [ttimes_nat 8 _ (by omega)]
  exact (xor32 _ _ (ntimes_lt 8 _ (by omega)) (by omega)).1
def nrun (c : Nat) (l : List UInt8) : Nat := l.foldl (fun c x => nbyte c x.toNat) c
theorem tagRun_nat (l : List UInt8) (c : Nat) (h : c < 4294967296) : tagRun (c : Int) l = (nrun c l : Int) ∧ nrun c l < 4294967296 := by
  induction l generalizing c with
  | nil => exact ⟨rfl, h⟩
  | cons x l ih =>
    have hx : x.toNat < 256 := x.toNat_lt
    have := ih (nbyte c x.toNat) (nbyte_lt c _ h hx)
    refine ⟨?_, this.2⟩
    show tagRun (tagStep (c : Int) (x.toNat : Int)) l = _
    rw [tagStep_nat c _ h hx]
    exact this.1
theorem not32 (t : Nat) (h : t < 4294967296) : tagNot (t : Int) = ((4294967295 - t : Nat) : Int) := by
  unfold tagNot
  rw [show IntKind.u32.max = ((4294967295 : Nat) : Int) from rfl, (xor32 4294967295 t (by omega) h).1]
  congr 1
  apply Nat.eq_of_testBit_eq
  intro i
  rw [Nat.testBit_xor, show (4294967295 : Nat) = 2 ^ 32 - 1 from rfl, Nat.testBit_two_pow_sub_one, show 2 ^ 32 - 1 - t = 2 ^ 32 - (t + 1) by omega, Nat.testBit_two_pow_sub_succ (by omega)]
  by_cases hi : i < 32
  · simp [hi]
  · simp [hi]
    exact Nat.testBit_lt_two_pow (Nat.lt_of_lt_of_le (show t < 2 ^ 32 by omega) (Nat.pow_le_pow_right (by omega) (by omega)))
theorem tagOf_nat (s : ByteArray) : tagOf s = ((4294967295 - nrun 4294967295 s.data.toList : Nat) : Int) := by
  unfold tagOf tagMore
  rw [show (0 : Int) = ((0 : Nat) : Int) from rfl, not32 0 (by omega), (tagRun_nat _ _ (by omega)).1]
  exact not32 _ (tagRun_nat _ _ (by omega)).2
end Go.Proofs.YtgpmkbmobdbdoaaDoor.Q

-- P6
namespace Go.Proofs.YtgpmkbmobdbdoaaDoor.Q
open Go.RowKit Go.Proofs.YtgpmkbmobdbdoaaDoorW.PrintWords Go.Proofs.YtgpmkbmobdbdoaaDoorW.PrintLast Go.Proofs.YtgpmkbmobdbdoaaDoorW.PrintMore
set_option linter.unusedVariables false
set_option linter.unusedSimpArgs false

/-! The document's tag is the program's. -/
theorem ntimes_in (m c : Nat) : ntimes (m + 1) c = ntimes m (nstep c) := by
  induction m with
  | zero => rfl
  | succ m ih => show nstep (ntimes (m + 1) c) = nstep (ntimes m (nstep c)); rw [ih]
theorem ref_step_l0 (m : Nat) : ∀ (k i c : Nat), m < k → i + m = 8 → c < 4294967296 → cellarerref04_step.l0 k (c : Int) (i : Int) = some ((ntimes m c : Nat) : Int) := by
  induction m with
  | zero =>
    intro k i c hk hi hc
    obtain ⟨k, rfl⟩ : ∃ j, k = j + 1 := ⟨k - 1, by omega⟩
    simp only [cellarerref04_step.l0]
    rw [if_neg (by omega)]; rfl
  | succ m ih =>
    intro k i c hk hi hc
    obtain ⟨k, rfl⟩ : ∃ j, k = j + 1 := ⟨k - 1, by omega⟩
    have hw : wrap64 ((i : Int) + 1) = ((i + 1 : Nat) : Int) := by rw [wrap64_of (by omega) (by omega)]; omega
    have hm : Int.tmod (c : Int) 2 = ((c % 2 : Nat) : Int) := by rw [Int.tmod_eq_emod_of_nonneg (by omega)]; omega
    have hd : (Int.tdiv (c : Int) 2) % 4294967296 = ((c / 2 : Nat) : Int) := by rw [Int.tdiv_eq_ediv_of_nonneg (by omega)]; omega
    simp only [cellarerref04_step.l0]
    rw [if_pos (by omega), hm, hd, hw, ntimes_in]
    by_cases h : c % 2 = 1
    · rw [if_pos (by omega), show (2197175160 : Int) = ((2197175160 : Nat) : Int) from rfl, (xor32 (c / 2) 2197175160 (by omega) (by omega)).1, ih k (i + 1) _ (by omega) (by omega) (xor32 (c / 2) 2197175160 (by omega) (by omega)).2]
      unfold nstep; rw [if_pos h]
    · rw [if_neg (by omega), ih k (i + 1) _ (by omega) (by omega) (by omega)]
      unfold nstep; rw [if_neg h, Nat.xor_zero]
theorem ref_step (k c x : Nat) (hk : 8 < k) (hc : c < 4294967296) (hx : x < 256) : cellarerref04_step.f k (c : Int) (x : Int) = some ((nbyte c x : Nat) : Int) := by
  unfold cellarerref04_step.f
  rw [show ((x : Int)) % 4294967296 = ((x : Nat) : Int) by omega, (xor32 c x hc (by omega)).1]
  exact ref_step_l0 8 k 0 _ hk rfl (xor32 c x hc (by omega)).2
theorem ref_of_l0 (s : ByteArray) (hs : (s.size : Int) ≤ 9223372036854775807) : ∀ (d k i c : Nat), d + 9 < k → i + d = s.size → c < 4294967296 → cellarerref04_Of.l0 k s (c : Int) (i : Int) = some ((4294967295 - nrun c (s.data.toList.drop i) : Nat) : Int) := by
  intro d
  induction d with
  | zero =>
    intro k i c hk hi hc
    obtain ⟨k, rfl⟩ : ∃ j, k = j + 1 := ⟨k - 1, by omega⟩
    simp only [cellarerref04_Of.l0]
    rw [if_neg (by omega), List.drop_eq_nil_of_le (by show s.data.toList.length ≤ i; rw [Array.length_toList]; show s.size ≤ i; omega)]
    show some _ = some _
    congr 1
    show (4294967295 - (c : Int)) % 4294967296 = ((4294967295 - c : Nat) : Int)
    omega
  | succ d ih =>
    intro k i c hk hi hc
    obtain ⟨k, rfl⟩ : ∃ j, k = j + 1 := ⟨k - 1, by omega⟩
    have hw : wrap64 ((i : Int) + 1) = ((i + 1 : Nat) : Int) := by rw [wrap64_of (by omega) (by omega)]; omega
    have hl : i < s.data.toList.length := by rw [Array.length_toList]; show i < s.size; omega
    have hb : bt s (i : Int) = ((s.data.toList[i].toNat : Nat) : Int) := by
      rw [← bt_at s (i : Int) (by rw [Int.toNat_natCast]; omega)]
      rfl
    simp only [cellarerref04_Of.l0]
    rw [if_pos (by omega), if_pos (by omega), hb, ref_step k c _ (by omega) hc (UInt8.toNat_lt _), Option.bind_some, hw, ih k (i + 1) _ (by omega) (by omega) (nbyte_lt c _ hc (UInt8.toNat_lt _)), List.drop_eq_getElem_cons hl]
    rfl
theorem ref_of (s : ByteArray) (hs : (s.size : Int) ≤ 9223372036854775807) (k : Nat) (hk : s.size + 9 < k) : cellarerref04_Of.f k s = some (tagOf s) := by
  unfold cellarerref04_Of.f
  rw [tagOf_nat]
  exact ref_of_l0 s hs s.size k 0 4294967295 hk (by omega) (by omega)
end Go.Proofs.YtgpmkbmobdbdoaaDoor.Q

-- P7
namespace Go.Proofs.YtgpmkbmobdbdoaaDoor.Q
open Go.RowKit Go.Proofs.YtgpmkbmobdbdoaaDoorW.PrintWords Go.Proofs.YtgpmkbmobdbdoaaDoorW.PrintLast Go.Proofs.YtgpmkbmobdbdoaaDoorW.PrintMore
set_option linter.unusedVariables false
set_option linter.unusedSimpArgs false

/-! The document's One is fine; its Whole is the program's. -/
end Go.Proofs.YtgpmkbmobdbdoaaDoor.Q

-- P8
namespace Go.Proofs.YtgpmkbmobdbdoaaDoor.Q
open Go.RowKit Go.Proofs.YtgpmkbmobdbdoaaDoorW.PrintWords Go.Proofs.YtgpmkbmobdbdoaaDoorW.PrintLast Go.Proofs.YtgpmkbmobdbdoaaDoorW.PrintMore
set_option linter.unusedVariables false
set_option linter.unusedSimpArgs false

/-! The document's Whole is the program's. -/
end Go.Proofs.YtgpmkbmobdbdoaaDoor.Q

-- P9
namespace Go.Proofs.YtgpmkbmobdbdoaaDoor.Q
open Go.RowKit Go.Proofs.YtgpmkbmobdbdoaaDoorW.PrintWords Go.Proofs.YtgpmkbmobdbdoaaDoorW.PrintLast Go.Proofs.YtgpmkbmobdbdoaaDoorW.PrintMore
set_option linter.unusedVariables false
set_option linter.unusedSimpArgs false

/-! What the document's loops collect is what the program's wholes are made of. -/
theorem none_data (n : Int) (ps : List S40) (s : ByteArray) (h : ∀ p ∈ ps, p.f0 ≠ n) : ps.foldl (fun s p => if p.f0 = n then p.f1 else s) s = s := by
  induction ps with
  | nil => rfl
  | cons p ps ih =>
    rw [List.foldl_cons, if_neg (h p List.mem_cons_self)]
    exact ih (fun q hq => h q (List.mem_cons_of_mem _ hq))
end Go.Proofs.YtgpmkbmobdbdoaaDoor.Q

-- P11
namespace Go.Proofs.YtgpmkbmobdbdoaaDoor.Q
open Go.RowKit Go.Proofs.YtgpmkbmobdbdoaaDoorW.PrintWords Go.Proofs.YtgpmkbmobdbdoaaDoorW.PrintLast Go.Proofs.YtgpmkbmobdbdoaaDoorW.PrintMore
set_option linter.unusedVariables false
set_option linter.unusedSimpArgs false

/-! What is fine, and what may be, by members and pairs; a part that is laid, as a split. -/
theorem adj_iff {α : Type} (P : α → Bool) (f : α → Int) (z : α) (l : List α) :
    allFrom (fun j => P (l.getD j z) && (decide (j = 0) || decide (f (l.getD (j - 1) z) < f (l.getD j z)))) 0 l.length = true ↔ (∀ x ∈ l, P x = true) ∧ l.Pairwise (fun a b => f a < f b) := by
  have gd : ∀ (j : Nat) (h : j < l.length), l.getD j z = l[j] := fun j h => by rw [List.getD_eq_getElem?_getD, List.getElem?_eq_getElem h]; rfl
  rw [allFrom_iff]
  constructor
  · intro h
    have h1 : ∀ (j : Nat) (hj : j < l.length), P l[j] = true ∧ (0 < j → f (l[j - 1]'(by omega)) < f l[j]) := by
      intro j hj
      have := h j (Nat.zero_le _) (by omega)
      rw [Bool.and_eq_true, Bool.or_eq_true, gd j hj, gd (j - 1) (by omega)] at this
      refine ⟨this.1, fun h0 => ?_⟩
      rcases this.2 with h | h
      · have : j = 0 := by simpa using h
        omega
      · simpa using h
    refine ⟨fun x hx => ?_, ?_⟩
    · obtain ⟨j, hj, rfl⟩ := List.getElem_of_mem hx
      exact (h1 j hj).1
    · rw [List.pairwise_iff_getElem]
      intro i j hi hj hij
      induction j with
      | zero => omega
      | succ j ih =>
        have h2 := (h1 (j + 1) hj).2 (by omega)
        simp only [Nat.add_sub_cancel] at h2
        rcases Nat.eq_or_lt_of_le (Nat.le_of_lt_succ hij) with rfl | h3
        · exact h2
        · have := ih (by omega) h3; omega
  · rintro ⟨h1, h2⟩ j _ hj
    rw [List.pairwise_iff_getElem] at h2
    rw [Bool.and_eq_true, Bool.or_eq_true, gd j (by omega), gd (j - 1) (by omega)]
    refine ⟨h1 _ (List.getElem_mem _), ?_⟩
    by_cases h0 : j = 0
    · exact Or.inl (by simpa using h0)
    · exact Or.inr (by simpa using h2 (j - 1) j (by omega) (by omega) (by omega))
theorem fine_iff (u : Int) (key : ByteArray) (l : List S40) : fineB u key l = true ↔ numB u = true ∧ keyB key = true ∧ l.length ≤ 30 ∧ (∀ x ∈ l, mayB x = true) ∧ l.Pairwise (fun a b => a.f0 < b.f0) := by
  unfold fineB
  rw [Bool.and_eq_true, Bool.and_eq_true, Bool.and_eq_true, decide_eq_true_eq]
  rw [show allFrom (adjB l) 0 l.length = true ↔ _ from adj_iff mayB (fun x => x.f0) z40 l]
theorem check_iff (l : List S25) : checkB l = true ↔ l.length ≤ 10 ∧ (∀ u ∈ l, fineB u.f0 u.f1 u.f2 = true) ∧ l.Pairwise (fun a b => a.f0 < b.f0) := by
  unfold checkB
  rw [Bool.and_eq_true, decide_eq_true_eq]
  rw [show allFrom (adjU l) 0 l.length = true ↔ _ from adj_iff (fun u : S25 => fineB u.f0 u.f1 u.f2) (fun x : S25 => x.f0) z25 l]
theorem low_split (l : List S40) (m : Int) : (∀ x ∈ l.take (lowP l m), x.f0 < m) ∧ (∀ x, (l.drop (lowP l m)).head? = some x → m ≤ x.f0) := by
  constructor
  · intro x hx
    obtain ⟨j, hj, rfl⟩ := List.getElem_of_mem hx
    rw [List.getElem_take]
    rw [List.length_take] at hj
    have := List.not_of_lt_findIdx (p := fun p : S40 => decide (m ≤ p.f0)) (xs := l) (i := j) (by unfold lowP at hj; omega)
    simpa using this
  · intro x hx
    rw [List.head?_drop] at hx
    obtain ⟨hl, rfl⟩ := List.getElem?_eq_some_iff.1 hx
    have := List.findIdx_getElem (p := fun p : S40 => decide (m ≤ p.f0)) (xs := l) (w := hl)
    exact of_decide_eq_true this
theorem lay_split (l : List S40) (p : S40) (hs : l.Pairwise (fun a b => a.f0 < b.f0)) :
    ∃ A M B, l = A ++ (M ++ B) ∧ layParts l p = A ++ p :: B ∧ (∀ x ∈ A, x.f0 < p.f0) ∧ (∀ x ∈ B, p.f0 < x.f0) ∧ ((M = [] ∧ thereP l p.f0 = false) ∨ ∃ q, M = [q] ∧ q.f0 = p.f0 ∧ thereP l p.f0 = true) := by
  obtain ⟨hA, hB⟩ := low_split l p.f0
  have e0 := List.take_append_drop (lowP l p.f0) l
  have hk : lowP l p.f0 ≤ l.length := List.findIdx_le_length
  have hlen : (l.take (lowP l p.f0)).length = lowP l p.f0 := by rw [List.length_take]; omega
  have hL : layParts l p = if thereP l p.f0 = true then l.set (lowP l p.f0) p else l.take (lowP l p.f0) ++ (p :: l.drop (lowP l p.f0)) := rfl
  generalize lowP l p.f0 = k at *
  generalize hAA : l.take k = A at *
  generalize hDD : l.drop k = D at *
  have hth : thereP l p.f0 = D.any (fun q => q.f0 == p.f0) := by
    unfold thereP
    rw [← e0, List.any_append]
    have : A.any (fun q => q.f0 == p.f0) = false := by
      rw [List.any_eq_false]
      intro x hx
      have := hA x hx
      simp; omega
    rw [this, Bool.false_or]
  rw [← e0] at hs
  cases D with
  | nil =>
    have h1 : thereP l p.f0 = false := hth
    exact ⟨A, [], [], by simpa using e0.symm, by rw [hL, h1]; rfl, hA, by simp, Or.inl ⟨rfl, h1⟩⟩
  | cons q D =>
    have h0 := hB q rfl
    have hp := (List.pairwise_cons.1 (List.pairwise_append.1 hs).2.1).1
    by_cases hq : q.f0 = p.f0
    · have h1 : thereP l p.f0 = true := by rw [hth, List.any_cons]; simp [hq]
      refine ⟨A, [q], D, by simpa using e0.symm, ?_, hA, fun x hx => by have := hp x hx; omega, Or.inr ⟨q, rfl, hq, h1⟩⟩
      rw [hL, if_pos h1, ← e0, List.set_append_right _ _ (by omega), hlen, Nat.sub_self]; rfl
    · have h1 : thereP l p.f0 = false := by
        rw [hth, List.any_eq_false]
        intro x hx
        rcases List.mem_cons.1 hx with rfl | hx
        · simpa using hq
        · have := hp x hx
          simp; omega
      refine ⟨A, [], q :: D, by simpa using e0.symm, by rw [hL, h1]; rfl, hA, fun x hx => ?_, Or.inl ⟨rfl, h1⟩⟩
      rcases List.mem_cons.1 hx with rfl | hx
      · omega
      · have := hp x hx; omega
/-- How many octets the parts have. -/
def sumP (l : List S40) : Nat := (l.map fun p => p.f1.size).sum
def sumU (l : List S25) : Nat := (l.map fun u => sumP u.f2).sum
theorem sumP_append (a b : List S40) : sumP (a ++ b) = sumP a + sumP b := by unfold sumP; rw [List.map_append, List.sum_append]
theorem sumU_set (l : List S25) : ∀ (i : Nat) (h : i < l.length) (u : S25), sumU (l.set i u) + sumP l[i].f2 = sumU l + sumP u.f2 := by
  induction l with
  | nil => intro i h; exact absurd h (Nat.not_lt_zero _)
  | cons x l ih =>
    intro i h u
    have e : ∀ (y : S25) (m : List S25), sumU (y :: m) = sumP y.f2 + sumU m := fun y m => by unfold sumU; rw [List.map_cons, List.sum_cons]
    cases i with
    | zero => rw [List.set_cons_zero, e, e, List.getElem_cons_zero]; omega
    | succ i =>
      have := ih i (by simpa using h) u
      rw [List.set_cons_succ, e, e, List.getElem_cons_succ]; omega
theorem posU_some {l : List S25} {id : Int} {i : Nat} (h : posU l id = some i) : ∃ hl : i < l.length, l[i].f0 = id := posU_lt h
/-- Behind a Lay that went: what is there. -/
structure Laid (l : List S25) (id : Int) (p : S40) (u v : S25) (next : List S25) : Prop where
  found : findR l id = (u, 0)
  again : findR next id = (v, 0)
  check : checkB next = true
  was : checkB l = true
  there : v.f2.countP (fun q => decide (q.f0 = p.f0) && decide (q.f1 = p.f1)) = 1
  sum : sumU next + (dataOf u.f2 p.f0).size = sumU l + p.f1.size
theorem dataOf_split (A M B : List S40) (n : Int) (hA : ∀ x ∈ A, x.f0 < n) (hB : ∀ x ∈ B, n < x.f0) (hM : M = [] ∨ ∃ q, M = [q] ∧ q.f0 = n) : (dataOf (A ++ (M ++ B)) n).size = sumP M := by
  unfold dataOf
  rw [List.foldl_append, none_data n A _ (fun x hx => by have := hA x hx; omega), List.foldl_append, none_data n B _ (fun x hx => by have := hB x hx; omega)]
  rcases hM with rfl | ⟨q, rfl, hq⟩
  · rfl
  · rw [List.foldl_cons, if_pos hq]; unfold sumP; simp
theorem laid_of {l : List S25} {id : Int} {p : S40} (h : (layR l id p).2.2 = 0) : ∃ u v, Laid l id p u v (layR l id p).1 ∧ (layR l id p).1.length = l.length ∧ mayB p = true ∧ (layR l id p).2.1 = tagOf p.f1 := by
  unfold layR at h ⊢
  by_cases h1 : checkB l = false ∨ mayB p = false
  · rw [if_pos h1] at h; exact absurd h (by decide)
  rw [if_neg h1] at h ⊢
  have hc : checkB l = true := by cases h : checkB l <;> simp_all
  have hm : mayB p = true := by cases h : mayB p <;> simp_all
  cases hp : posU l id with
  | none => rw [hp] at h; exact absurd h (show ¬ ((4 : Int) = 0) by decide)
  | some i =>
    rw [hp] at h
    simp only at h ⊢
    obtain ⟨hi, hid⟩ := posU_some hp
    have hg : l.getD i z25 = l[i] := by rw [List.getD_eq_getElem?_getD, List.getElem?_eq_getElem hi]; rfl
    rw [hg] at h ⊢
    by_cases h2 : thereP l[i].f2 p.f0 = false ∧ l[i].f2.length = 30
    · rw [if_pos h2] at h; exact absurd h (by decide)
    rw [if_neg h2] at h ⊢
    clear h
    obtain ⟨hlen, hf, hs⟩ := (check_iff l).1 hc
    have hfi := hf l[i] (List.getElem_mem hi)
    obtain ⟨g1, g2, g3, g4, g5⟩ := (fine_iff _ _ _).1 hfi
    obtain ⟨A, M, B, e1, e2, e3, e4, e5⟩ := lay_split l[i].f2 p g5
    have hv : fineB l[i].f0 l[i].f1 (layParts l[i].f2 p) = true := by
      rw [fine_iff]
      refine ⟨g1, g2, ?_, ?_, ?_⟩
      · rw [e2, List.length_append, List.length_cons]
        have hl2 := congrArg List.length e1
        rw [List.length_append, List.length_append] at hl2
        rcases e5 with ⟨rfl, h⟩ | ⟨q, rfl, _, _⟩
        · have : ¬ l[i].f2.length = 30 := fun h3 => h2 ⟨h, h3⟩
          simp at hl2; omega
        · simp at hl2; omega
      · intro x hx
        rw [e2] at hx
        rcases List.mem_append.1 hx with hx | hx
        · exact g4 x (by rw [e1]; exact List.mem_append_left _ hx)
        · rcases List.mem_cons.1 hx with rfl | hx
          · exact hm
          · exact g4 x (by rw [e1]; exact List.mem_append_right _ (List.mem_append_right _ hx))
      · rw [e1] at g5
        obtain ⟨p1, p2, p3⟩ := List.pairwise_append.1 g5
        obtain ⟨p4, p5, p6⟩ := List.pairwise_append.1 p2
        rw [e2, List.pairwise_append]
        refine ⟨p1, List.pairwise_cons.2 ⟨e4, p5⟩, fun a ha b hb => ?_⟩
        rcases List.mem_cons.1 hb with rfl | hb
        · exact e3 a ha
        · exact p3 a ha b (List.mem_append_right _ hb)
    have hck : checkB (l.set i ⟨l[i].f0, l[i].f1, layParts l[i].f2 p⟩) = true := by
      rw [check_iff]
      refine ⟨by rw [List.length_set]; exact hlen, fun u hu => ?_, ?_⟩
      · rcases List.mem_or_eq_of_mem_set hu with hu | rfl
        · exact hf u hu
        · exact hv
      · have e6 : (l.set i ⟨l[i].f0, l[i].f1, layParts l[i].f2 p⟩).map (fun u : S25 => u.f0) = l.map (fun u => u.f0) := by
          rw [List.map_set]
          apply List.ext_getElem (by simp)
          intro j h1 h2
          rw [List.getElem_set]
          split
          · rename_i hij; subst hij; simp
          · rfl
        rw [← List.pairwise_map (f := fun u : S25 => u.f0) (R := fun a b => a < b), e6, List.pairwise_map]
        exact hs
    have hpn : posU (l.set i ⟨l[i].f0, l[i].f1, layParts l[i].f2 p⟩) id = some i := by
      unfold posU at hp ⊢
      rw [List.findIdx?_eq_some_iff_getElem] at hp ⊢
      obtain ⟨hl, q1, q2⟩ := hp
      refine ⟨by rw [List.length_set]; exact hl, by rw [List.getElem_set_self]; exact q1, fun j hj => ?_⟩
      rw [List.getElem_set_ne (by omega)]
      exact q2 j hj
    refine ⟨l[i], ⟨l[i].f0, l[i].f1, layParts l[i].f2 p⟩, ⟨?_, ?_, hck, hc, ?_, ?_⟩, List.length_set, hm, rfl⟩
    · unfold findR
      rw [if_neg (by rw [hc]; simp), hp]
      simp only
      rw [hg]
    · unfold findR
      rw [if_neg (by rw [hck]; simp), hpn]
      simp only
      rw [List.getD_eq_getElem?_getD, List.getElem?_eq_getElem (by rw [List.length_set]; exact hi), List.getElem_set_self]; rfl
    · show List.countP _ (layParts l[i].f2 p) = 1
      rw [e2, List.countP_append, List.countP_cons, List.countP_eq_zero.2 (fun x hx => by have := e3 x hx; simp; intro h; omega), List.countP_eq_zero.2 (fun x hx => by have := e4 x hx; simp; intro h; omega)]
      simp
    · have h3 := sumU_set l i hi ⟨l[i].f0, l[i].f1, layParts l[i].f2 p⟩
      have h4 : (dataOf l[i].f2 p.f0).size = sumP M := by
        have := dataOf_split A M B p.f0 e3 e4 (by rcases e5 with ⟨h, _⟩ | ⟨q, h, h', _⟩; exact Or.inl h; exact Or.inr ⟨q, h, h'⟩)
        rw [← e1] at this; exact this
      have h5 : sumP l[i].f2 = sumP A + (sumP M + sumP B) := by
        have := congrArg sumP e1
        rw [sumP_append, sumP_append] at this; exact this
      have h6 : sumP (layParts l[i].f2 p) = sumP A + (p.f1.size + sumP B) := by
        rw [e2, sumP_append]; rfl
      show sumU (l.set i ⟨l[i].f0, l[i].f1, layParts l[i].f2 p⟩) + _ = _
      simp only at h3
      omega
end Go.Proofs.YtgpmkbmobdbdoaaDoor.Q

-- P12
namespace Go.Proofs.YtgpmkbmobdbdoaaDoor.Q
open Go.RowKit Go.Proofs.YtgpmkbmobdbdoaaDoorW.PrintWords Go.Proofs.YtgpmkbmobdbdoaaDoorW.PrintLast Go.Proofs.YtgpmkbmobdbdoaaDoorW.PrintMore
set_option linter.unusedVariables false
set_option linter.unusedSimpArgs false

/-! How many octets there are, by the program's loops. -/
theorem sumP_cons (p : S40) (l : List S40) : sumP (p :: l) = p.f1.size + sumP l := by unfold sumP; rw [List.map_cons, List.sum_cons]
theorem sumU_cons (u : S25) (l : List S25) : sumU (u :: l) = sumP u.f2 + sumU l := by unfold sumU; rw [List.map_cons, List.sum_cons]
theorem oct_l1 (l : List S25) (n i : Int) (ps : List S40) (hn : (ps.length : Int) ≤ 9223372036854775807) (k : Nat) : ∀ (d j x : Nat), j + d = ps.length → ((x + sumP (ps.drop j) : Nat) : Int) ≤ 9223372036854775807 →
    parts_Octets.l1 (k + d + 1) (x : Int) l n i ps (ps.length : Int) (j : Int) = parts_Octets.l0 k ((x + sumP (ps.drop j) : Nat) : Int) l n (wrap64 (i + 1)) := by
  intro d
  induction d with
  | zero =>
    intro j x hj hx
    rw [show k + 0 + 1 = k + 1 from rfl]
    simp only [parts_Octets.l1]
    rw [if_neg (by omega), List.drop_eq_nil_of_le (by omega)]; rfl
  | succ d ih =>
    intro j x hj hx
    have hj1 : j < ps.length := by omega
    have e1 : rd_T40 ps (j : Int) = ps[j] := by unfold rd_T40; rw [Int.toNat_natCast, List.getD_eq_getElem?_getD, List.getElem?_eq_getElem hj1]; rfl
    rw [List.drop_eq_getElem_cons hj1, sumP_cons] at hx ⊢
    rw [show k + (d + 1) + 1 = (k + d + 1) + 1 from rfl]
    generalize hK : k + d + 1 = K
    simp only [parts_Octets.l1]
    subst hK
    rw [if_pos (by omega), if_pos (by omega), if_pos (by omega), e1, wrap64_of (x := (x : Int) + _) (by omega) (by omega), wrap64_of (x := (j : Int) + 1) (by omega) (by omega)]
    rw [show (x : Int) + (ps[j].f1.size : Int) = ((x + ps[j].f1.size : Nat) : Int) by omega, show (j : Int) + 1 = ((j + 1 : Nat) : Int) by omega, ih (j + 1) (x + ps[j].f1.size) (by omega) (by omega)]
    congr 2; omega
def needO : List S25 → Nat
  | [] => 1
  | u :: us => needO us + u.f2.length + 2
theorem oct_l0 (l : List S25) (hn : (l.length : Int) ≤ 9223372036854775807) (hi : ∀ u ∈ l, (u.f2.length : Int) ≤ 9223372036854775807) : ∀ (us : List S25) (i x : Nat), us = l.drop i → i ≤ l.length → ((x + sumU us : Nat) : Int) ≤ 9223372036854775807 →
    parts_Octets.l0 (needO us) (x : Int) l (l.length : Int) (i : Int) = some ((x + sumU us : Nat) : Int) := by
  intro us
  induction us with
  | nil =>
    intro i x hus hil hx
    have h1 : ¬ i < l.length := by
      intro h
      have := congrArg List.length hus
      rw [List.length_drop] at this; simp at this; omega
    show parts_Octets.l0 (0 + 1) _ _ _ _ = _
    simp only [parts_Octets.l0]
    rw [if_neg (by omega)]; rfl
  | cons u us ih =>
    intro i x hus hil hx
    have hi1 : i < l.length := by
      have := congrArg List.length hus
      rw [List.length_drop] at this; simp at this; omega
    rw [List.drop_eq_getElem_cons hi1] at hus
    injection hus with hu hus
    have e1 : rd_T25 l (i : Int) = u := by unfold rd_T25; rw [Int.toNat_natCast, List.getD_eq_getElem?_getD, List.getElem?_eq_getElem hi1, hu]; rfl
    have hul := hi u (by rw [hu]; exact List.getElem_mem _)
    rw [sumU_cons] at hx ⊢
    show parts_Octets.l0 (needO us + u.f2.length + 1 + 1) _ _ _ _ = _
    generalize hK : needO us + u.f2.length + 1 = K
    simp only [parts_Octets.l0]
    subst hK
    rw [if_pos (by omega), if_pos (by omega), if_pos (by omega), e1]
    have := oct_l1 l (l.length : Int) (i : Int) u.f2 hul (needO us) u.f2.length 0 x (by omega) (by rw [List.drop_zero]; omega)
    rw [List.drop_zero, show ((0 : Nat) : Int) = 0 from rfl] at this
    rw [this, wrap64_of (x := (i : Int) + 1) (by omega) (by omega), show (i : Int) + 1 = ((i + 1 : Nat) : Int) by omega, ih (i + 1) (x + sumP u.f2) hus (by omega) (by omega)]
    congr 2; omega
theorem octets_of (l : List S25) (hn : (l.length : Int) ≤ 9223372036854775807) (hi : ∀ u ∈ l, (u.f2.length : Int) ≤ 9223372036854775807) (hs : ((sumU l : Nat) : Int) ≤ 9223372036854775807) : parts_Octets.f (needO l) l = some (sumU l : Int) := by
  unfold parts_Octets.f
  have := oct_l0 l hn hi l 0 0 (by simp) (Nat.zero_le _) (by rw [Nat.zero_add]; exact hs)
  rw [Nat.zero_add] at this
  exact this
theorem octets_calls {w : World} {A : Option Addr} {c : Nat} {l : List S25} (hr : Kd.C k25 w A l.length l) (hc : l.length ≤ c) (hs : sumU l ≤ 9223372036854775807) :
    Calls Tryd.prog 17 #[.slice A l.length c] w fun e w' => e = .returned (.int .i64 (sumU l : Int)) ∧ Below w.heap.size w w' :=
  parts_Octets.calls (needO l) A c l _ w hr hc (octets_of l (by have := hr.2.1; omega) (inner_bound hr) (by omega))
theorem sumP_le (l : List S40) (n m : Nat) (hl : l.length ≤ n) (h : ∀ p ∈ l, p.f1.size ≤ m) : sumP l ≤ n * m := by
  induction l generalizing n with
  | nil => exact Nat.zero_le _
  | cons p l ih =>
    rw [List.length_cons] at hl
    rw [sumP_cons]
    obtain ⟨n, rfl⟩ : ∃ j, n = j + 1 := ⟨n - 1, by omega⟩
    have h1 := h p List.mem_cons_self
    have h2 := ih n (by omega) (fun q hq => h q (List.mem_cons_of_mem _ hq))
    rw [Nat.add_mul, Nat.one_mul]; omega
theorem sumU_le (l : List S25) (n m : Nat) (hl : l.length ≤ n) (h : ∀ u ∈ l, sumP u.f2 ≤ m) : sumU l ≤ n * m := by
  induction l generalizing n with
  | nil => exact Nat.zero_le _
  | cons p l ih =>
    rw [List.length_cons] at hl
    rw [sumU_cons]
    obtain ⟨n, rfl⟩ : ∃ j, n = j + 1 := ⟨n - 1, by omega⟩
    have h1 := h p List.mem_cons_self
    have h2 := ih n (by omega) (fun q hq => h q (List.mem_cons_of_mem _ hq))
    rw [Nat.add_mul, Nat.one_mul]; omega
theorem check_sum {l : List S25} (h : checkB l = true) : sumU l ≤ 600000 := by
  obtain ⟨h1, h2, _⟩ := (check_iff l).1 h
  have := sumU_le l 10 60000 h1 (fun u hu => by
    obtain ⟨_, _, g3, g4, _⟩ := (fine_iff _ _ _).1 (h2 u hu)
    have := sumP_le u.f2 30 2000 g3 (fun p hp => by
      have := g4 p hp
      unfold mayB at this
      simp only [Bool.and_eq_true, decide_eq_true_eq] at this
      exact this.2.2)
    omega)
  omega
end Go.Proofs.YtgpmkbmobdbdoaaDoor.Q

-- T28
namespace Go.Proofs.YtgpmkbmobdbdoaaDoor.Q
open Go.RowKit Go.Proofs.YtgpmkbmobdbdoaaDoorW.PrintWords Go.Proofs.YtgpmkbmobdbdoaaDoorW.PrintLast Go.Proofs.YtgpmkbmobdbdoaaDoorW.PrintMore
attribute [local go_sem high] eqA40
set_option linter.unusedVariables false
set_option linter.unusedSimpArgs false

theorem lay_calls (A : Option Addr) (c n : Nat) (l : List S25) (id : Int) (p : S40) (w : World) (next : List S25) (t e : Int) (h : layR l id p = (next, t, e)) (hn : n = l.length) (hr : Hid (Kd.C k25 w A n l)) (hc : n ≤ c) :
    Calls Tryd.prog 14 #[.slice A n c, .int .u64 id, .agg #[.int .i64 p.f0, .string p.f1]] w fun e' w' => ∃ A c, e' = .returned (.tuple #[.slice A next.length c, .int .u32 t, .int .i64 e]) ∧ next.length ≤ c ∧ Hid (Kd.C k25 w' A next.length next) ∧ Below w.heap.size w w' := by
  subst hn
  have := lay.walk A c l id p w hr.out hc
  rw [h] at this
  exact this
theorem find_calls (A : Option Addr) (c n : Nat) (l : List S25) (id : Int) (w : World) (u : S25) (e : Int) (h : findR l id = (u, e)) (hn : n = l.length) (hr : Hid (Kd.C k25 w A n l)) (hc : n ≤ c) :
    Calls Tryd.prog 16 #[.slice A n c, .int .u64 id] w fun e' w' => ∃ A c, e' = .returned (.tuple #[.agg #[.int .u64 u.f0, .string u.f1, .slice A u.f2.length c], .int .i64 e]) ∧ u.f2.length ≤ c ∧ Hid (Kd.C k40 w' A u.f2.length u.f2) ∧ Below w.heap.size w w' := by
  subst hn
  have := find.walk A c l id w hr.out hc
  unfold FindPost at this
  rw [h] at this
  exact this
theorem one_calls (p : S40) (w : World) : Calls Tryd.prog 13 #[.agg #[.int .i64 p.f0, .string p.f1]] w fun e w' => e = .returned (.agg #[.int .i64 (onePart p).f0, .string (onePart p).f1]) ∧ Below w.heap.size w w' := cellarerlaw08_One.calls _ _ _ _ w (one_part p)
theorem blk_two {w : World} {b : Nat} {x y x' y' : Value} {t : TypeId} (h : w.heap[b]? = some (.cells #[x, y] t (0, 0))) : ((w.setCell ⟨b, 0, none⟩ x').setCell ⟨b, 1, none⟩ y').heap[b]? = some (.cells #[x', y'] t (0, 0)) := blk_set (blk_set h 0 x') 1 y'
/-- What was made behind block b, and stays while those blocks stay. -/
def FarC (b : Nat) (w1 : World) (A : Option Addr) (l : List S25) : Prop := ∀ W : World, (∀ k, b ≤ k → k < w1.heap.size → W.heap[k]? = w1.heap[k]?) → Kd.C k25 W A l.length l
theorem FarC.below {b : Nat} {w1 w2 : World} {A : Option Addr} {l : List S25} (h : FarC b w1 A l) (hb : Below w1.heap.size w1 w2) : FarC b w2 A l := fun W hW => h W (fun k h1 h2 => (hW k h1 (Nat.lt_of_lt_of_le h2 hb.size)).trans (hb.block k h2))
theorem keepF {b : Nat} {w1 w2 : World} {A : Option Addr} {l : List S25} (h : Hid (FarC b w1 A l)) (hb : Below w1.heap.size w1 w2) : Hid (FarC b w2 A l) := h.out.below hb
theorem FarC.set2 {b g : Nat} {w1 : World} {A : Option Addr} {l : List S25} {x y : Value} (h : FarC b w1 A l) (hg : g < b) : Kd.C k25 ((w1.setCell ⟨g, 0, none⟩ x).setCell ⟨g, 1, none⟩ y) A l.length l :=
  h _ (fun k h1 _ => by rw [Below.heap_setCell _ ⟨g, 1, none⟩ _ _ (by simp; omega), Below.heap_setCell _ ⟨g, 0, none⟩ _ _ (by simp; omega)])
theorem fewX.walk (A : Option Addr) (c : Nat) (l : List S25) (w : World) (hr : Kd.C k25 w A l.length l) (hc : l.length ≤ c) :
    Calls Tryd.prog 8 #[.slice A l.length c] w fun e w' => ∃ A' c', e = .returned (.slice A' (fewL l).length c') ∧ (fewL l).length ≤ c' ∧ FarC w.heap.size w' A' (fewL l) ∧ Below w.heap.size w w' := by
  obtain ⟨k, hk⟩ := few_of l (by have := hr.2.1; omega)
  refine (cellarerlaw08_Few.calls k A c l _ w hr hc hk).mono ?_
  rintro e w' ⟨v, rfl, hs, hb⟩
  obtain ⟨A', c', rfl, hl, hC⟩ := Kd.R_reads (Kd.S_R hs)
  refine ⟨A', c', rfl, hl, fun W hW => ?_, hb⟩
  obtain ⟨A4, c4, e4, _, hC4⟩ := Kd.R_reads (Kd.R_step (w1 := W) (Kd.S_R (Kd.S_bound hs)) (fun k hk hlt => hW k hk.2.1 hlt))
  injection e4 with e5 _ _
  subst e5
  exact hC4
theorem FarC.mono {b b' : Nat} {w1 : World} {A : Option Addr} {l : List S25} (h : FarC b w1 A l) (hb : b' ≤ b) : FarC b' w1 A l := fun W hW => h W (fun k h1 h2 => hW k (Nat.le_trans hb h1) h2)
theorem wrap_i64_of {x : Int} (h0 : -9223372036854775808 ≤ x) (h1 : x ≤ 9223372036854775807) : IntKind.i64.wrap x = x := by
  simp [IntKind.wrap, IntKind.bits, IntKind.signed]; omega
theorem count_snoc (l : List S40) (f : S40 → Bool) (k : Nat) (h : k < l.length) : (l.take (k + 1)).countP f = (l.take k).countP f + (if f l[k] = true then 1 else 0) := by
  rw [List.take_succ_eq_append_getElem h, List.countP_append, List.countP_cons, List.countP_nil, Nat.zero_add]
theorem ne_bytes {a b : ByteArray} (h : ¬ a = b) : (a.toList == b.toList) = false := by
  cases hb : (a.toList == b.toList)
  · rfl
  · have := beq_iff_eq.1 hb
    rw [ByteArray.toList_eq, ByteArray.toList_eq] at this
    exact absurd (ByteArray.ext (Array.ext' this)) h
/-- What lies there behind both Finds. -/
def CtH (w : World) (bu bv : Nat) (p : S40) (A1 : Option Addr) (l1 : List S25) (A7 : Option Addr) (next : List S25) (u : S25) (A2 : Option Addr) (c2 : Nat) (v : S25) (A3 : Option Addr) (c3 : Nat) (W : World) : Prop :=
  Below w.heap.size w W ∧ W.heap[w.heap.size]? = some (.cells #[.int .i64 p.f0, .string p.f1] 40 (0, 0)) ∧ W.heap[bu]? = some (.cells #[.int .u64 u.f0, .string u.f1, .slice A2 u.f2.length c2] 25 (0, 0)) ∧
    W.heap[bv]? = some (.cells #[.int .u64 v.f0, .string v.f1, .slice A3 v.f2.length c3] 25 (0, 0)) ∧ Kd.C k25 W A1 l1.length l1 ∧ Kd.C k25 W A7 next.length next ∧ Kd.C k40 W A2 u.f2.length u.f2 ∧ Kd.C k40 W A3 v.f2.length v.f2
theorem keepH {w : World} {bu bv : Nat} {p : S40} {A1 : Option Addr} {l1 : List S25} {A7 : Option Addr} {next : List S25} {u : S25} {A2 : Option Addr} {c2 : Nat} {v : S25} {A3 : Option Addr} {c3 : Nat} {W W2 : World}
    (h : Hid (CtH w bu bv p A1 l1 A7 next u A2 c2 v A3 c3 W)) (hb : Below W.heap.size W W2) : Hid (CtH w bu bv p A1 l1 A7 next u A2 c2 v A3 c3 W2) := by
  obtain ⟨h0, h1, h2, h3, h4, h5, h6, h7⟩ := h.out
  exact ⟨h0.trans (hb.mono h0.size), blk_below h1 hb, blk_below h2 hb, blk_below h3 hb, Kd.C_below h4 hb, Kd.C_below h5 hb, Kd.C_below h6 hb, Kd.C_below h7 hb⟩
theorem dataOf_snoc (l : List S40) (n : Int) (k : Nat) (h : k < l.length) : dataOf (l.take (k + 1)) n = if l[k].f0 = n then l[k].f1 else dataOf (l.take k) n := by
  rw [List.take_succ_eq_append_getElem h]; unfold dataOf; rw [List.foldl_append]; rfl
set_option maxHeartbeats 8000000 in
set_option maxRecDepth 100000 in
theorem counts.walk (A : Option Addr) (c : Nat) (l : List S25) (id : Int) (p : S40) (w : World) (hr : Kd.C k25 w A l.length l) (hc : l.length ≤ c) :
    Calls Tryd.prog 6 #[.slice A l.length c, .int .u64 id, .agg #[.int .i64 p.f0, .string p.f1]] w fun e w' => e = .returned (.bool true) ∧ Below w.heap.size w w' := by
  have HB0 : Hid (Below w.heap.size w w) := Below.refl _ _
  have HFEW := Lib.hid (fun (W : World) (hb : Below w.heap.size w W) => fewX.walk A c l W (Kd.C_below hr hb) hc)
  have HONE := Lib.hid (one_calls p)
  have HAW : Hid (∀ W, Calls Tryd.prog 11 #[] W fun e w' => e = .returned (.bool true) ∧ Below W.heap.size W w') := fun W => awake.walk W
  clear hr
  go_enter Tryd.func6, Tryd.ntmps6
  go_upto_region 1 with fail
  go_cut [0] from 18 to 21 (fun s0 wx => ∃ A1 c1, s0 = .slice A1 (fewL l).length c1 ∧ (fewL l).length ≤ c1 ∧ Hid (Kd.C k25 wx A1 (fewL l).length (fewL l)) ∧ Hid (wx.heap[w.heap.size]? = some (.cells #[.int .i64 (onePart p).f0, .string (onePart p).f1] 40 (0, 0))) ∧ Hid (Below w.heap.size w wx))
  case first =>
    have HA0 : Hid (Below w.heap.size w (w.alloc (.cells #[.int .i64 p.f0, .string p.f1] 40)).drew) := (below1 w _).drew
    have BK0 : Hid ((w.alloc (.cells #[.int .i64 p.f0, .string p.f1] 40)).drew.heap[w.heap.size]? = some (.cells #[.int .i64 p.f0, .string p.f1] 40 (0, 0))) := blk_new w _
    go_region_with (first
      | (go_at_call 8; refine (HFEW.out _ (by first | exact HAB.out | exact HA0.out)).mono ?_; rintro e w1 ⟨A1, c1, rfl, hc1, hC1, hb1⟩; (first | (have HC1 := Lib.hid (hC1.mono (blk_lt BK1.out)); have HAB := keepB HAB hb1; have BK1 := Lib.hid (blk_below BK1.out hb1)) | (have HC1 := Lib.hid (hC1.mono (blk_lt BK0.out)); have HAB := keepB HA0 hb1; have BK1 := Lib.hid (blk_below BK0.out hb1))); have u0 := (blk_cell BK1.out 0).trans rfl; have u1 := (blk_cell BK1.out 1).trans rfl; have z0 := blk_frozen BK1.out 0; have z1 := blk_frozen BK1.out 1; clear hC1 hb1)
      | (go_at_call 13; refine (HONE.out _).mono ?_; rintro e w2 ⟨rfl, hb2⟩; (first | (have HAB := keepB HAB hb2; have BK1 := Lib.hid (blk_below BK1.out hb2); have HC1 := keepF HC1 hb2) | (have HAB := keepB HA0 hb2; have BK1 := Lib.hid (blk_below BK0.out hb2))); have u0 := (blk_cell BK1.out 0).trans rfl; have u1 := (blk_cell BK1.out 1).trans rfl; have z0 := blk_frozen BK1.out 0; have z1 := blk_frozen BK1.out 1; clear hb2))
    all_goals (go_wp2_with fail; go_meet; exact ⟨A1, c1, rfl, hc1, HC1.out.set2 (Nat.lt_succ_self _), blk_two BK1.out, (HAB.out.setCell (p := ⟨w.heap.size, 0, none⟩) (Nat.le_refl _) _).setCell (p := ⟨w.heap.size, 1, none⟩) (Nat.le_refl _) _⟩)
  case rest =>
  obtain ⟨A1, c1, rfl, hc1, HC1, BK1, HB1⟩ := hcut
  clear HFEW HONE HB0
  generalize fewL l = l1 at *
  generalize onePart p = p1 at *
  have u0 := (blk_cell BK1.out 0).trans rfl
  have u1 := (blk_cell BK1.out 1).trans rfl
  obtain ⟨next, t, e, hE⟩ : ∃ next t e, layR l1 id p1 = (next, t, e) := ⟨_, _, _, rfl⟩
  have HLAY := Lib.hid (fun (W : World) (h : Hid (Kd.C k25 W A1 l1.length l1)) => lay_calls A1 c1 _ l1 id p1 W next t e hE rfl h hc1)
  by_cases he : e = 0
  · subst he
    obtain ⟨u, v, hL, hlen, hm, _⟩ := laid_of (l := l1) (id := id) (p := p1) (by rw [hE])
    rw [hE] at hL
    have HL := Lib.hid hL
    have HM := Lib.hid hm
    clear hE hlen hL hm
    have T0 : Hid True := trivial
    go_wp2_with (first
      | (go_at_call 14; refine (HLAY.out _ HC1).mono ?_; rintro e w2 ⟨A7, c7, rfl, hc7, HC7, hb⟩; have HC12 := keepR HC1 hb; have BK2 := Lib.hid (blk_below BK1.out hb); have HB2 := keepB HB1 hb; clear hb u0 u1)
      | (go_at_call 16; have _t := T0; refine (find_calls A1 c1 _ l1 id _ u 0 HL.out.found rfl HC12 hc1).mono ?_; rintro e w3 ⟨A2, c2, rfl, hc2, HC2, hb⟩; have HC13 := keepR HC12 hb; have HC73 := keepR HC7 hb; have BK3 := Lib.hid (blk_below BK2.out hb); have HB3 := keepB HB2 hb; clear hb _t T0)
      | (go_at_call 16; refine (find_calls A7 c7 _ next id _ v 0 HL.out.again rfl (keepR HC73 (below1 _ _)) hc7).mono ?_; rintro e w4 ⟨A3, c3, rfl, hc3, HC3, hb⟩; have BU4 := Lib.hid (blk_below (blk_new w3 _) hb); have hb := (keepB (Lib.hid (below1 _ _)) hb).out; have HC14 := keepR HC13 hb; have HC74 := keepR HC73 hb; have HC24 := keepR HC2 hb; have BK4 := Lib.hid (blk_below BK3.out hb); have HB4 := keepB HB3 hb; clear hb))
    have HC := Lib.hid (show CtH w w3.heap.size w4.heap.size p1 A1 l1 A7 next u A2 c2 v A3 c3 (w4.alloc (.cells #[.int .u64 v.f0, .string v.f1, .slice A3 v.f2.length c3] 25)) from ⟨HB4.out.alloc HB4.out.size _, blk_alloc BK4.out _, blk_alloc BU4.out _, blk_new w4 _, Kd.C_below HC14.out (below1 _ _), Kd.C_below HC74.out (below1 _ _), Kd.C_below HC24.out (below1 _ _), Kd.C_below HC3.out (below1 _ _)⟩)
    generalize w3.heap.size = bu at *
    generalize w4.heap.size = bv at *
    have HLen : Hid ((u.f2.length : Int) ≤ 9223372036854775807 ∧ (v.f2.length : Int) ≤ 9223372036854775807) := ⟨by have := HC24.out.2.1; omega, by have := HC3.out.2.1; omega⟩
    clear HC1 HC12 HC13 HC14 HC73 HC7 HC74 HC2 HC24 HC3 BK1 BK2 BK3 BK4 BU4 HB1 HB2 HB3 HB4 HLAY
    go_loopw [14, 15] (fun x i wr => ∃ (k m : Nat), x = .int .i64 m ∧ i = .int .i64 k ∧ k ≤ u.f2.length ∧ Hid ((dataOf (u.f2.take k) p1.f0).size = m) ∧ Hid (CtH w bu bv p1 A1 l1 A7 next u A2 c2 v A3 c3 wr)) (fun _ i _ => u.f2.length - (intOf i).toNat)
    case atStart => exact ⟨0, 0, rfl, rfl, Nat.zero_le _, rfl, HC⟩
    case round =>
      obtain ⟨k, m, rfl, rfl, hk, hm, hC⟩ := hrel
      have b2 := (blk_cell hC.out.2.2.1 2).trans rfl
      have q0 := (blk_cell hC.out.2.1 0).trans rfl
      have n1 := HLen.out.1
      by_cases hlt : k < u.f2.length
      · obtain ⟨ad, e', hc0, hc1'⟩ := at40 hC.out.2.2.2.2.2.2.1 (Below.refl _ _) k hlt
        subst e'
        have d0 : (0 : Int) ≤ (k : Int) := by omega
        have d1 : (k : Int) < (u.f2.length : Int) := by omega
        by_cases hv : u.f2[k].f0 = p1.f0
        · have hv' : (u.f2[k].f0 == p1.f0) = true := beq_iff_eq.2 hv
          have hd := Lib.hid (dataOf_snoc u.f2 p1.f0 k hlt)
          clear hm
          go_wp2
          go_quiet (fail)
          go_wp2
          go_roundw
          case rel => exact ⟨k + 1, u.f2[k].f1.size, rfl, by go_num, hlt, (by show (dataOf _ _).size = _; rw [hd.out, if_pos hv]), keepH hC (below_drewN _ _ _)⟩
          case measure => simp [intOf]; omega
        · have hv' : (u.f2[k].f0 == p1.f0) = false := beq_eq_false_iff_ne.2 hv
          have hd := Lib.hid (dataOf_snoc u.f2 p1.f0 k hlt)
          go_wp2
          go_quiet (fail)
          go_wp2
          go_roundw
          case rel => exact ⟨k + 1, m, rfl, by go_num, hlt, (by show (dataOf _ _).size = _; rw [hd.out, if_neg hv]; exact hm.out), keepH hC (below_drewN _ _ _)⟩
          case measure => simp [intOf]; omega
      · obtain rfl : k = u.f2.length := by omega
        rw [List.take_length] at hm
        have b3 := (blk_cell hC.out.2.2.2.1 2).trans rfl
        go_wp2
        go_loopw [16, 17] (fun x i wr => ∃ (k n : Nat), x = .int .i64 n ∧ i = .int .i64 k ∧ k ≤ v.f2.length ∧ n ≤ k ∧ Hid ((v.f2.take k).countP (fun q => decide (q.f0 = p1.f0) && decide (q.f1 = p1.f1)) = n) ∧ Hid (CtH w bu bv p1 A1 l1 A7 next u A2 c2 v A3 c3 wr)) (fun _ i _ => v.f2.length - (intOf i).toNat)
        case atStart => exact ⟨0, 0, rfl, rfl, Nat.zero_le _, Nat.le_refl _, rfl, hC⟩
        case round =>
          clear b2 q0 n1 b3
          rename_i wr0
          obtain ⟨k, n, rfl, rfl, hk2, hnk, hn, hC2⟩ := hrel
          have b3 := (blk_cell hC2.out.2.2.2.1 2).trans rfl
          have q0 := (blk_cell hC2.out.2.1 0).trans rfl
          have q1 := (blk_cell hC2.out.2.1 1).trans rfl
          have n1 := HLen.out.2
          by_cases hlt : k < v.f2.length
          · obtain ⟨ad, e', hc0, hc1'⟩ := at40 hC2.out.2.2.2.2.2.2.2 (Below.refl _ _) k hlt
            subst e'
            have d0 : (0 : Int) ≤ (k : Int) := by omega
            have d1 : (k : Int) < (v.f2.length : Int) := by omega
            have hs := Lib.hid (count_snoc v.f2 (fun q => decide (q.f0 = p1.f0) && decide (q.f1 = p1.f1)) k hlt)
            by_cases hv : v.f2[k].f0 = p1.f0
            · have hv' : (v.f2[k].f0 == p1.f0) = true := beq_iff_eq.2 hv
              by_cases hw : v.f2[k].f1 = p1.f1
              · have hw' : (v.f2[k].f1.toList == p1.f1.toList) = true := by rw [hw]; exact beq_self_eq_true _
                go_wp2
                go_quiet (fail)
                go_wp2
                go_roundw
                case rel => exact ⟨k + 1, n + 1, by go_num, by go_num, hlt, by omega, (by show List.countP _ _ = _; rw [hs.out, hn.out, hv, hw]; simp), keepH hC2 (below_drewN _ _ _)⟩
                case measure => simp [intOf]; omega
              · have hw' : (v.f2[k].f1.toList == p1.f1.toList) = false := by rw [ne_bytes hw]
                go_wp2
                go_quiet (fail)
                go_wp2
                go_roundw
                case rel => exact ⟨k + 1, n, rfl, by go_num, hlt, by omega, (by show List.countP _ _ = _; rw [hs.out, hn.out, decide_eq_false hw]; simp), keepH hC2 (below_drewN _ _ _)⟩
                case measure => simp [intOf]; omega
            · have hv' : (v.f2[k].f0 == p1.f0) = false := beq_eq_false_iff_ne.2 hv
              go_wp2
              go_quiet (fail)
              go_wp2
              go_roundw
              case rel => exact ⟨k + 1, n, rfl, by go_num, hlt, by omega, (by show List.countP _ _ = _; rw [hs.out, hn.out, decide_eq_false hv]; simp), keepH hC2 (below_drewN _ _ _)⟩
              case measure => simp [intOf]; omega
          · obtain rfl : k = v.f2.length := by omega
            rw [List.take_length] at hn
            obtain rfl : n = 1 := by rw [← hn.out]; exact HL.out.there
            have HO1 : Hid (∀ W : World, Hid (CtH w bu bv p1 A1 l1 A7 next u A2 c2 v A3 c3 W) → Calls Tryd.prog 17 #[.slice A1 l1.length c1] W fun e w' => e = .returned (.int .i64 (sumU l1 : Int)) ∧ Below W.heap.size W w') := fun W h => octets_calls h.out.2.2.2.2.1 hc1 (by have := check_sum HL.out.was; omega)
            have HO7 : Hid (∀ W : World, Hid (CtH w bu bv p1 A1 l1 A7 next u A2 c2 v A3 c3 W) → Calls Tryd.prog 17 #[.slice A7 next.length c7] W fun e w' => e = .returned (.int .i64 (IntKind.i64.wrap (IntKind.i64.wrap ((sumU l1 : Int) - (m : Int)) + (p1.f1.size : Int)))) ∧ Below W.heap.size W w') := by
              intro W h
              have h1 := octets_calls h.out.2.2.2.2.2.1 hc7 (by have := check_sum HL.out.check; omega)
              have h2 := HL.out.sum
              have h3 := check_sum HL.out.check
              have h4 := check_sum HL.out.was
              have h5 := hm.out
              have h6 := HM.out
              unfold mayB at h6
              simp only [Bool.and_eq_true, decide_eq_true_eq] at h6
              have h7 := h6.2.2
              rw [wrap_i64_of (x := (sumU l1 : Int) - (m : Int)) (by omega) (by omega), wrap_i64_of (by omega) (by omega), show (sumU l1 : Int) - (m : Int) + (p1.f1.size : Int) = (sumU next : Int) by omega]
              exact h1
            have HCK : Hid (∀ W : World, Hid (CtH w bu bv p1 A1 l1 A7 next u A2 c2 v A3 c3 W) → Calls Tryd.prog 18 #[.slice A7 next.length c7] W fun e w' => e = .returned (.int .i64 0) ∧ Below W.heap.size W w') := by
              intro W h
              have h1 := check_calls h.out.2.2.2.2.2.1 hc7
              rw [HL.out.check] at h1
              exact h1
            generalize (sumU l1 : Int) = N2 at *
            clear hm hn HL HM HLen hC
            have hx : (IntKind.i64.wrap (IntKind.i64.wrap (N2 - (m : Int)) + (p1.f1.size : Int)) == IntKind.i64.wrap (IntKind.i64.wrap (N2 - (m : Int)) + (p1.f1.size : Int))) = true := beq_self_eq_true _
            go_wp2
            go_region_held3 (fun W => W.cell? ⟨w.heap.size, 1, none⟩ = some (.string p1.f1) ∧ Hid (CtH w bu bv p1 A1 l1 A7 next u A2 c2 v A3 c3 W))
              (((try go_split_ands); refine ⟨?_, ?_⟩ <;> first | assumption | (refine keepc hb ?_; assumption) | (refine keepH ?_ hb; assumption) | (refine keepcD ?_; assumption) | exact keepH (by assumption) (below_drewN _ _ 1)))
              (first | (go_at_call 17; (try go_split_ands); (first | (with_reducible refine (HO7.out _ (by first | assumption | exact keepH (by assumption) (below_drewN _ _ 1))).mono ?_) | (with_reducible refine (HO1.out _ (by first | assumption | exact keepH (by assumption) (below_drewN _ _ 1))).mono ?_)); rintro x w' ⟨rfl, hb⟩) | (go_at_call 18; (try go_split_ands); refine (HCK.out _ (by first | assumption | exact keepH (by assumption) (below_drewN _ _ 1))).mono ?_; rintro x w' ⟨rfl, hb⟩) | (go_at_call 11; refine (HAW.out _).mono ?_; rintro x w' ⟨rfl, hb⟩))
            try go_split_ands
            have HF : Hid (CtH w bu bv p1 A1 l1 A7 next u A2 c2 v A3 c3 w') := by assumption
            go_wp2
            go_ret
            exact ⟨rfl, HF.out.1⟩
  · have hd : (e != 0) = true := by simpa using he
    clear hE he
    go_wp2_with (first
      | (go_at_call 14; refine (HLAY.out _ HC1).mono ?_; rintro e w2 ⟨A7, c7, rfl, hc7, HC7, hb⟩; have HB2 := keepB HB1 hb; clear hb u0 u1)
      | (go_at_call 11; refine (HAW.out _).mono ?_; rintro x w3 ⟨rfl, hb⟩; have HB3 := keepB HB2 hb; clear hb))
    go_ret
    exact ⟨rfl, HB3.out⟩
end Go.Proofs.YtgpmkbmobdbdoaaDoor.Q

-- T29
namespace Go.Proofs.YtgpmkbmobdbdoaaDoor.Q
open Go.RowKit Go.Proofs.YtgpmkbmobdbdoaaDoorW.PrintWords Go.Proofs.YtgpmkbmobdbdoaaDoorW.PrintLast Go.Proofs.YtgpmkbmobdbdoaaDoorW.PrintMore
set_option linter.unusedVariables false
set_option linter.unusedSimpArgs false

/-! slices.Delete of one upload out of a row of the call's own. -/
def z25v : Value := .agg #[(.int .u64 0), (.string ⟨#[]⟩), (.slice none 0 0)]
def z25L (n : Nat) : List Value := (Builtin.zeroCells z25v.cells n).toList
theorem z25_one (n : Nat) : ∀ v ∈ z25L n, v.oneCell' = true := zero_one (by simp [z25v, Value.cells, Value.oneCell']) (by decide) n
theorem z25_len (n : Nat) : (z25L n).length = n * 3 := by unfold z25L; rw [Array.length_toList, size_zeroCells]; rfl
def delAt (xs : List Value) (i : Nat) : List Value := xs.take (i * 3) ++ xs.drop ((i + 1) * 3)
def DelPost (base n i : Nat) (v : Value) (xs : List Value) (w : World) (e : Ending) (w' : World) : Prop :=
  ∃ v', e = .returned v' ∧ w'.ownsRow base 25 3 v' (n - 1) (delAt xs i) ∧ w.grownBy w' v.ownBlock
set_option maxHeartbeats 8000000 in
set_option maxRecDepth 100000 in
theorem delete.walk (base n i : Nat) (v : Value) (xs : List Value) (w : World) (hown : w.ownsRow base 25 3 v n xs) (hi : i < n) (hn : n ≤ 1000) (h1 : ∀ u ∈ xs, u.oneCell' = true) :
    Calls Tryd.prog 43 #[v, .int .i64 i, .int .i64 ((i : Int) + 1)] w (DelPost base n i v xs w) := by
  obtain ⟨hx, hv⟩ := hown
  rcases hv with ⟨_, h0⟩ | ⟨g, cap, cur, rfl, hb, hg, hcap, hmx, hsz, htk⟩
  · omega
  obtain ⟨i0, hi0, hy0, hy1, hy2⟩ := info_parts info25
  have HG := Lib.hid hg; clear hg
  have HX := Lib.hid hx; have HT := Lib.hid htk; have HSZ := Lib.hid hsz; have HMX := Lib.hid hmx
  unfold maxLen at hmx
  have l0 : (xs.take (i * 3)).length = i * 3 := by rw [List.length_take, hx]; omega
  have l1 : (xs.drop ((i + 1) * 3)).length = (n - (i + 1)) * 3 := by rw [List.length_drop, hx]; omega
  have HO0 : Hid (w.drew.ownsRow base 25 3 (.slice (some ⟨g, 0, none⟩) i cap) i (xs.take (i * 3))) := by
    refine ⟨l0, Or.inr ⟨g, cap, cur, rfl, hb, HG.out, by omega, HMX.out, hsz, ?_⟩⟩
    rw [← htk, List.take_take, Nat.min_eq_left (by omega)]
  have HD : Hid (∀ (j : Nat) (u : Value), (xs.drop ((i + 1) * 3))[j]? = some u → w.drew.cell? ((⟨g, (i + 1) * 3, none⟩ : Addr).add j) = some u) := fun j u hu => by
    rw [add_at]
    show w.cell? _ = _
    rw [blk_cell HG.out]
    rw [List.getElem?_drop, ← htk, List.getElem?_take] at hu
    split at hu
    · simpa using hu
    · cases hu
  have HL1 := Lib.hid l1
  have HONE : Hid (∀ u ∈ xs.drop ((i + 1) * 3), u.oneCell' = true) := fun u hu => h1 u (List.mem_of_mem_drop hu)
  have HONE1 := Lib.hid h1
  clear l0 l1 hx htk hsz hmx h1
  have d0 : (0 : Int) ≤ (i : Int) := by omega
  have d1 : (i : Int) ≤ (i : Int) + 1 := by omega
  have d2 : (i : Int) + 1 ≤ (n : Int) := by omega
  have d3 : (n : Int) ≤ (cap : Int) := by omega
  have d4 : ((i : Int) == (i : Int) + 1) = false := beq_eq_false_iff_ne.2 (by omega)
  have d5 : (i : Int) ≤ (cap : Int) := by omega
  have d6 : (i : Int) + 1 ≤ (cap : Int) := by omega
  have d7 : (0 : Int) ≤ (i : Int) + 1 := by omega
  have q2 : ((i : Int) + 1).toNat = i + 1 := by omega
  go_enter Tryd.func43, Tryd.ntmps43
  go_wp2_with fail
  go_still_tail 6, (by kernel_rfl)
  change wpList _ _ _ _ _ w.drew
  have END : Hid (∀ (w2 : World), w2.ownsRow base 25 3 (.slice (some ⟨g, 0, none⟩) (n - 1) cap) (n - 1) (delAt xs i) → w.grownBy w2 (some g) → ∃ cur2, w2.heap[g]? = some (.cells cur2 25 (0, 0)) ∧ (n - 1) * 3 + 1 * 3 ≤ cur2.size ∧
      ∀ w3, w3 = w2.setRow g (splice cur2.toList ((n - 1) * 3) (z25L 1)).toArray → w3.ownsRow base 25 3 (.slice (some ⟨g, 0, none⟩) (n - 1) cap) (n - 1) (delAt xs i) ∧ w.grownBy w3 (some g)) := by
    intro w2 ho hgr
    obtain ⟨hlx, hc⟩ := ho
    rcases hc with ⟨e, _⟩ | ⟨g', cap', cur2, e, hb', hg', hcap', hmx', hsz', htk'⟩
    · cases e
    · injection e with e1 e2 e3
      injection e1 with e1
      injection e1 with e1 _ _
      subst e1 e3
      refine ⟨cur2, hg', by omega, fun w3 hw3 => ?_⟩
      have hsp : (splice cur2.toList ((n - 1) * 3) (z25L 1)).length = cap * 3 := by
        rw [length_splice _ _ _ (by rw [z25_len, Array.length_toList]; omega), Array.length_toList]; exact hsz'
      refine ⟨⟨hlx, Or.inr ⟨g, cap, _, rfl, hb, by rw [hw3]; exact setRow_heap _ _ _ _ _ _ hg', by omega, HMX.out, by rw [List.size_toArray]; exact hsp, ?_⟩⟩, ?_⟩
      · rw [← htk']
        show (splice cur2.toList ((n - 1) * 3) (z25L 1)).take ((n - 1) * 3) = _
        unfold splice
        rw [List.take_left' (by rw [List.length_take, Array.length_toList]; omega)]
      · rw [hw3]
        exact ⟨hgr.os, hgr.tape, hgr.output, by simpa [World.setRow] using hgr.size, fun k hk hne => (setRow_other _ _ _ _ (fun e => hne (by rw [e]))).trans (hgr.block k hk hne)⟩
  have hm : Hid (i + (n - (i + 1)) = n - 1) := by unfold Hid; omega
  obtain ⟨ad, had, hcells⟩ : ∃ ad, Hid ((if cap = i + 1 then some (⟨g, 0, none⟩ : Addr) else some ⟨g, (i + 1) * 3, none⟩) = some ad) ∧ Hid (∀ (j : Nat) (u : Value), (xs.drop ((i + 1) * 3))[j]? = some u → w.drew.cell? (ad.add j) = some u) := by
    by_cases hcp : cap = i + 1
    · refine ⟨⟨g, 0, none⟩, if_pos hcp, fun j u hu => ?_⟩
      rw [List.drop_eq_nil_of_le (by rw [HX.out]; omega)] at hu
      simp at hu
    · exact ⟨⟨g, (i + 1) * 3, none⟩, if_neg hcp, HD.out⟩
  have hroom : i + (n - (i + 1)) ≤ cap := by omega
  rw [had.out]
  refine wpList_append_own_spare _ rfl (.tmp 22) (.tmp 25) 27 rfl base 25 i0 3 Tryd.underlying27 hi0 hy1 g i cap (xs.take (i * 3)) rfl HO0.out ad (n - (i + 1)) (cap - (i + 1)) (xs.drop ((i + 1) * 3)) rfl HL1.out hcells.out HONE.out hroom ?_
  rw [hm.out]
  intro w2 ho2 hg2
  obtain ⟨cur2, hc2, hfit, hend⟩ := END.out w2 ho2 ((show w.grownBy w2 (some g) from ⟨hg2.os, hg2.tape, hg2.output, hg2.size, hg2.block⟩))
  have HC2 := Lib.hid hc2; have HF := Lib.hid hfit; have HEND := Lib.hid hend
  clear ho2 hg2 hc2 hfit hend hcells had HD
  obtain ⟨m, hnm⟩ : ∃ m, n = m + 1 := ⟨n - 1, by omega⟩
  subst hnm
  simp only [Nat.add_sub_cancel] at *
  have e0 : ¬ cap = m := by omega
  have e1 : (m : Int) ≤ (m : Int) + 1 := by omega
  have e2 : (m : Int) + 1 ≤ (cap : Int) := by omega
  have e3 : (0 : Int) ≤ (m : Int) := by omega
  have e4 : (m : Int) ≤ (cap : Int) := by omega
  clear q2
  have HZ1 := Lib.hid (z25_one 1)
  go_wp2_with fail
  rw [run_clear_cells w2 27 0 25 i0 z25v Tryd.underlying27 hi0 hy0 g (m * 3) 1 (cap - m) cur2 25 HC2.out (by decide) HF.out HZ1.out]
  obtain ⟨w3, hw3⟩ : ∃ w3, Hid (w3 = w2.setRow g (splice cur2.toList (m * 3) (z25L 1)).toArray) := ⟨_, rfl⟩
  rw [show (Builtin.zeroCells z25v.cells 1).toList = z25L 1 from rfl, ← hw3.out]
  go_wp2_with fail
  go_ret
  obtain ⟨r1, r2⟩ := HEND.out w3 hw3.out
  exact ⟨_, rfl, r1, r2⟩
end Go.Proofs.YtgpmkbmobdbdoaaDoor.Q

-- T30
namespace Go.Proofs.YtgpmkbmobdbdoaaDoor.Q
open Go.RowKit Go.Proofs.YtgpmkbmobdbdoaaDoorW.PrintWords Go.Proofs.YtgpmkbmobdbdoaaDoorW.PrintLast Go.Proofs.YtgpmkbmobdbdoaaDoorW.PrintMore
set_option linter.unusedVariables false
set_option linter.unusedSimpArgs false

/-! parts.Abort. -/
def delL {α : Type} (l : List α) (i : Nat) : List α := l.take i ++ l.drop (i + 1)
def abortR (l : List S25) (id : Int) : List S25 × Int :=
  if checkB l = false then ([], 1) else match posU l id with | none => ([], 4) | some i => (delL l i, 0)
theorem flat_del {rows : List (List Value)} (h : ∀ c ∈ rows, c.length = 3) (i : Nat) : delAt rows.flatten i = (delL rows i).flatten := by
  have tk : ∀ (rs : List (List Value)), (∀ c ∈ rs, c.length = 3) → ∀ j, rs.flatten.take (j * 3) = (rs.take j).flatten ∧ rs.flatten.drop (j * 3) = (rs.drop j).flatten := by
    intro rs
    induction rs with
    | nil => intro _ j; simp
    | cons c rs ih =>
      intro hc j
      have h3 := hc c List.mem_cons_self
      cases j with
      | zero => simp
      | succ j =>
        obtain ⟨i1, i2⟩ := ih (fun x hx => hc x (List.mem_cons_of_mem _ hx)) j
        rw [List.flatten_cons, List.take_succ_cons, List.drop_succ_cons, List.flatten_cons, ← i1, ← i2]
        constructor
        · rw [List.take_append, List.take_of_length_le (by omega), show (j + 1) * 3 - c.length = j * 3 by omega]
        · rw [List.drop_append, List.drop_eq_nil_of_le (by omega), List.nil_append, show (j + 1) * 3 - c.length = j * 3 by omega]
  unfold delAt delL
  rw [(tk rows h i).1, (tk rows h (i + 1)).2, List.flatten_append]
theorem own_list {W w' : World} {l : List S25} {rows : List (List Value)} {base n : Nat} {v : Value} (hrows : RowsOf k25 W l rows) (hb : Below W.heap.size W w') (ho : w'.ownsRow base 25 3 v n rows.flatten) (hn : n = l.length) (hl : l.length ≤ 1000000) :
    ∃ A c, v = .slice A l.length c ∧ l.length ≤ c ∧ Kd.C k25 w' A l.length l := by
  subst hn
  rcases ho.2 with ⟨rfl, h0⟩ | ⟨g, cap, cur, rfl, _, hg, hcap, _, _, htk⟩
  · have : l = [] := List.length_eq_zero_iff.1 h0
    subst this
    exact ⟨none, 0, rfl, Nat.le_refl _, Kd.C_nil _ _⟩
  · exact ⟨_, cap, rfl, hcap, rows_C (hrows.below hb) (blk_raw hg _ htk) (by omega)⟩
theorem delL_len {α : Type} (l : List α) (i : Nat) (h : i < l.length) : (delL l i).length = l.length - 1 := by
  unfold delL; rw [List.length_append, List.length_take, List.length_drop]; omega
set_option maxHeartbeats 4000000 in
set_option maxRecDepth 100000 in
theorem abort.walk (A : Option Addr) (c : Nat) (l : List S25) (id : Int) (w : World) (hr : Kd.C k25 w A l.length l) (hc : l.length ≤ c) :
    Calls Tryd.prog 20 #[.slice A l.length c, .int .u64 id] w (ListPost (abortR l id).1 [.int .i64 (abortR l id).2] w) := by
  have HB0 : Hid (Below w.heap.size w w) := Below.refl _ _
  have HP := Lib.hid (place.walk A c l id w hr hc)
  have FIN : Hid (∀ e w', Below w.heap.size w w' → ListPost [] [.int .i64 e] w (.returned (.tuple #[.slice none 0 0, .int .i64 e])) w') := fun e w' hb => ⟨none, 0, rfl, Nat.le_refl _, Kd.C_nil _ _, hb⟩
  have hbad : ∀ e : Int, e ≠ 0 → placeR l id = (0, e) → Calls Tryd.prog 20 #[.slice A l.length c, .int .u64 id] w (ListPost [] [.int .i64 e] w) := by
    intro e he hp
    rw [hp] at HP
    have hd : (e != 0) = true := by simpa using he
    clear hr hp he
    go_enter Tryd.func20, Tryd.ntmps20
    go_wp2_with (go_at_call 35; refine HP.out.mono ?_; rintro x w1 ⟨rfl, hb⟩; have HB1 := Lib.hid hb; clear hb)
    go_ret2
    exact FIN.out _ _ HB1.out
  cases hk : checkB l
  · have e1 : abortR l id = ([], 1) := by unfold abortR; rw [if_pos hk]
    rw [e1]
    exact hbad 1 (by decide) (by unfold placeR; rw [if_pos hk])
  · cases hp : posU l id with
    | none =>
      have e1 : abortR l id = ([], 4) := by unfold abortR; rw [if_neg (by rw [hk]; simp), hp]
      rw [e1]
      exact hbad 4 (by decide) (by unfold placeR; rw [if_neg (by rw [hk]; simp), hp])
    | some i =>
      have e1 : abortR l id = (delL l i, 0) := by unfold abortR; rw [if_neg (by rw [hk]; simp), hp]
      have e2 : placeR l id = ((i : Int), 0) := by unfold placeR; rw [if_neg (by rw [hk]; simp), hp]
      rw [e1]
      rw [e2] at HP
      obtain ⟨hi, _⟩ := posU_lt hp
      have hl10 := (check_fine hk).1
      have HCL : Hid (∀ W, Below w.heap.size w W → Calls Tryd.prog 34 #[.slice A l.length c] W fun e w' => ∃ v rows, e = .returned v ∧ RowsOf k25 W l rows ∧ w'.ownsRow W.heap.size 25 3 v l.length rows.flatten ∧ Below W.heap.size W w') := fun W hb => clone34_any (Kd.C_below hr hb) (by omega)
      clear hbad hk hp e1 e2 hr
      have q1 : IntKind.i64.wrap ((i : Int) + 1) = (i : Int) + 1 := by rw [IntKind.wrap_i64]; omega
      go_enter Tryd.func20, Tryd.ntmps20
      go_wp2_with (first
        | (go_at_call 35; refine HP.out.mono ?_; rintro x w1 ⟨rfl, hb⟩; have HB1 := Lib.hid hb; clear hb)
        | (go_at_call 34; refine (HCL.out _ HB1.out).mono ?_; rintro e w4 ⟨v1, rows, rfl, hrows, hown, hb4⟩; have HROWS := Lib.hid hrows; have HX4 := Lib.hid hb4; have HO4 := Lib.hid hown; clear hrows hown hb4)
        | (go_at_call 43; refine (delete.walk _ _ i _ _ _ HO4.out hi (by omega) HROWS.out.one).mono ?_; rintro e w5 ⟨v2, rfl, ho5, hg5⟩; have HO5 := Lib.hid ho5; have HG5 := Lib.hid hg5; clear ho5 hg5))
      have HX5 := HX4.out.grown HG5.out HX4.out.size (fun q hq => own_base HO4.out q hq)
      have ho := HO5.out
      rw [flat_del HROWS.out.lens] at ho
      have hrows2 : RowsOf k25 w1 (delL l i) (delL rows i) := (HROWS.out.take i).append (HROWS.out.drop (i + 1))
      obtain ⟨A2, c2, rfl, h2, h3⟩ := own_list hrows2 HX5 ho (delL_len l i hi).symm (by rw [delL_len l i hi]; omega)
      go_ret2
      exact ⟨A2, c2, rfl, h2, h3, HB1.out.trans (HX5.mono HB1.out.size)⟩
end Go.Proofs.YtgpmkbmobdbdoaaDoor.Q

-- P13
namespace Go.Proofs.YtgpmkbmobdbdoaaDoor.Q
open Go.RowKit Go.Proofs.YtgpmkbmobdbdoaaDoorW.PrintWords Go.Proofs.YtgpmkbmobdbdoaaDoorW.PrintLast Go.Proofs.YtgpmkbmobdbdoaaDoorW.PrintMore
set_option linter.unusedVariables false
set_option linter.unusedSimpArgs false

/-! What an abort leaves. -/
theorem find_mem {m : List S25} (hc : checkB m = true) {x : S25} (hx : x ∈ m) : findR m x.f0 = (x, 0) := by
  obtain ⟨_, _, hs⟩ := (check_iff m).1 hc
  unfold findR
  rw [if_neg (by rw [hc]; simp)]
  cases hp : posU m x.f0 with
  | none =>
    unfold posU at hp
    rw [List.findIdx?_eq_none_iff] at hp
    have := hp x hx
    simp at this
  | some i =>
    obtain ⟨hi, he⟩ := posU_lt hp
    simp only
    have hg : m.getD i z25 = m[i] := by rw [List.getD_eq_getElem?_getD, List.getElem?_eq_getElem hi]; rfl
    rw [hg]
    obtain ⟨j, hj, rfl⟩ := List.getElem_of_mem hx
    rw [List.pairwise_iff_getElem] at hs
    rcases Nat.lt_trichotomy i j with h | h | h
    · have := hs i j hi hj h; omega
    · subst h; rfl
    · have := hs j i hj hi h; omega
theorem find_none {m : List S25} (hc : checkB m = true) {id : Int} (hx : ∀ u ∈ m, u.f0 ≠ id) : findR m id = (z25, 4) := by
  unfold findR
  rw [if_neg (by rw [hc]; simp)]
  cases hp : posU m id with
  | none => rfl
  | some i =>
    obtain ⟨hi, he⟩ := posU_lt hp
    exact absurd he (hx _ (List.getElem_mem hi))
theorem delL_sub {α : Type} (l : List α) (i : Nat) : List.Sublist (delL l i) l := by
  have h1 := List.take_append_drop i l
  have h2 : List.Sublist (l.drop (i + 1)) (l.drop i) := by
    rw [show i + 1 = i + 1 from rfl, ← List.drop_drop]
    exact List.drop_sublist _ _
  have := List.Sublist.append (List.Sublist.refl (l.take i)) h2
  rw [h1] at this
  exact this
theorem del_check {l : List S25} (hc : checkB l = true) (i : Nat) : checkB (delL l i) = true := by
  obtain ⟨h1, h2, h3⟩ := (check_iff l).1 hc
  have hs := delL_sub l i
  exact (check_iff _).2 ⟨Nat.le_trans hs.length_le h1, fun u hu => h2 u (hs.subset hu), h3.sublist hs⟩
theorem del_split {l : List S25} (i : Nat) (hi : i < l.length) : l = l.take i ++ l[i] :: l.drop (i + 1) := by
  rw [← List.drop_eq_getElem_cons hi, List.take_append_drop]
theorem del_ne {l : List S25} (hc : checkB l = true) {id : Int} {i : Nat} (hp : posU l id = some i) : ∀ u ∈ delL l i, u.f0 ≠ id := by
  obtain ⟨_, _, hs⟩ := (check_iff l).1 hc
  obtain ⟨hi, he⟩ := posU_lt hp
  rw [del_split i hi] at hs
  obtain ⟨_, h2, h3⟩ := List.pairwise_append.1 hs
  intro u hu
  rcases List.mem_append.1 hu with hu | hu
  · have := h3 u hu l[i] List.mem_cons_self; omega
  · have := (List.pairwise_cons.1 h2).1 u hu; omega
theorem del_has {l : List S25} {id : Int} {i : Nat} (hp : posU l id = some i) {u : S25} (hu : u ∈ l) (hne : u.f0 ≠ id) : u ∈ delL l i := by
  obtain ⟨hi, he⟩ := posU_lt hp
  rw [del_split i hi] at hu
  rcases List.mem_append.1 hu with hu | hu
  · exact List.mem_append_left _ hu
  · rcases List.mem_cons.1 hu with rfl | hu
    · exact absurd he hne
    · exact List.mem_append_right _ hu
def lastOf (l : List S25) : Int := l.foldl (fun m u => max m u.f0) 0
theorem last_run (l : List S25) : ∀ m : Int, m ≤ l.foldl (fun m u => max m u.f0) m ∧ (∀ u ∈ l, u.f0 ≤ l.foldl (fun m u => max m u.f0) m) ∧ ∀ b : Int, m ≤ b → (∀ u ∈ l, u.f0 ≤ b) → l.foldl (fun m u => max m u.f0) m ≤ b := by
  induction l with
  | nil => intro m; exact ⟨Int.le_refl _, by simp, fun b hb _ => hb⟩
  | cons x l ih =>
    intro m
    obtain ⟨h1, h2, h3⟩ := ih (max m x.f0)
    rw [List.foldl_cons]
    refine ⟨by omega, fun u hu => ?_, fun b hb hx => h3 b (by have := hx x List.mem_cons_self; omega) (fun u hu => hx u (List.mem_cons_of_mem _ hu))⟩
    rcases List.mem_cons.1 hu with rfl | hu
    · omega
    · exact h2 u hu
theorem last_ge (l : List S25) : 0 ≤ lastOf l ∧ ∀ u ∈ l, u.f0 ≤ lastOf l := ⟨(last_run l 0).1, (last_run l 0).2.1⟩
theorem last_le {l : List S25} (hc : checkB l = true) : lastOf l ≤ 281474976710655 := by
  obtain ⟨_, h2, _⟩ := (check_iff l).1 hc
  refine (last_run l 0).2.2 _ (by decide) (fun u hu => ?_)
  have := (fine_iff _ _ _).1 (h2 u hu)
  have h := this.1
  unfold numB at h
  simp only [Bool.and_eq_true, decide_eq_true_eq] at h
  exact h.2
theorem last_snoc (l : List S25) (k : Nat) (h : k < l.length) : lastOf (l.take (k + 1)) = max (lastOf (l.take k)) l[k].f0 := by
  rw [List.take_succ_eq_append_getElem h]; unfold lastOf; rw [List.foldl_append]; rfl
/-- Begun anew. -/
theorem del_begin {l : List S25} (hc : checkB l = true) {id : Int} {i : Nat} (hp : posU l id = some i) (key : ByteArray) :
    beginR (delL l i) (lastOf l + 1) key = ([], 1) ∨ (∃ n, beginR (delL l i) (lastOf l + 1) key = (n, 0) ∧ findR n (lastOf l + 1) = (⟨lastOf l + 1, key, []⟩, 0)) := by
  have hd := del_check hc i
  obtain ⟨hi, he⟩ := posU_lt hp
  have hlen := delL_len l i hi
  obtain ⟨h1, h2, h3⟩ := (check_iff l).1 hc
  obtain ⟨d1, d2, d3⟩ := (check_iff _).1 hd
  have hle : ∀ u ∈ delL l i, u.f0 ≤ lastOf l := fun u hu => (last_ge l).2 u ((delL_sub l i).subset hu)
  by_cases hbad : checkB (delL l i) = false ∨ numB (lastOf l + 1) = false ∨ keyB key = false
  · exact Or.inl (by unfold beginR; rw [if_pos hbad])
  · right
    have hn : numB (lastOf l + 1) = true := by cases h : numB (lastOf l + 1) <;> simp_all
    have hk : keyB key = true := by cases h : keyB key <;> simp_all
    have hlast : lastB (delL l i) (lastOf l + 1) = false := by
      unfold lastB
      rw [Bool.and_eq_false_iff]
      by_cases h0 : 0 < (delL l i).length
      · right
        have hg : (delL l i).getD ((delL l i).length - 1) z25 = (delL l i)[(delL l i).length - 1]'(by omega) := by
          rw [List.getD_eq_getElem?_getD, List.getElem?_eq_getElem (by omega)]; rfl
        rw [hg, decide_eq_false_iff_not]
        have := hle _ (List.getElem_mem (show (delL l i).length - 1 < (delL l i).length by omega))
        omega
      · left; exact decide_eq_false h0
    have hc2 : checkB (delL l i ++ [⟨lastOf l + 1, key, []⟩]) = true := by
      rw [check_iff]
      refine ⟨by rw [List.length_append, List.length_singleton]; omega, fun u hu => ?_, ?_⟩
      · rcases List.mem_append.1 hu with hu | hu
        · exact d2 u hu
        · obtain rfl : u = ⟨lastOf l + 1, key, []⟩ := by simpa using hu
          rw [fine_iff]
          exact ⟨hn, hk, by simp, by simp, by simp⟩
      · rw [List.pairwise_append]
        refine ⟨d3, by simp, fun a ha b hb => ?_⟩
        obtain rfl : b = ⟨lastOf l + 1, key, []⟩ := by simpa using hb
        have := hle a ha
        show a.f0 < lastOf l + 1
        omega
    refine ⟨delL l i ++ [⟨lastOf l + 1, key, []⟩], ?_, ?_⟩
    · unfold beginR
      rw [if_neg hbad, if_neg (by rw [hlast]; simp), if_neg (show ¬ (delL l i).length = 10 by omega)]
    · exact find_mem hc2 (x := ⟨lastOf l + 1, key, []⟩) (List.mem_append_right _ (by simp))
end Go.Proofs.YtgpmkbmobdbdoaaDoor.Q

-- P14
namespace Go.Proofs.YtgpmkbmobdbdoaaDoor.Q
open Go.RowKit Go.Proofs.YtgpmkbmobdbdoaaDoorW.PrintWords Go.Proofs.YtgpmkbmobdbdoaaDoorW.PrintLast Go.Proofs.YtgpmkbmobdbdoaaDoorW.PrintMore
set_option linter.unusedVariables false
set_option linter.unusedSimpArgs false

/-! The document's Same of one list and the same. -/
theorem same_l1 (l : List S25) (i : Nat) (hi : i < l.length) (hn : (l.length : Int) ≤ 9223372036854775807) (hm : (l[i].f2.length : Int) ≤ 9223372036854775807) (k : Nat) : ∀ (d j : Nat), j + d = l[i].f2.length →
    cellarerref08_Same.l1 (k + d + 1) l l (i : Int) (j : Int) = cellarerref08_Same.l0 k l l ((i + 1 : Nat) : Int) := by
  have e1 : rd_T25 l (i : Int) = l[i] := by unfold rd_T25; rw [Int.toNat_natCast, List.getD_eq_getElem?_getD, List.getElem?_eq_getElem hi]; rfl
  intro d
  induction d with
  | zero =>
    intro j hj
    rw [show k + 0 + 1 = k + 1 from rfl]
    simp only [cellarerref08_Same.l1]
    rw [if_pos (by omega), if_pos (by omega), e1, if_neg (by omega), wrap64_of (by omega) (by omega)]
    congr 1
  | succ d ih =>
    intro j hj
    rw [show k + (d + 1) + 1 = (k + d + 1) + 1 from rfl]
    generalize hK : k + d + 1 = K
    simp only [cellarerref08_Same.l1]
    subst hK
    rw [if_pos (by omega), if_pos (by omega), e1, if_pos (by omega), if_pos (by omega), if_pos (by omega), if_pos (by omega), if_neg (by simp), wrap64_of (by omega) (by omega), show (j : Int) + 1 = ((j + 1 : Nat) : Int) by omega]
    exact ih (j + 1) (by omega)
def needS : List S25 → Nat
  | [] => 1
  | u :: us => needS us + u.f2.length + 3
theorem same_l0 (l : List S25) (hn : (l.length : Int) ≤ 9223372036854775807) (hm : ∀ u ∈ l, (u.f2.length : Int) ≤ 9223372036854775807) : ∀ (us : List S25) (i : Nat), us = l.drop i → i ≤ l.length →
    cellarerref08_Same.l0 (needS us) l l (i : Int) = some true := by
  intro us
  induction us with
  | nil =>
    intro i hus hil
    have h1 : ¬ i < l.length := by
      intro h
      have := congrArg List.length hus
      rw [List.length_drop] at this; simp at this; omega
    show cellarerref08_Same.l0 (0 + 1) _ _ _ = _
    simp only [cellarerref08_Same.l0]
    rw [if_neg (by omega)]
  | cons u us ih =>
    intro i hus hil
    have hi1 : i < l.length := by
      have := congrArg List.length hus
      rw [List.length_drop] at this; simp at this; omega
    rw [List.drop_eq_getElem_cons hi1] at hus
    injection hus with hu hus
    have e1 : rd_T25 l (i : Int) = u := by unfold rd_T25; rw [Int.toNat_natCast, List.getD_eq_getElem?_getD, List.getElem?_eq_getElem hi1, hu]; rfl
    have hul := hm u (by rw [hu]; exact List.getElem_mem _)
    show cellarerref08_Same.l0 (needS us + u.f2.length + 1 + 1 + 1) _ _ _ = _
    generalize hK : needS us + u.f2.length + 1 + 1 = K
    simp only [cellarerref08_Same.l0]
    subst hK
    rw [if_pos (by omega), if_pos (by omega), if_pos (by omega), e1, if_pos trivial, if_pos trivial]
    generalize hK : needS us + u.f2.length + 1 = K
    simp only [cellarerref08_Same.j1]
    subst hK
    rw [if_neg (by simp)]
    have := same_l1 l i hi1 hn (by rw [← hu]; exact hul) (needS us) u.f2.length 0 (by rw [← hu]; omega)
    rw [show ((0 : Nat) : Int) = 0 from rfl] at this
    rw [this]
    exact ih (i + 1) hus (by omega)
theorem same_refl (l : List S25) (hn : (l.length : Int) ≤ 9223372036854775807) (hm : ∀ u ∈ l, (u.f2.length : Int) ≤ 9223372036854775807) : cellarerref08_Same.f (needS l) l l = some true := by
  unfold cellarerref08_Same.f
  rw [if_pos rfl]
  have := same_l0 l hn hm l 0 (by simp) (Nat.zero_le _)
  exact this
theorem same_calls {w : World} {A0 A1 : Option Addr} {c0 c1 : Nat} {l : List S25} (hr0 : Kd.C k25 w A0 l.length l) (hc0 : l.length ≤ c0) (hr1 : Kd.C k25 w A1 l.length l) (hc1 : l.length ≤ c1) :
    Calls Tryd.prog 21 #[.slice A0 l.length c0, .slice A1 l.length c1] w fun e w' => e = .returned (.bool true) ∧ Drawn0 w w' :=
  cellarerref08_Same.calls (needS l) A0 c0 l A1 c1 l true w hr0 hc0 hr1 hc1 (same_refl l (by have := hr0.2.1; omega) (inner_bound hr0))
end Go.Proofs.YtgpmkbmobdbdoaaDoor.Q

-- T31
namespace Go.Proofs.YtgpmkbmobdbdoaaDoor.Q
open Go.RowKit Go.Proofs.YtgpmkbmobdbdoaaDoorW.PrintWords Go.Proofs.YtgpmkbmobdbdoaaDoorW.PrintLast Go.Proofs.YtgpmkbmobdbdoaaDoorW.PrintMore
attribute [local go_sem] max2_int min2_int max_two min_two max_three min_three max_four min_four   -- for this text's walks alone
set_option linter.unusedVariables false
set_option linter.unusedSimpArgs false

theorem abort_calls (A : Option Addr) (c n : Nat) (l : List S25) (id : Int) (w : World) (next : List S25) (e : Int) (h : abortR l id = (next, e)) (hn : n = l.length) (hr : Hid (Kd.C k25 w A n l)) (hc : n ≤ c) :
    Calls Tryd.prog 20 #[.slice A n c, .int .u64 id] w fun e' w' => ∃ A c, e' = .returned (.tuple #[.slice A next.length c, .int .i64 e]) ∧ next.length ≤ c ∧ Hid (Kd.C k25 w' A next.length next) ∧ Below w.heap.size w w' := by
  subst hn
  have := abort.walk A c l id w hr.out hc
  rw [h] at this
  exact this
theorem begin_calls (A : Option Addr) (c n : Nat) (l : List S25) (id : Int) (key : ByteArray) (w : World) (next : List S25) (e : Int) (h : beginR l id key = (next, e)) (hn : n = l.length) (hr : Hid (Kd.C k25 w A n l)) (hc : n ≤ c) :
    Calls Tryd.prog 12 #[.slice A n c, .int .u64 id, .string key] w fun e' w' => ∃ A c, e' = .returned (.tuple #[.slice A next.length c, .int .i64 e]) ∧ next.length ≤ c ∧ Hid (Kd.C k25 w' A next.length next) ∧ Below w.heap.size w w' := by
  subst hn
  have := begin.walk A c l id key w hr.out hc
  rw [h] at this
  exact this
theorem abort_ok {l : List S25} {id : Int} (h : (abortR l id).2 = 0) : checkB l = true ∧ ∃ i, posU l id = some i ∧ abortR l id = (delL l i, 0) := by
  unfold abortR at h ⊢
  by_cases hc : checkB l = false
  · rw [if_pos hc] at h; exact absurd h (by decide)
  · rw [if_neg hc] at h ⊢
    refine ⟨by cases h : checkB l <;> simp_all, ?_⟩
    cases hp : posU l id with
    | none => rw [hp] at h; exact absurd h (show ¬ ((4 : Int) = 0) by decide)
    | some i => exact ⟨i, rfl, rfl⟩
theorem abort_err {l : List S25} {id : Int} (h : ¬ (abortR l id).2 = 0) : (abortR l id).1 = [] := by
  unfold abortR at h ⊢
  by_cases hc : checkB l = false
  · rw [if_pos hc]
  · rw [if_neg hc] at h ⊢
    cases hp : posU l id with
    | none => rfl
    | some i => rw [hp] at h; exact absurd rfl h
theorem same_one {W : World} {u : S25} {b1 b2 : Nat} {A5 A2 : Option Addr} {c5 c2 : Nat} (h1 : W.heap[b1]? = some (.cells #[.int .u64 u.f0, .string u.f1, .slice A5 u.f2.length c5] 25 (0, 0))) (h2 : W.heap[b2]? = some (.cells #[.int .u64 u.f0, .string u.f1, .slice A2 u.f2.length c2] 25 (0, 0)))
    (k1 : Kd.C k40 W A5 u.f2.length u.f2) (k2 : Kd.C k40 W A2 u.f2.length u.f2) (l5 : u.f2.length ≤ c5) (l2 : u.f2.length ≤ c2) :
    Calls Tryd.prog 21 #[.slice (some ⟨b1, 0, none⟩) 1 1, .slice (some ⟨b2, 0, none⟩) 1 1] W fun e w' => e = .returned (.bool true) ∧ Drawn0 W w' :=
  same_calls (l := [u]) (rows_C (RowsOf.one_ u _ (k25_mk W u l5 k1)) (blk_raw h1 3 rfl) (by simp)) (Nat.le_refl _) (rows_C (RowsOf.one_ u _ (k25_mk W u l2 k2)) (blk_raw h2 3 rfl) (by simp)) (Nat.le_refl _)
theorem if_max (m x : Int) : (if m < x then x else m) = max m x := by rw [Int.max_def]; split <;> split <;> omega
theorem blk_1 {W0 : World} {n : Nat} {x y : Obj} (h : W0.heap.size = n) : ((W0.alloc x).alloc y).heap[n]? = some x := h ▸ blk_alloc (blk_new W0 x) y
theorem blk_2 {W0 : World} {n : Nat} {x y : Obj} (h : W0.heap.size + 1 = n) : ((W0.alloc x).alloc y).heap[n]? = some y := by
  subst h; have := blk_new (W0.alloc x) y; rwa [World.size_alloc] at this
theorem size_1 (w : World) (o : Obj) : (w.alloc o).drew.heap.size = w.heap.size + 1 := World.size_alloc w o
theorem size_2 (w : World) (o : Obj) : (w.alloc o).drew.heap.size + 1 = w.heap.size + 2 := congrArg (· + 1) (size_1 w o)
/-- What stays while the loop runs. -/
def GoH (w : World) (A1 : Option Addr) (l1 : List S25) (A7 : Option Addr) (next : List S25) (W : World) : Prop := Below w.heap.size w W ∧ Kd.C k25 W A1 l1.length l1 ∧ Kd.C k25 W A7 next.length next
theorem keepG {w : World} {A1 : Option Addr} {l1 : List S25} {A7 : Option Addr} {next : List S25} {W W2 : World} (h : Hid (GoH w A1 l1 A7 next W)) (hb : Below W.heap.size W W2) : Hid (GoH w A1 l1 A7 next W2) :=
  ⟨h.out.1.trans (hb.mono h.out.1.size), Kd.C_below h.out.2.1 hb, Kd.C_below h.out.2.2 hb⟩
set_option maxHeartbeats 8000000 in
set_option maxRecDepth 100000 in
theorem gone.walk (A : Option Addr) (c : Nat) (l : List S25) (id : Int) (key : ByteArray) (w : World) (hr : Kd.C k25 w A l.length l) (hc : l.length ≤ c) :
    Calls Tryd.prog 7 #[.slice A l.length c, .int .u64 id, .string key] w fun e w' => e = .returned (.bool true) ∧ Below w.heap.size w w' := by
  have HB0 : Hid (Below w.heap.size w w) := Below.refl _ _
  have HFEW := Lib.hid (few.walk A c l w hr hc)
  have HKEY : Hid (∀ W, Calls Tryd.prog 19 #[.string key] W fun e w' => e = .returned (.string (fewKey key)) ∧ Drawn0 W w') := fun W => cellarerlaw01_Few.calls key _ W (few_key key)
  have HAW : Hid (∀ W, Calls Tryd.prog 11 #[] W fun e w' => e = .returned (.bool true) ∧ Below W.heap.size W w') := fun W => awake.walk W
  clear hr
  generalize fewL l = l1 at *
  generalize fewKey key = k1 at *
  go_enter Tryd.func7, Tryd.ntmps7
  by_cases he : (abortR l1 id).2 = 0
  · obtain ⟨hck, i, hp, hE⟩ := abort_ok he
    have HI := Lib.hid hp
    have HCK := Lib.hid hck
    have HE := Lib.hid hE
    obtain ⟨hi, _⟩ := posU_lt hp
    have hlen : (delL l1 i).length = l1.length - 1 := delL_len l1 i hi
    clear he hck hp hE
    have hm : l1.length ≤ 10 := ((check_iff l1).1 HCK.out).1
    obtain ⟨m, hm1⟩ : ∃ m, l1.length = m + 1 := ⟨l1.length - 1, by omega⟩
    have d1 : (((delL l1 i).length : Int) != (l1.length : Int) - 1) = false := by simp; omega
    clear hlen hm1 m
    have T0 : Hid True := trivial
    go_wp2_with (first
      | (go_at_call 8; refine HFEW.out.mono ?_; rintro e w1 ⟨A1, c1, rfl, hc1, hC, hb⟩; have HC1 := Lib.hid hC; have HB1 := Lib.hid hb; clear hC hb)
      | (go_at_call 19; refine (HKEY.out _).mono ?_; rintro e w2 ⟨rfl, hb⟩; have HC2 := keepR HC1 (outD hb); have HB2 := keepB HB1 (outD hb); clear hb)
      | (go_at_call 20; refine (abort_calls A1 c1 _ l1 id _ _ 0 HE.out rfl HC2 hc1).mono ?_; rintro e w3 ⟨A7, c7, rfl, hc7, HC7, hb⟩; have HC3 := keepR HC2 hb; have HB3 := keepB HB2 hb; clear hb)
      | (go_at_call 16; have _t := T0; refine (find_calls A7 c7 _ _ id _ z25 4 (find_none (del_check HCK.out i) (del_ne HCK.out HI.out)) rfl HC7 hc7).mono ?_; rintro e w4 ⟨A4, c4, rfl, hc4, HC4, hb⟩; have HC5 := keepR HC3 hb; have HC75 := keepR HC7 hb; have HB5 := keepB HB3 hb; clear hb _t T0))
    have HG := Lib.hid (show GoH w A1 l1 A7 (delL l1 i) (w4.alloc (.cells #[.int .u64 z25.f0, .string z25.f1, .slice A4 z25.f2.length c4] 25)) from ⟨HB5.out.alloc HB5.out.size _, Kd.C_below HC5.out (below1 _ _), Kd.C_below HC75.out (below1 _ _)⟩)
    clear HC1 HC2 HC3 HC5 HC7 HC75 HC4 HB1 HB2 HB3 HB5 HFEW HKEY HB0 d1
    go_loopw [11, 12] (fun x j wr => ∃ (k : Nat) (m : Int), x = .int .u64 m ∧ j = .int .i64 k ∧ k ≤ l1.length ∧ Hid (lastOf (l1.take k) = m) ∧ Hid (GoH w A1 l1 A7 (delL l1 i) wr)) (fun _ j _ => l1.length - (intOf j).toNat)
    case atStart => exact ⟨0, 0, rfl, rfl, Nat.zero_le _, rfl, HG⟩
    case round =>
      obtain ⟨k, m, rfl, rfl, hk, hmm, hG⟩ := hrel
      by_cases hlt : k < l1.length
      · have HFD : Hid (l1[k].f0 ≠ id → ∀ W, Hid (GoH w A1 l1 A7 (delL l1 i) W) → Calls Tryd.prog 16 #[.slice A7 (delL l1 i).length c7, .int .u64 l1[k].f0] W fun e' w' => ∃ A c, e' = .returned (.tuple #[.agg #[.int .u64 l1[k].f0, .string l1[k].f1, .slice A l1[k].f2.length c], .int .i64 0]) ∧ l1[k].f2.length ≤ c ∧ Hid (Kd.C k40 w' A l1[k].f2.length l1[k].f2) ∧ Below W.heap.size W w') := fun hne W hW =>
          find_calls A7 c7 _ _ l1[k].f0 W l1[k] 0 (find_mem (del_check HCK.out i) (del_has HI.out (List.getElem_mem hlt) hne)) rfl hW.out.2.2 hc7
        have HLS := Lib.hid (last_snoc l1 k hlt)
        obtain ⟨ad, A2, c2, e', h0, h1, h2, h3, h4⟩ := at25 hG.out.2.1 (Below.refl _ _) k hlt
        subst e'
        have H4 := Lib.hid h4
        clear h4
        have d0 : (0 : Int) ≤ (k : Int) := by omega
        have d1 : (k : Int) < (l1.length : Int) := by omega
        by_cases hv : l1[k].f0 = id
        · have hv' : (l1[k].f0 == id) = true := beq_iff_eq.2 hv
          clear hv
          go_wp2
          go_roundw
          case rel => exact ⟨k + 1, max m l1[k].f0, by rw [← if_max], by go_num, hlt, (by show lastOf _ = _; rw [HLS.out, hmm.out]), hG⟩
          case measure => simp [intOf]; omega
        · have hv' : (l1[k].f0 == id) = false := beq_eq_false_iff_ne.2 hv
          go_upto_region 15 with (first | (go_at_call 16; refine (HFD.out hv _ hG).mono ?_; rintro e w5 ⟨A5, c5, rfl, hc5, HC5, hb⟩; have hG5 := keepG hG hb; have H5 := keepR H4 hb; have q0 := (keepc hb h0); have q1 := keepc hb h1; have q2 := keepc hb h2; clear hb h0 h1 h2))
          have HW1 := keepR HC5 (below1 w5 (.cells #[.int .u64 l1[k].f0, .string l1[k].f1, .slice A5 l1[k].f2.length c5] 25)).drew
          have HW2 := keepR H5 (below1 w5 (.cells #[.int .u64 l1[k].f0, .string l1[k].f1, .slice A5 l1[k].f2.length c5] 25)).drew
          have HG6 := keepG hG5 (below1 w5 (.cells #[.int .u64 l1[k].f0, .string l1[k].f1, .slice A5 l1[k].f2.length c5] 25)).drew
          rw [if_max]
          obtain ⟨mx, hmx⟩ : ∃ mx, Hid (max m l1[k].f0 = mx) := ⟨_, Eq.refl (max m l1[k].f0)⟩
          rw [hmx.out]
          go_cut [95] from 53 to 95 (fun s95 wx => s95 = .bool false ∧ Hid (GoH w (some ad) l1 A7 (delL l1 i) wx))
          case first =>
            have n0 := World.new_ne w5 _ q0
            have n1 : (ad.add (k * 3)).block < w5.heap.size := World.block_lt_of_cell? w5 _ q0
            have n2 : (ad.add (k * 3)).block ≠ w5.heap.size + 1 := by omega
            go_region_with (go_at_call 21; refine (same_one (u := l1[k]) (A5 := A5) (A2 := A2) (c5 := c5) (c2 := c2) (by first | exact blk_1 (size_1 _ _) | exact blk_2 (size_2 _ _)) (by first | exact blk_1 (size_1 _ _) | exact blk_2 (size_2 _ _)) (Kd.C_below HW1.out (below2 _ _ _)) (Kd.C_below HW2.out (below2 _ _ _)) hc5 h3).mono ?_; rintro e w6 ⟨rfl, hb⟩; have HG7 := keepG HG6 ((below2 _ _ _).trans ((outD hb).mono (by simp))); clear hb)
            all_goals (go_wp2_with fail; go_meet; exact ⟨rfl, HG7⟩)
          case rest =>
            obtain ⟨rfl, HGc⟩ := hcut
            go_wp2
            go_roundw
            case rel => exact ⟨k + 1, mx, rfl, by go_num, hlt, (by show lastOf _ = _; rw [HLS.out, hmm.out]; exact hmx.out), HGc⟩
            case measure => simp [intOf]; omega
      · obtain rfl : k = l1.length := by omega
        rw [List.take_length] at hmm
        have b0 := (last_ge l1).1
        have b1 := last_le HCK.out
        rw [hmm.out] at b0 b1
        rcases del_begin HCK.out HI.out k1 with hA | ⟨n, hB1, hB2⟩
        · rw [hmm.out] at hA
          have HA := Lib.hid hA
          clear hA
          go_wp2_with (first
            | (go_at_call 12; refine (begin_calls A7 c7 _ _ (m + 1) k1 _ _ _ HA.out rfl hG.out.2.2 hc7).mono ?_; rintro e w5 ⟨A8, c8, rfl, hc8, HC8, hb⟩; have hG5 := keepG hG hb; clear hb)
            | (go_at_call 11; refine (HAW.out _).mono ?_; rintro x w6 ⟨rfl, hb⟩; have hG6 := keepG hG5 hb; clear hb))
          go_ret
          exact ⟨rfl, hG6.out.1⟩
        · rw [hmm.out] at hB1 hB2
          have HB1 := Lib.hid hB1
          have HB2 := Lib.hid hB2
          clear hB1 hB2
          have kk : (k1.toList == k1.toList) = true := beq_self_eq_true _
          go_wp2_with (first
            | (go_at_call 12; refine (begin_calls A7 c7 _ _ (m + 1) k1 _ _ _ HB1.out rfl hG.out.2.2 hc7).mono ?_; rintro e w5 ⟨A8, c8, rfl, hc8, HC8, hb⟩; have hG5 := keepG hG hb; clear hb)
            | (go_at_call 16; refine (find_calls A8 c8 _ _ (m + 1) _ _ _ HB2.out rfl HC8 hc8).mono ?_; rintro e w6 ⟨A9, c9, rfl, hc9, HC9, hb⟩; have hG6 := keepG hG5 hb; clear hb)
            | (go_at_call 11; refine (HAW.out _).mono ?_; rintro x w7 ⟨rfl, hb⟩; have hG7 := keepG (keepG hG6 (below1 w6 _)) hb; clear hb))
          go_ret
          exact ⟨rfl, hG7.out.1⟩
  · have hd : ((abortR l1 id).2 != 0) = true := by simpa using he
    have HE := Lib.hid (abort_err he)
    clear he
    obtain ⟨next, e0, hx⟩ : ∃ next e0, abortR l1 id = (next, e0) := ⟨_, _, rfl⟩
    rw [hx] at hd HE
    have HX := Lib.hid hx
    have hn : next = [] := HE.out
    subst hn
    clear hx HE
    simp only at hd
    go_wp2_with (first
      | (go_at_call 8; refine HFEW.out.mono ?_; rintro e w1 ⟨A1, c1, rfl, hc1, hC, hb⟩; have HC1 := Lib.hid hC; have HB1 := Lib.hid hb; clear hC hb)
      | (go_at_call 19; refine (HKEY.out _).mono ?_; rintro e w2 ⟨rfl, hb⟩; have HC2 := keepR HC1 (outD hb); have HB2 := keepB HB1 (outD hb); clear hb)
      | (go_at_call 20; refine (abort_calls A1 c1 _ l1 id _ _ _ HX.out rfl HC2 hc1).mono ?_; rintro e w3 ⟨A7, c7, rfl, hc7, HC7, hb⟩; have HB3 := keepB HB2 hb; clear hb)
      | (go_at_call 11; refine (HAW.out _).mono ?_; rintro x w7 ⟨rfl, hb⟩; have HB4 := keepB HB3 hb; clear hb))
    go_ret
    exact ⟨rfl, HB4.out⟩
end Go.Proofs.YtgpmkbmobdbdoaaDoor.Q
