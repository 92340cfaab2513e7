/- For every list of uploads, every number and every part, the law PartsLays returns true and leaves its arguments as they read before. Part 25 of 25. -/
import Derived.Test.YtgpmkbmobdbdoaaGreatDoorLy3
import Derived.WalkSpells
import Derived.Lib.BufferMore
import Derived.StillTailTactics
import Derived.Deep.RegionWith
import Derived.Deep.AppendLies
import Derived.Deep.RegionLaw
import Derived.Deep.DeepAppendRoom
import Derived.Test.YtgpmkbmobdbdoaaGreatDoorLy2
import Derived.Test.YtgpmkbmobdbdoaaGreatDoorLy1
import Derived.BigQuiet
import Derived.Laws.StructEq
import Derived.Deep.DeepCutAuto
import Derived.ProofKit
import Derived.Deep.Strs
import Derived.Test.YtgpmkbmobdbdoaaGreatDoorRows
import Derived.LaidMore
import Derived.OpenShut
import Derived.Stop.Joined
import Derived.Test.YtgpmkbmobdbdoaaGreatDoorTie
import Derived.Test.YtgpmkbmobdbdoaaGreatDoorCards
import Derived.WalkKit
import Derived.ShutString
import Derived.ChangeOld
import Derived.Below
import Derived.SizedLaws
import Derived.SevenTiedAt
import Derived.Lib.SmallJoins
-- T13
namespace Go.Proofs.YtgpmkbmobdbdoaaGreatDoor.Q
open Go.RowKit Go.Proofs.YtgpmkbmobdbdoaaGreatDoorW.PrintWords Go.Proofs.YtgpmkbmobdbdoaaGreatDoorW.PrintLast Go.Proofs.YtgpmkbmobdbdoaaGreatDoorW.PrintMore
set_option linter.unusedVariables false
set_option linter.unusedSimpArgs false

theorem at25 {w w1 : World} {A : Option Addr} {l : List S40} (hr : Kd.C k40 w A l.length l) (hb : Below w.heap.size w w1) (k : Nat) (h : k < l.length) :
    ∃ ad A2 c2, A = some ad ∧ w1.cell? (ad.add (k * 3)) = some (.int .u64 l[k].f0) ∧ w1.cell? ⟨(ad.add (k * 3)).block, (ad.add (k * 3)).off + 1, none⟩ = some (.string l[k].f1) ∧
      w1.cell? ⟨(ad.add (k * 3)).block, (ad.add (k * 3)).off + 2, none⟩ = some (.slice A2 l[k].f2.length c2) ∧ l[k].f2.length ≤ c2 ∧ Kd.C k25 w1 A2 l[k].f2.length l[k].f2 := by
  obtain ⟨ad, A2, c2, e, h0, h1, h2, h3, h4⟩ := at_T40 hr k (by omega) (by omega)
  rw [Int.toNat_natCast, rd25 l k h] at h0 h1 h2
  rw [rd25 l k h] at h3 h4
  exact ⟨ad, A2, c2, e, keepc hb h0, keepc hb h1, keepc hb h2, h3, Kd.C_below h4 hb⟩
theorem place1.walk (i : Int) (key : ByteArray) (v : Value) (id : Int) (b : Nat) (w : World) (h0 : w.cell? ⟨b, 0, none⟩ = some (.int .u64 id)) :
    Calls Tryz.prog 45 #[.agg #[.int .u64 i, .string key, v], .pointer (some ⟨b, 0, none⟩)] w fun e w' => e = .returned (.bool (i == id)) ∧ Below w.heap.size w w' := by
  have HB0 : Hid (Below w.heap.size w w) := Below.refl _ _
  have e0 := World.new_ne w _ h0
  have hlt := World.block_lt_of_cell? w _ h0
  go_enter Tryz.func45, Tryz.ntmps45
  go_wp2
  go_ret
  exact ⟨rfl, HB0.out.alloc (Nat.le_refl _) _⟩
def posU (l : List S40) (id : Int) : Option Nat := l.findIdx? (fun u => u.f0 == id)
def posI (r : Option Nat) : Int := match r with | some i => i | none => -1
set_option maxHeartbeats 2000000 in
set_option maxRecDepth 100000 in
theorem idx59.walk (A : Option Addr) (c : Nat) (l : List S40) (id : Int) (b : Nat) (w : World) (hr : Kd.C k40 w A l.length l) (h0 : w.cell? ⟨b, 0, none⟩ = some (.int .u64 id)) :
    Calls Tryz.prog 44 #[.slice A l.length c, .func (.func 45) #[] #[.pointer (some ⟨b, 0, none⟩)]] w fun e w' => e = .returned (.int .i64 (posI (posU l id))) ∧ Below w.heap.size w w' := by
  have HR := Lib.hid hr
  have hlen : (l.length : Int) ≤ 9223372036854775807 := by have := hr.2.1; omega
  clear hr
  have HB0 : Hid (Below w.heap.size w w) := Below.refl _ _
  have H0 := Lib.hid h0; clear h0
  go_enter Tryz.func44, Tryz.ntmps44
  go_wp2
  go_loopw [5, 8] (fun _ i wr => ∃ (k : Nat), i = .int .i64 k ∧ k ≤ l.length ∧ Hid (∀ j (hj : j < k) (hl : j < l.length), (l[j].f0 == id) = false) ∧ Hid (Below w.heap.size w wr)) (fun _ i _ => l.length - (intOf i).toNat)
  case atStart => exact ⟨0, rfl, Nat.zero_le _, fun j hj => absurd hj (Nat.not_lt_zero _), HB0⟩
  case round =>
    obtain ⟨k, rfl, hk, hall, hb⟩ := hrel
    by_cases hlt : k < l.length
    · obtain ⟨ad, A2, c2, e', hc0, hc1, hc2, _, _⟩ := at25 HR.out hb.out k hlt
      subst e'
      have HC := Lib.hid (place1.walk l[k].f0 l[k].f1 (.slice A2 l[k].f2.length c2) id b wr (keepc hb.out H0.out))
      cases hp : (l[k].f0 == id)
      · have hn : Hid (∀ j (hj : j < k + 1) (hl : j < l.length), (l[j].f0 == id) = false) := fun j hj hl => by
          rcases Nat.eq_or_lt_of_le (Nat.le_of_lt_succ hj) with rfl | h
          · exact hp
          · exact hall.out j h hl
        rw [hp] at HC
        clear hp
        go_wp2_with (go_at_call 45; refine HC.out.mono ?_; rintro e w1 ⟨rfl, hb1⟩; have HB1 := Lib.hid hb1; clear hb1)
        go_roundw
        case rel => exact ⟨k + 1, by go_num, by omega, hn, keepB hb HB1.out⟩
        case measure => simp [intOf]; omega
      · have hn : Hid (posU l id = some k) := by
          unfold Hid posU
          rw [List.findIdx?_eq_some_iff_getElem]
          exact ⟨hlt, hp, fun j hj => by rw [hall.out j hj (by omega)]; simp⟩
        rw [hp] at HC
        clear hp
        go_wp2_with (go_at_call 45; refine HC.out.mono ?_; rintro e w1 ⟨rfl, hb1⟩; have HB1 := Lib.hid hb1; clear hb1)
        go_ret
        exact ⟨by rw [hn.out]; rfl, keepB hb HB1.out⟩
    · have hn : Hid (posU l id = none) := by
        unfold Hid posU
        rw [List.findIdx?_eq_none_iff]
        intro u hu
        obtain ⟨j, hj, rfl⟩ := List.getElem_of_mem hu
        exact hall.out j (by omega) hj
      go_wp2
      go_ret
      exact ⟨by rw [hn.out]; rfl, hb.out⟩
def placeR (l : List S40) (id : Int) : Int × Int :=
  if checkB l = false then (0, 1) else match posU l id with | none => (0, 4) | some i => (i, 0)
set_option maxHeartbeats 2000000 in
theorem place.walk (A : Option Addr) (c : Nat) (l : List S40) (id : Int) (w : World) (hr : Kd.C k40 w A l.length l) (hc : l.length ≤ c) :
    Calls Tryz.prog 23 #[.slice A l.length c, .int .u64 id] w fun e w' => e = .returned (.tuple #[.int .i64 (placeR l id).1, .int .i64 (placeR l id).2]) ∧ Below w.heap.size w w' := by
  have HB0 : Hid (Below w.heap.size w w) := Below.refl _ _
  have HB1 := Lib.hid (HB0.out.alloc (Nat.le_refl _) (.cells #[.int .u64 id] 23))
  have HK := Lib.hid (check_calls (w := w.alloc (.cells #[.int .u64 id] 23)) (Kd.C_below hr HB1.out) hc)
  have HN := Lib.hid (show (w.alloc (.cells #[.int .u64 id] 23)).cell? ⟨w.heap.size, 0, none⟩ = some (.int .u64 id) by simp [go_sem])
  have HI := Lib.hid (fun (W : World) (hb : Below (w.heap.size + 1) (w.alloc (.cells #[.int .u64 id] 23)) W) => idx59.walk A c l id w.heap.size W (Kd.C_below hr (HB1.out.trans (hb.mono (Nat.le_succ _)))) (by rw [hb.cell (p := ⟨w.heap.size, 0, none⟩) (Nat.lt_succ_self _)]; exact HN.out))
  clear hr
  cases hk : checkB l
  · have HE : Hid (placeR l id = (0, 1)) := by unfold Hid placeR; rw [if_pos hk]
    rw [hk] at HK
    have e1 : errOf false = 1 := rfl
    rw [e1] at HK
    clear hk e1
    go_enter Tryz.func23, Tryz.ntmps23
    go_wp2_with (go_at_call 14; refine HK.out.mono ?_; rintro e w1 ⟨rfl, hb⟩; have HB2 := Lib.hid hb; clear hb)
    go_ret2
    exact ⟨by rw [HE.out]; rfl, keepB HB1 HB2.out⟩
  · rw [hk] at HK
    have e1 : errOf true = 0 := rfl
    rw [e1] at HK
    clear e1
    cases hp : posU l id with
    | none =>
      have HE : Hid (placeR l id = (0, 4)) := by unfold Hid placeR; rw [if_neg (by simp [hk]), hp]
      rw [hp] at HI
      have e2 : posI none = -1 := rfl
      rw [e2] at HI
      clear hk hp e2
      go_enter Tryz.func23, Tryz.ntmps23
      go_wp2_with (first | (go_at_call 14; refine HK.out.mono ?_; rintro e w1 ⟨rfl, hb⟩; have HB2 := Lib.hid hb; clear hb) | (go_at_call 44; refine (HI.out _ (by simpa using HB2.out)).mono ?_; rintro e w2 ⟨rfl, hb⟩; have HB3 := Lib.hid hb; clear hb))
      go_ret2
      exact ⟨by rw [HE.out]; rfl, keepB (keepB HB1 HB2.out) HB3.out⟩
    | some i =>
      have HE : Hid (placeR l id = ((i : Int), 0)) := by unfold Hid placeR; rw [if_neg (by simp [hk]), hp]
      rw [hp] at HI
      have e2 : posI (some i) = i := rfl
      rw [e2] at HI
      clear hk hp e2
      go_enter Tryz.func23, Tryz.ntmps23
      go_wp2_with (first | (go_at_call 14; refine HK.out.mono ?_; rintro e w1 ⟨rfl, hb⟩; have HB2 := Lib.hid hb; clear hb) | (go_at_call 44; refine (HI.out _ (by simpa using HB2.out)).mono ?_; rintro e w2 ⟨rfl, hb⟩; have HB3 := Lib.hid hb; clear hb))
      go_ret2
      exact ⟨by rw [HE.out]; rfl, keepB (keepB HB1 HB2.out) HB3.out⟩

def findR (l : List S40) (id : Int) : S40 × Int :=
  if checkB l = false then (z40, 1) else match posU l id with | none => (z40, 4) | some i => (l.getD i z40, 0)
def FindPost (l : List S40) (id : Int) (w : World) (e : Ending) (w' : World) : Prop :=
  ∃ A2 c2, e = .returned (.tuple #[.agg #[.int .u64 (findR l id).1.f0, .string (findR l id).1.f1, .slice A2 (findR l id).1.f2.length c2], .int .i64 (findR l id).2]) ∧
    (findR l id).1.f2.length ≤ c2 ∧ Kd.C k25 w' A2 (findR l id).1.f2.length (findR l id).1.f2 ∧ Below w.heap.size w w'
theorem posU_lt {l : List S40} {id : Int} {i : Nat} (h : posU l id = some i) : ∃ hl : i < l.length, l[i].f0 = id := by
  unfold posU at h
  rw [List.findIdx?_eq_some_iff_getElem] at h
  obtain ⟨hl, hp, _⟩ := h
  exact ⟨hl, by simpa using hp⟩
set_option maxHeartbeats 2000000 in
set_option maxRecDepth 100000 in
theorem find.walk (A : Option Addr) (c : Nat) (l : List S40) (id : Int) (w : World) (hr : Kd.C k40 w A l.length l) (hc : l.length ≤ c) :
    Calls Tryz.prog 11 #[.slice A l.length c, .int .u64 id] w (FindPost l id w) := by
  have HB0 : Hid (Below w.heap.size w w) := Below.refl _ _
  have HZ := Lib.hid (fun (W : World) (hb : Below w.heap.size w W) => place.walk A c l id W (Kd.C_below hr hb) hc)
  have HR := Lib.hid hr
  have hlen : (l.length : Int) ≤ 9223372036854775807 := by have := hr.2.1; omega
  clear hr
  have HA := Lib.hid (HB0.out.alloc (Nat.le_refl _) (.cells #[.int .u64 0, .string ⟨#[]⟩, .slice none 0 0] 40))
  cases hk : checkB l
  · skip
    have HE : Hid (findR l id = (z40, 1)) := by unfold Hid findR; rw [if_pos hk]
    have e1 : placeR l id = (0, 1) := by unfold placeR; rw [if_pos hk]
    rw [e1] at HZ
    clear hk e1
    go_enter Tryz.func11, Tryz.ntmps11
    go_wp2_with (go_at_call 23; refine (HZ.out _ HA.out).mono ?_; rintro e w1 ⟨rfl, hb⟩; have HB1 := keepB HA hb; have hs := hb.size; have hk1 := blk_below (blk_new w _) hb; have d0 := (blk_cell hk1 0).trans rfl; have d1 := (blk_cell hk1 1).trans rfl; have d2 := (blk_cell hk1 2).trans rfl; have z0 := blk_frozen hk1 0; have z1 := blk_frozen hk1 1; have z2 := blk_frozen hk1 2; clear hb hk1)
    refine bodyPost_ret (v := .tuple #[.agg #[.int .u64 0, .string ⟨#[]⟩, .slice none 0 0], .int .i64 1]) ?_ rfl ?_
    · simp [results, Tryz.results11, go_sem, d0, d1, d2]
    · exact ⟨none, 0, by rw [HE.out]; rfl, by rw [HE.out]; exact Nat.zero_le _, by rw [HE.out]; exact Kd.C_nil _ _, (((HB1.out.setCell (Nat.le_refl _) _).setCell (Nat.le_refl _) _).setCell (Nat.le_refl _) _)⟩
  · cases hp : posU l id with
    | none =>
      have HE : Hid (findR l id = (z40, 4)) := by unfold Hid findR; rw [if_neg (by simp [hk]), hp]
      have e1 : placeR l id = (0, 4) := by unfold placeR; rw [if_neg (by simp [hk]), hp]
      rw [e1] at HZ
      clear hk e1 hp
      go_enter Tryz.func11, Tryz.ntmps11
      go_wp2_with (go_at_call 23; refine (HZ.out _ HA.out).mono ?_; rintro e w1 ⟨rfl, hb⟩; have HB1 := keepB HA hb; have hs := hb.size; have hk1 := blk_below (blk_new w _) hb; have d0 := (blk_cell hk1 0).trans rfl; have d1 := (blk_cell hk1 1).trans rfl; have d2 := (blk_cell hk1 2).trans rfl; have z0 := blk_frozen hk1 0; have z1 := blk_frozen hk1 1; have z2 := blk_frozen hk1 2; clear hb hk1)
      refine bodyPost_ret (v := .tuple #[.agg #[.int .u64 0, .string ⟨#[]⟩, .slice none 0 0], .int .i64 4]) ?_ rfl ?_
      · simp [results, Tryz.results11, go_sem, d0, d1, d2]
      · exact ⟨none, 0, by rw [HE.out]; rfl, by rw [HE.out]; exact Nat.zero_le _, by rw [HE.out]; exact Kd.C_nil _ _, (((HB1.out.setCell (Nat.le_refl _) _).setCell (Nat.le_refl _) _).setCell (Nat.le_refl _) _)⟩
    | some i =>
      obtain ⟨hil, hid⟩ := posU_lt hp
      clear hid
      have HE : Hid (findR l id = (l[i], 0)) := by
        unfold Hid findR; rw [if_neg (by simp [hk]), hp]; simp [List.getD_eq_getElem?_getD, hil]
      have e1 : placeR l id = ((i : Int), 0) := by unfold placeR; rw [if_neg (by simp [hk]), hp]
      rw [e1] at HZ
      clear hk e1 hp
      obtain ⟨ad, A3, c3, e', g0, g1, g2, g3, g4⟩ := at25 HR.out HB0.out i hil
      subst e'
      have G0 := Lib.hid g0; have G1 := Lib.hid g1; have G2 := Lib.hid g2; have G3 := Lib.hid g3; have G4 := Lib.hid g4
      clear g0 g1 g2 g3 g4
      go_enter Tryz.func11, Tryz.ntmps11
      go_wp2_with (go_at_call 23; refine (HZ.out _ HA.out).mono ?_; rintro e w1 ⟨rfl, hb⟩; have HB1 := keepB HA hb; have hs := hb.size; have hk1 := blk_below (blk_new w _) hb; have d0 := (blk_cell hk1 0).trans rfl; have d1 := (blk_cell hk1 1).trans rfl; have d2 := (blk_cell hk1 2).trans rfl; have z0 := blk_frozen hk1 0; have z1 := blk_frozen hk1 1; have z2 := blk_frozen hk1 2; clear hb hk1; have g0 := keepc HB1.out G0.out; have g1 := keepc HB1.out G1.out; have g2 := keepc HB1.out G2.out)
      refine bodyPost_ret (v := .tuple #[.agg #[.int .u64 l[i].f0, .string l[i].f1, .slice A3 l[i].f2.length c3], .int .i64 0]) ?_ rfl ?_
      · simp [results, Tryz.results11, go_sem, d0, d1, d2]
      · have hb := (((HB1.out.setCell (p := ⟨w.heap.size, 0, none⟩) (Nat.le_refl _) (.int .u64 l[i].f0)).setCell (p := ⟨w.heap.size, 1, none⟩) (Nat.le_refl _) (.string l[i].f1)).setCell (p := ⟨w.heap.size, 2, none⟩) (Nat.le_refl _) (.slice A3 l[i].f2.length c3))
        exact ⟨A3, c3, by rw [HE.out], by rw [HE.out]; exact G3.out, by rw [HE.out]; exact Kd.C_below G4.out hb, hb⟩
end Go.Proofs.YtgpmkbmobdbdoaaGreatDoor.Q

-- T14
namespace Go.Proofs.YtgpmkbmobdbdoaaGreatDoor.Q
open Go.RowKit Go.Proofs.YtgpmkbmobdbdoaaGreatDoorW.PrintWords Go.Proofs.YtgpmkbmobdbdoaaGreatDoorW.PrintLast Go.Proofs.YtgpmkbmobdbdoaaGreatDoorW.PrintMore
set_option linter.unusedVariables false
set_option linter.unusedSimpArgs false

theorem clone34_nil (n c : Nat) (w : World) : Calls Tryz.prog 27 #[.slice none n c] w fun e w' => e = .returned (.slice none 0 0) ∧ Below w.heap.size w w' := by
  have he := Lib.run_eql_slice_nil_nil (P := Tryz.prog) w n c Tryz.underlying22
  go_enter Tryz.func27, Tryz.ntmps27
  go_wp2
  go_ret
  exact ⟨rfl, Below.refl _ _⟩
set_option maxHeartbeats 2000000 in
set_option maxRecDepth 100000 in
theorem clone34.walk (ad : Addr) (n c : Nat) (cells : List Value) (w : World) (hl : cells.length = n * 3) (h1 : ∀ u ∈ cells, u.oneCell' = true) (hr : RawAt w ad cells) (hn : n ≤ 1000000) :
    Calls Tryz.prog 27 #[.slice (some ad) n c] w fun e w' => ∃ v, e = .returned v ∧ w'.ownsRow w.heap.size 40 3 v n cells ∧ Below w.heap.size w w' := by
  have he := Lib.run_eql_slice_some_nil (P := Tryz.prog) w ad n c Tryz.underlying22
  obtain ⟨i0, hi, hy0, hy1, hy2⟩ := info_parts info40
  have HL := Lib.hid hl; have H1 := Lib.hid h1; have HR := Lib.hid hr; clear hl h1 hr
  have HO : Hid ((w.alloc (.cells #[] 40)).ownsRow w.heap.size 40 3 (.slice (some ⟨w.heap.size, 0, none⟩) 0 0) 0 []) := ⟨rfl, Or.inr ⟨w.heap.size, 0, #[], rfl, Nat.le_refl _, blk_new w _, Nat.le_refl _, by unfold maxLen; omega, rfl, rfl⟩⟩
  have HB := Lib.hid ((Below.refl w.heap.size w).alloc (Nat.le_refl _) (.cells #[] 40))
  go_enter Tryz.func27, Tryz.ntmps27
  go_wp2_with (at_builtin; refine wpList_append_own _ rfl _ _ 22 rfl w.heap.size 40 i0 (.agg #[(.int .u64 0), (.string ⟨#[]⟩), (.slice none 0 0)]) 3 48 Tryz.underlying22 hi hy0 hy1 hy2 rfl (by decide) _ _ _ rfl HO.out ad n c cells rfl HL.out ?c1 ?c2 ?c3 ?c4 ?c5 ?_)
  case c1 => exact fun j u hu => keepc (Below.alloc (Below.refl _ _) (Nat.le_refl _) _) (HR.out j u hu)
  case c2 => exact H1.out
  case c3 => unfold maxLen; omega
  case c4 => omega
  case c5 => simp
  intro v' w4 hown' hgrow _
  have HG := Lib.hid (HB.out.grown hgrow (by simp) (own_base HO.out))
  have HOW := Lib.hid hown'
  clear hown' hgrow
  go_wp2
  go_ret
  exact ⟨_, rfl, HOW.out, HG.out⟩

theorem clone39_nil (n c : Nat) (w : World) : Calls Tryz.prog 28 #[.slice none n c] w fun e w' => e = .returned (.slice none 0 0) ∧ Below w.heap.size w w' := by
  have he := Lib.run_eql_slice_nil_nil (P := Tryz.prog) w n c Tryz.underlying38
  go_enter Tryz.func28, Tryz.ntmps28
  go_wp2
  go_ret
  exact ⟨rfl, Below.refl _ _⟩
set_option maxHeartbeats 2000000 in
set_option maxRecDepth 100000 in
theorem clone39.walk (ad : Addr) (n c : Nat) (cells : List Value) (w : World) (hl : cells.length = n * 2) (h1 : ∀ u ∈ cells, u.oneCell' = true) (hr : RawAt w ad cells) (hn : n ≤ 1000000) :
    Calls Tryz.prog 28 #[.slice (some ad) n c] w fun e w' => ∃ v, e = .returned v ∧ w'.ownsRow w.heap.size 25 2 v n cells ∧ Below w.heap.size w w' := by
  have he := Lib.run_eql_slice_some_nil (P := Tryz.prog) w ad n c Tryz.underlying38
  obtain ⟨i0, hi, hy0, hy1, hy2⟩ := info_parts info25
  have HL := Lib.hid hl; have H1 := Lib.hid h1; have HR := Lib.hid hr; clear hl h1 hr
  have HO : Hid ((w.alloc (.cells #[] 25)).ownsRow w.heap.size 25 2 (.slice (some ⟨w.heap.size, 0, none⟩) 0 0) 0 []) := ⟨rfl, Or.inr ⟨w.heap.size, 0, #[], rfl, Nat.le_refl _, blk_new w _, Nat.le_refl _, by unfold maxLen; omega, rfl, rfl⟩⟩
  have HB := Lib.hid ((Below.refl w.heap.size w).alloc (Nat.le_refl _) (.cells #[] 25))
  go_enter Tryz.func28, Tryz.ntmps28
  go_wp2_with (at_builtin; refine wpList_append_own _ rfl _ _ 38 rfl w.heap.size 25 i0 (.agg #[(.int .i64 0), (.string ⟨#[]⟩)]) 2 24 Tryz.underlying38 hi hy0 hy1 hy2 rfl (by decide) _ _ _ rfl HO.out ad n c cells rfl HL.out ?c1 ?c2 ?c3 ?c4 ?c5 ?_)
  case c1 => exact fun j u hu => keepc (Below.alloc (Below.refl _ _) (Nat.le_refl _) _) (HR.out j u hu)
  case c2 => exact H1.out
  case c3 => unfold maxLen; omega
  case c4 => omega
  case c5 => simp
  intro v' w4 hown' hgrow _
  have HG := Lib.hid (HB.out.grown hgrow (by simp) (own_base HO.out))
  have HOW := Lib.hid hown'
  clear hown' hgrow
  go_wp2
  go_ret
  exact ⟨_, rfl, HOW.out, HG.out⟩

theorem lay1.walk (n m : Int) (d : ByteArray) (w : World) (h0 : 0 ≤ n) (h1 : n ≤ 1000) (h2 : 0 ≤ m) (h3 : m ≤ 1000) :
    Calls Tryz.prog 26 #[.agg #[.int .i64 n, .string d], .int .i64 m] w fun e w' => e = .returned (.int .i64 (n - m)) ∧ Below w.heap.size w w' := by
  have HB0 : Hid (Below w.heap.size w w) := Below.refl _ _
  go_enter Tryz.func26, Tryz.ntmps26
  go_wp2
  go_ret
  exact ⟨rfl, HB0.out.alloc (Nat.le_refl _) _⟩
end Go.Proofs.YtgpmkbmobdbdoaaGreatDoor.Q

-- T15
namespace Go.Proofs.YtgpmkbmobdbdoaaGreatDoor.Q
open Go.RowKit Go.Proofs.YtgpmkbmobdbdoaaGreatDoorW.PrintWords Go.Proofs.YtgpmkbmobdbdoaaGreatDoorW.PrintLast Go.Proofs.YtgpmkbmobdbdoaaGreatDoorW.PrintMore
set_option linter.unusedVariables false
set_option linter.unusedSimpArgs false

structure SortedP (l : List S25) : Prop where
  lo : ∀ (j : Nat) (h : j < l.length), 1 ≤ l[j].f0 ∧ l[j].f0 ≤ 1000
  up : ∀ (i j : Nat) (h : i < j) (hj : j < l.length), l[i].f0 < l[j].f0
def lowP (l : List S25) (m : Int) : Nat := l.findIdx (fun p => decide (m ≤ p.f0))
def thereP (l : List S25) (m : Int) : Bool := l.any (fun p => p.f0 == m)
set_option maxHeartbeats 4000000 in
set_option maxRecDepth 100000 in
theorem bsearch.walk (A : Option Addr) (c : Nat) (l : List S25) (m : Int) (w : World) (hr : Kd.C k25 w A l.length l) (hs : SortedP l) (hn : l.length ≤ 1000) (hm0 : 1 ≤ m) (hm1 : m ≤ 1000) :
    Calls Tryz.prog 25 #[.slice A l.length c, .int .i64 m, .func (.func 26) #[] #[]] w fun e w' => e = .returned (.tuple #[.int .i64 (lowP l m), .bool (thereP l m)]) ∧ Below w.heap.size w w' := by
  have HB0 : Hid (Below w.heap.size w w) := Below.refl _ _
  have HR := Lib.hid hr; have HS := Lib.hid hs; clear hr hs
  go_enter Tryz.func25, Tryz.ntmps25
  go_wp2
  go_loopw [9, 10, 11] (fun i j _ wr => ∃ (p q : Nat), i = .int .i64 p ∧ j = .int .i64 q ∧ p ≤ q ∧ q ≤ l.length ∧ Hid (∀ (x : Nat) (h : x < l.length), x < p → l[x].f0 < m) ∧ Hid (∀ (x : Nat) (h : x < l.length), q ≤ x → m ≤ l[x].f0) ∧ Hid (Below w.heap.size w wr)) (fun i j _ _ => (intOf j - intOf i).toNat)
  case atStart => exact ⟨0, l.length, rfl, rfl, Nat.zero_le _, Nat.le_refl _, fun x _ h => absurd h (Nat.not_lt_zero _), fun x h h' => absurd h (by omega), HB0⟩
  case round =>
    obtain ⟨p, q, rfl, rfl, hpq, hq, hlo, hhi, hb⟩ := hrel
    by_cases hlt : p < q
    · have hx : (p + q) / 2 < l.length := by omega
      obtain ⟨ad, e', hc0, hc1⟩ := at40 HR.out hb.out ((p + q) / 2) hx
      subst e'
      have r := HS.out.lo ((p + q) / 2) hx
      have HC := Lib.hid (lay1.walk l[(p + q) / 2].f0 m l[(p + q) / 2].f1 wr (by omega) (by omega) (by omega) hm1)
      by_cases hv : l[(p + q) / 2].f0 - m < 0
      · go_wp2_with (go_at_call 26; refine HC.out.mono ?_; rintro e w1 ⟨rfl, hb1⟩; have HB1 := Lib.hid hb1; clear hb1)
        go_roundw
        case rel =>
          exact ⟨(p + q) / 2 + 1, q, by go_num, rfl, by omega, hq, fun x h h' => by
            rcases Nat.eq_or_lt_of_le (Nat.le_of_lt_succ h') with rfl | h2
            · omega
            · have := HS.out.up x _ h2 hx; omega, hhi, keepB hb HB1.out⟩
        case measure => simp [intOf]; omega
      · go_wp2_with (go_at_call 26; refine HC.out.mono ?_; rintro e w1 ⟨rfl, hb1⟩; have HB1 := Lib.hid hb1; clear hb1)
        go_roundw
        case rel =>
          exact ⟨p, (p + q) / 2, rfl, by go_num, by omega, by omega, hlo, fun x h h' => by
            rcases Nat.eq_or_lt_of_le h' with rfl | h2
            · omega
            · have := HS.out.up _ x h2 h; omega, keepB hb HB1.out⟩
        case measure => simp [intOf]; omega
    · obtain rfl : p = q := by omega
      have HL : Hid (lowP l m = p) := by
        unfold Hid lowP
        rcases Nat.eq_or_lt_of_le hq with h | h
        · rw [h]; apply List.findIdx_eq_length.2
          intro x hx
          obtain ⟨j, hj, rfl⟩ := List.getElem_of_mem hx
          have := hlo.out j hj (by omega)
          simp; omega
        · rw [List.findIdx_eq h]
          refine ⟨by simpa using hhi.out p h (Nat.le_refl _), fun j hj => ?_⟩
          have := hlo.out j (by omega) hj
          simp; omega
      by_cases he : p = l.length
      · have HT : Hid (thereP l m = false) := by
          unfold Hid thereP
          rw [List.any_eq_false]
          intro x hx
          obtain ⟨j, hj, rfl⟩ := List.getElem_of_mem hx
          have := hlo.out j hj (by omega)
          simp; omega
        have d1 : decide ((p : Int) < l.length) = false := by simp; omega
        have d2 : decide (p < l.length) = false := by simp; omega
        subst he
        go_wp2
        go_ret2
        exact ⟨by rw [HL.out, HT.out]; rfl, hb.out⟩
      · have hx : p < l.length := by omega
        obtain ⟨ad, e', hc0, hc1⟩ := at40 HR.out hb.out p hx
        subst e'
        have r := HS.out.lo p hx
        have HC := Lib.hid (lay1.walk l[p].f0 m l[p].f1 wr (by omega) (by omega) (by omega) hm1)
        have d1 : decide ((p : Int) < l.length) = true := by simp; omega
        have HT : Hid (thereP l m = (l[p].f0 - m == 0)) := by
          unfold Hid thereP
          rw [Bool.eq_iff_iff, List.any_eq_true]
          constructor
          · rintro ⟨x, hm, hxm⟩
            obtain ⟨j, hj, rfl⟩ := List.getElem_of_mem hm
            have hxm' : l[j].f0 = m := by simpa using hxm
            have : j = p := by
              rcases Nat.lt_trichotomy j p with h | h | h
              · have := hlo.out j hj h; omega
              · exact h
              · have := HS.out.up p j h hj; have := hhi.out p hx (Nat.le_refl _); omega
            subst this
            simp; omega
          · intro h
            have h' : l[p].f0 - m = 0 := by simpa using h
            exact ⟨l[p], List.getElem_mem hx, by simp; omega⟩
        clear he
        go_wp2_with (go_at_call 26; refine HC.out.mono ?_; rintro e w1 ⟨rfl, hb1⟩; have HB1 := Lib.hid hb1; clear hb1)
        go_ret2
        exact ⟨by rw [HL.out, HT.out]; rfl, keepB hb HB1.out⟩
end Go.Proofs.YtgpmkbmobdbdoaaGreatDoor.Q

-- T16
namespace Go.Proofs.YtgpmkbmobdbdoaaGreatDoor.Q
open Go.RowKit Go.Proofs.YtgpmkbmobdbdoaaGreatDoorW.PrintWords Go.Proofs.YtgpmkbmobdbdoaaGreatDoorW.PrintLast Go.Proofs.YtgpmkbmobdbdoaaGreatDoorW.PrintMore
set_option linter.unusedVariables false
set_option linter.unusedSimpArgs false

def insAt (xs : List Value) (i : Nat) (c : List Value) : List Value := xs.take (i * 2) ++ (c ++ xs.drop (i * 2))
def InsPost (base n i : Nat) (v : Value) (xs c : List Value) (w : World) (e : Ending) (w' : World) : Prop :=
  ∃ v', e = .returned v' ∧ w'.ownsRow base 25 2 v' (n + 1) (insAt xs i c) ∧ w.grownBy w' v.ownBlock
set_option maxHeartbeats 4000000 in
set_option maxRecDepth 100000 in
theorem insert_end.walk (base n : Nat) (v : Value) (xs : List Value) (bv : Nat) (N : Int) (D : ByteArray) (w : World) (hown : w.ownsRow base 25 2 v n xs) (hb : base ≤ w.heap.size) (hn : n ≤ 1000)
    (hv : w.heap[bv]? = some (.cells #[.int .i64 N, .string D] 25 (0, 0))) :
    Calls Tryz.prog 29 #[v, .int .i64 n, .slice (some ⟨bv, 0, none⟩) 1 1] w (InsPost base n n v xs [.int .i64 N, .string D] w) := by
  obtain ⟨i0, hi, hy0, hy1, hy2⟩ := info_parts info25
  have HV := Lib.hid hv; clear hv
  have HX : Hid (insAt xs n [.int .i64 N, .string D] = xs ++ [.int .i64 N, .string D]) := by
    unfold Hid insAt; rw [List.take_of_length_le (by rw [hown.1]; omega), List.drop_eq_nil_of_le (by rw [hown.1]; omega), List.append_nil]
  have HOWN := Lib.hid hown
  obtain ⟨A, cap, rfl, hA⟩ : ∃ A cap, v = .slice A n cap ∧ n ≤ cap := by
    rcases hown.2 with ⟨h1, h2⟩ | ⟨g, cap, cur, h1, _, _, h2, _⟩
    · exact ⟨none, 0, by rw [h1, h2], by omega⟩
    · exact ⟨_, cap, h1, h2⟩
  clear hown
  have C1 : Hid (∀ (j : Nat) (u : Value), ([.int .i64 N, .string D] : List Value)[j]? = some u → w.cell? ((⟨bv, 0, none⟩ : Addr).add j) = some u) := World.news_of_block HV.out
  have C2 : Hid (∀ u ∈ ([.int .i64 N, .string D] : List Value), u.oneCell' = true) := by unfold Hid; simp [Value.oneCell']
  have C3 : Hid (n + 1 ≤ maxLen) := by unfold Hid maxLen; omega
  have C4 : Hid ((n + 1) * 24 ≤ 140737488355328) := by unfold Hid; omega
  by_cases hc : cap = n
  all_goals
    go_enter Tryz.func29, Tryz.ntmps29
    go_wp2_with (at_builtin; refine wpList_append_own _ rfl _ _ 38 rfl base 25 i0 (.agg #[(.int .i64 0), (.string ⟨#[]⟩)]) 2 24 Tryz.underlying38 hi hy0 hy1 hy2 rfl (by decide) _ _ _ rfl HOWN.out ⟨bv, 0, none⟩ 1 1 [.int .i64 N, .string D] rfl rfl C1.out C2.out C3.out C4.out hb ?_; intro v' w4 hown' hgrow _; have HO4 := Lib.hid hown'; have HG4 := Lib.hid hgrow; clear hown' hgrow)
    go_ret
    exact ⟨v', rfl, by rw [HX.out]; exact HO4.out, HG4.out⟩
end Go.Proofs.YtgpmkbmobdbdoaaGreatDoor.Q

-- T17
namespace Go.Proofs.YtgpmkbmobdbdoaaGreatDoor.Q
open Go.RowKit Go.Proofs.YtgpmkbmobdbdoaaGreatDoorW.PrintWords Go.Proofs.YtgpmkbmobdbdoaaGreatDoorW.PrintLast Go.Proofs.YtgpmkbmobdbdoaaGreatDoorW.PrintMore
set_option linter.unusedVariables false
set_option linter.unusedSimpArgs false

def z40v : Value := .agg #[(.int .i64 0), (.string ⟨#[]⟩)]
def z40L (n : Nat) : List Value := (Builtin.zeroCells z40v.cells n).toList
theorem z25_len (n : Nat) : (z40L n).length = n * 2 := by unfold z40L; rw [Array.length_toList, size_zeroCells]; rfl
theorem i40sz : (Tryz.prog.info? 25).map (·.size) = some 2 := by kernel_rfl
theorem add_at (g o j : Nat) : (Addr.add ⟨g, o, none⟩ j) = ⟨g, o + j, none⟩ := by unfold Addr.add; split <;> simp_all
theorem insAt_len (xs : List Value) (i n : Nat) (hx : xs.length = n * 2) (hi : i ≤ n) (c : List Value) (hc : c.length = 2) : (insAt xs i c).length = (n + 1) * 2 := by
  unfold insAt; simp only [List.length_append, List.length_take, List.length_drop, hx, hc]; omega
theorem ins_list (xs R1 : List Value) (i n nc : Nat) (hx : xs.length = n * 2) (hi : i < n) (hnc : n + 1 ≤ nc) (hR : R1.length = nc * 2) (h0 : R1.take (i * 2) = xs.take (i * 2)) (c : List Value) (hc : c.length = 2) :
    (splice (splice R1 (i * 2) c) ((i + 1) * 2) (xs.drop (i * 2))).length = nc * 2 ∧ (splice (splice R1 (i * 2) c) ((i + 1) * 2) (xs.drop (i * 2))).take ((n + 1) * 2) = insAt xs i c := by
  have e1 : (splice R1 (i * 2) c).length = nc * 2 := by rw [length_splice _ _ _ (by omega)]; exact hR
  have e2 : (splice R1 (i * 2) c).take ((i + 1) * 2) = xs.take (i * 2) ++ c := by
    unfold splice
    rw [← List.append_assoc, h0]
    rw [List.take_left' (by rw [List.length_append, List.length_take, hx, hc]; omega)]
  refine ⟨by rw [length_splice _ _ _ (by rw [e1, List.length_drop, hx]; omega)]; exact e1, ?_⟩
  unfold splice at e2 ⊢
  rw [e2, ← List.append_assoc, List.take_left' (by simp only [List.length_append, List.length_take, List.length_drop, hx, hc]; omega)]
  unfold insAt
  rw [List.append_assoc]
set_option maxHeartbeats 4000000 in
set_option maxRecDepth 100000 in
theorem insert_grow.walk (base n i : Nat) (g cap : Nat) (cur : Array Value) (xs : List Value) (bv : Nat) (N : Int) (D : ByteArray) (w : World) (hi : i < n) (hn : n ≤ 1000) (hb : base ≤ w.heap.size)
    (hg : w.heap[g]? = some (.cells cur 25 (0, 0))) (hx : xs.length = n * 2) (hcur : cur.toList.take (n * 2) = xs) (hcap : n ≤ cap) (hfull : cap < n + 1) (h1 : ∀ u ∈ xs, u.oneCell' = true)
    (hv : w.heap[bv]? = some (.cells #[.int .i64 N, .string D] 25 (0, 0))) :
    Calls Tryz.prog 29 #[.slice (some ⟨g, 0, none⟩) n cap, .int .i64 i, .slice (some ⟨bv, 0, none⟩) 1 1] w (InsPost base n i (.slice (some ⟨g, 0, none⟩) n cap) xs [.int .i64 N, .string D] w) := by
  obtain ⟨i0, hi0, hy0, hy1, hy2⟩ := info_parts info25
  have HV := Lib.hid hv; clear hv
  have HG := Lib.hid hg; clear hg
  have d0 : ¬ cap = i := by omega
  have d1 : ¬ cap = 0 := by omega
  have d2 : ((i : Int) == n) = false := beq_eq_false_iff_ne.2 (by omega)
  have d3 : decide ((cap : Int) < (n : Int) + 1) = true := by simp; omega
  have d4 : (i : Int) ≤ cap := by omega
  have XI := Lib.hid (show (xs.take (i * 2)).length = i * 2 by rw [List.length_take]; omega)
  have XC := Lib.hid (show ∀ (j : Nat) (u : Value), (xs.take (i * 2))[j]? = some u → w.cell? ((⟨g, 0, none⟩ : Addr).add j) = some u from fun j u hu => by
    rw [add_at, blk_cell HG.out, Nat.zero_add]
    rw [List.getElem?_take] at hu
    split at hu
    · rw [← hcur, List.getElem?_take] at hu
      split at hu
      · simpa using hu
      · cases hu
    · cases hu)
  have XD := Lib.hid (show ∀ (j : Nat) (u : Value), (xs.drop (i * 2))[j]? = some u → w.cell? ((⟨g, i * 2, none⟩ : Addr).add j) = some u from fun j u hu => by
    rw [add_at, blk_cell HG.out]
    rw [List.getElem?_drop, ← hcur, List.getElem?_take] at hu
    split at hu
    · simpa using hu
    · cases hu)
  clear hcur
  go_enter Tryz.func29, Tryz.ntmps29
  go_wp2_with (at_builtin; refine wpList_zeros_grow rfl _ _ 38 3 rfl 25 i0 z40v Tryz.underlying38 .i64 Tryz.underlying3 hi0 hy0 (by rw [hy1]; rfl) (by rw [hy1]; decide) ⟨g, 0, none⟩ i cap (xs.take (i * 2)) rfl (by rw [hy1]; exact XI.out) XC.out .i64 (n + 1 - i) ?a1 (by omega) (by omega) (by omega) (by rw [hy2]; decide) z40L (fun _ => rfl) ?_)
  case a1 =>
    show Value.int .i64 ((n : Int) + 1 - i) = Value.int .i64 ((n + 1 - i : Nat) : Int)
    congr 1; omega
  intro nc w1 hnc hmx hw1
  have HMX := Lib.hid hmx; clear hmx
  have hlen : i + (n + 1 - i) = n + 1 := by omega
  rw [hlen] at hnc hw1 ⊢
  clear hlen
  obtain ⟨R1, hR1⟩ : ∃ R1, R1 = xs.take (i * 2) ++ (z40L (n + 1 - i) ++ z40L (nc - (n + 1))) := ⟨_, rfl⟩
  rw [← hR1] at hw1
  have HR1 := Lib.hid hR1; clear hR1
  have HB1 : Hid (w1.heap[w.heap.size]? = some (.cells R1.toArray 25 (0, 0))) := by unfold Hid; rw [hw1.out]; exact heap_alloc_new w.drew _
  have HD1 : Hid (Below w.heap.size w w1) := by unfold Hid; rw [hw1.out]; exact (Below.refl _ _).drew.alloc (Nat.le_refl _) _
  have HL1 : Hid (R1.length = nc * 2) := by
    unfold Hid; rw [HR1.out, List.length_append, List.length_append, z25_len, z25_len, XI.out]; omega
  have d5 : ¬ nc = i := by omega
  have d6 : ¬ nc = i + 1 := by omega
  have d7 : (i : Int) ≤ (n : Int) + 1 := by omega
  clear hw1
  have C1 : Hid (∀ (j : Nat) (u : Value), ([.int .i64 N, .string D] : List Value)[j]? = some u → w1.cell? ((⟨bv, 0, none⟩ : Addr).add j) = some u) := fun j u hu => keepc HD1.out (World.news_of_block HV.out j u hu)
  have C2 : Hid (∀ u ∈ ([.int .i64 N, .string D] : List Value), u.oneCell' = true) := by unfold Hid; simp [Value.oneCell']
  have C3 : Hid (([.int .i64 N, .string D] : List Value).length = Nat.min 1 (n + 1 - i) * 2) := by unfold Hid; rw [show Nat.min 1 (n + 1 - i) = 1 from by simp [Nat.min_def]; omega]; rfl
  have C4 : Hid (i * 2 + ([.int .i64 N, .string D] : List Value).length ≤ R1.toArray.size) := by unfold Hid; rw [List.size_toArray, HL1.out]; simp; omega
  go_wp2_with (with_reducible refine wpList_copy_cells rfl (.tmp 43) (.tmp 44) 38 38 rfl 25 2 Tryz.underlying38 i40sz w.heap.size (i * 2) (n + 1 - i) (nc - i) ⟨bv, 0, none⟩ 1 1 ?b1 rfl R1.toArray 25 HB1.out [.int .i64 N, .string D] C3.out C1.out C4.out C2.out ?_)
  case b1 => rfl
  intro w2 hw2
  have HB2 : Hid (w2.drew.heap[w.heap.size]? = some (.cells (splice R1 (i * 2) [.int .i64 N, .string D]).toArray 25 (0, 0))) := by
    unfold Hid; rw [hw2.out]; exact setRow_heap _ _ _ _ _ _ HB1.out
  have HD2 : Hid (Below w.heap.size w w2.drew) := by unfold Hid; rw [hw2.out]; exact (below_setRow HD1.out (Nat.le_refl _) _).drew
  have HL2 : Hid ((splice R1 (i * 2) [.int .i64 N, .string D]).length = nc * 2) := by
    unfold Hid; rw [length_splice _ _ _ (by rw [HL1.out]; simp; omega)]; exact HL1.out
  have E1 : Hid (∀ (j : Nat) (u : Value), (xs.drop (i * 2))[j]? = some u → w2.drew.cell? ((⟨g, i * 2, none⟩ : Addr).add j) = some u) := fun j u hu => keepc HD2.out (XD.out j u hu)
  have E2 : Hid (∀ u ∈ xs.drop (i * 2), u.oneCell' = true) := fun u hu => h1 u (List.mem_of_mem_drop hu)
  have E3 : Hid ((xs.drop (i * 2)).length = Nat.min (n - i) (n - i) * 2) := by unfold Hid; rw [List.length_drop, hx, show (n - i).min (n - i) = n - i from Nat.min_self _]; omega
  have E4 : Hid ((i + 1) * 2 + (xs.drop (i * 2)).length ≤ (splice R1 (i * 2) [.int .i64 N, .string D]).toArray.size) := by unfold Hid; rw [List.size_toArray, HL2.out, List.length_drop, hx]; omega
  clear hw2
  have d8 : (i : Int) + 1 ≤ (n : Int) + 1 := by omega
  have d9 : (0 : Int) ≤ (i : Int) + 1 := by omega
  have d10 : (0 : Int) ≤ (i : Int) := by omega
  have d11 : (i : Int) ≤ (n : Int) := by omega
  have q1 : IntKind.i64.wrap ((i : Int) + 1) = (i : Int) + 1 := by rw [IntKind.wrap_i64]; omega
  have q2 : ((i : Int) + 1).toNat = i + 1 := by omega
  go_wp2_with fail
  go_still_tail 8, (by kernel_rfl)
  change wpList _ _ _ _ _ w2.drew
  go_wp2_with (with_reducible refine wpList_copy_cells rfl (.tmp 50) (.tmp 53) 38 38 rfl 25 2 Tryz.underlying38 i40sz w.heap.size ((i + 1) * 2) (n - i) (nc - (i + 1)) ⟨g, i * 2, none⟩ (n - i) (cap - i) ?e1 ?e2 _ 25 HB2.out (xs.drop (i * 2)) E3.out E1.out E4.out E2.out ?_)
  case e1 => rfl
  case e2 => rfl
  intro w3 hw3
  go_wp2_with fail
  go_ret
  have HB3 : w3.heap[w.heap.size]? = some (.cells (splice (splice R1 (i * 2) [.int .i64 N, .string D]) ((i + 1) * 2) (xs.drop (i * 2))).toArray 25 (0, 0)) := by
    rw [hw3.out]; exact setRow_heap _ _ _ _ _ _ HB2.out
  have HD3 : Below w.heap.size w w3 := by rw [hw3.out]; exact below_setRow HD2.out (Nat.le_refl _) _
  have hL := ins_list xs R1 i n nc hx hi hnc HL1.out (by rw [HR1.out, List.take_left' XI.out]) [.int .i64 N, .string D] rfl
  refine ⟨_, rfl, ⟨by rw [insAt_len xs i n hx (by omega) _ rfl], Or.inr ⟨w.heap.size, nc, _, rfl, hb, HB3, hnc, HMX.out, ?_, ?_⟩⟩, ⟨HD3.os, HD3.tape, HD3.output, HD3.size, fun k hk _ => HD3.block k hk⟩⟩
  · rw [List.size_toArray, hL.1]
  · rw [hL.2]
end Go.Proofs.YtgpmkbmobdbdoaaGreatDoor.Q

-- T18
namespace Go.Proofs.YtgpmkbmobdbdoaaGreatDoor.Q
open Go.RowKit Go.Proofs.YtgpmkbmobdbdoaaGreatDoorW.PrintWords Go.Proofs.YtgpmkbmobdbdoaaGreatDoorW.PrintLast Go.Proofs.YtgpmkbmobdbdoaaGreatDoorW.PrintMore
set_option linter.unusedVariables false
set_option linter.unusedSimpArgs false

theorem ins_list2 (cur xs : List Value) (i n cap : Nat) (hx : xs.length = n * 2) (hi : i < n) (hcap : n + 1 ≤ cap) (hR : cur.length = cap * 2) (h0 : cur.take (n * 2) = xs) (c : List Value) (hc : c.length = 2) :
    (splice (splice cur ((i + 1) * 2) (xs.drop (i * 2))) (i * 2) c).length = cap * 2 ∧ (splice (splice cur ((i + 1) * 2) (xs.drop (i * 2))) (i * 2) c).take ((n + 1) * 2) = insAt xs i c := by
  have hl : (xs.drop (i * 2)).length = (n - i) * 2 := by rw [List.length_drop, hx]; omega
  have e1 : (splice cur ((i + 1) * 2) (xs.drop (i * 2))).length = cap * 2 := by rw [length_splice _ _ _ (by rw [hl]; omega)]; exact hR
  have ht : cur.take (i * 2) = xs.take (i * 2) := by rw [← h0, List.take_take, Nat.min_eq_left (by omega)]
  refine ⟨by rw [length_splice _ _ _ (by omega)]; exact e1, ?_⟩
  have t1 : (splice cur ((i + 1) * 2) (xs.drop (i * 2))).take (i * 2) = xs.take (i * 2) := by
    unfold splice
    rw [List.take_append_of_le_length (by rw [List.length_take]; omega), List.take_take, Nat.min_eq_left (by omega), ht]
  have t2 : (splice cur ((i + 1) * 2) (xs.drop (i * 2))).drop (i * 2 + c.length) = xs.drop (i * 2) ++ cur.drop ((n + 1) * 2) := by
    unfold splice
    rw [hc, show i * 2 + 2 = (i + 1) * 2 by omega, List.drop_left' (by rw [List.length_take]; omega), hl]
    congr 2; omega
  show ((splice cur ((i + 1) * 2) (xs.drop (i * 2))).take (i * 2) ++ (c ++ (splice cur ((i + 1) * 2) (xs.drop (i * 2))).drop (i * 2 + c.length))).take ((n + 1) * 2) = _
  rw [t1, t2]
  unfold insAt
  rw [← List.append_assoc c, ← List.append_assoc (xs.take (i * 2)), List.take_left' (by simp only [List.length_append, List.length_take, List.length_drop, hx, hc]; omega)]
set_option maxHeartbeats 4000000 in
set_option maxRecDepth 100000 in
theorem insert_room.walk (base n i : Nat) (g cap : Nat) (cur : Array Value) (xs : List Value) (bv : Nat) (N : Int) (D : ByteArray) (w : World) (hi : i < n) (hn : n ≤ 1000) (hb : base ≤ g)
    (hg : w.heap[g]? = some (.cells cur 25 (0, 0))) (hx : xs.length = n * 2) (hcur : cur.toList.take (n * 2) = xs) (hcap : n + 1 ≤ cap) (hmx : cap ≤ maxLen) (hsz : cur.size = cap * 2) (h1 : ∀ u ∈ xs, u.oneCell' = true)
    (hv : w.heap[bv]? = some (.cells #[.int .i64 N, .string D] 25 (0, 0))) (hne : bv ≠ g) :
    Calls Tryz.prog 29 #[.slice (some ⟨g, 0, none⟩) n cap, .int .i64 i, .slice (some ⟨bv, 0, none⟩) 1 1] w (InsPost base n i (.slice (some ⟨g, 0, none⟩) n cap) xs [.int .i64 N, .string D] w) := by
  have HV := Lib.hid hv; clear hv
  have HG := Lib.hid hg; clear hg
  have HMX := Lib.hid hmx
  unfold maxLen at hmx
  have d0 : ¬ cap = i := by omega
  have d1 : ¬ cap = 0 := by omega
  have d2 : ((i : Int) == n) = false := beq_eq_false_iff_ne.2 (by omega)
  have d3 : decide ((cap : Int) < (n : Int) + 1) = false := by simp; omega
  have d4 : (i : Int) ≤ cap := by omega
  have d5 : ¬ cap = i + 1 := by omega
  have d8 : (i : Int) + 1 ≤ (n : Int) + 1 := by omega
  have d9 : (0 : Int) ≤ (i : Int) + 1 := by omega
  have d10 : (0 : Int) ≤ (i : Int) := by omega
  have d11 : (i : Int) ≤ (n : Int) := by omega
  have d12 : (n : Int) + 1 ≤ cap := by omega
  have d13 : (i : Int) ≤ (n : Int) + 1 := by omega
  have HX := Lib.hid hx; have HCUR := Lib.hid hcur; have HSZ := Lib.hid hsz
  have XD := Lib.hid (show ∀ (j : Nat) (u : Value), (xs.drop (i * 2))[j]? = some u → w.cell? ((⟨g, i * 2, none⟩ : Addr).add j) = some u from fun j u hu => by
    rw [add_at, blk_cell HG.out]
    rw [List.getElem?_drop, ← hcur, List.getElem?_take] at hu
    split at hu
    · simpa using hu
    · cases hu)
  have HOV := Lib.hid (fun (W : World) (hW : W.heap = w.heap) => show (callFunc 46 #[.slice (some ⟨bv, 0, none⟩) 1 1, .slice (some ⟨g, (i + 1) * 2, none⟩) (n - i) (cap - (i + 1))]).run Tryz.prog W = .ok (.value (.bool false)) W by
    have h1 : W.heap[bv]? = some (.cells #[.int .i64 N, .string D] 25 (0, 0)) := by rw [hW]; exact HV.out
    have h2 : W.heap[g]? = some (.cells cur 25 (0, 0)) := by rw [hW]; exact HG.out
    rw [run_callFunc_extern Tryz.func46 (by kernel_rfl) (by kernel_rfl) (by kernel_rfl) (e := Extern.SlicesOverlaps.overlaps #[38, 38] #[4]) (by kernel_rfl)]
    rw [Lib.run_overlaps_apart (P := Tryz.prog) W 38 4 25 Tryz.underlying38 2 Tryz.sizeOf25 ⟨bv, 0, none⟩ ⟨g, (i + 1) * 2, none⟩ 1 1 (n - i) (cap - (i + 1)) hne 25 25 2 cur.size (by simp [World.shape?, h1]) (by simp [World.shape?, h2]) (by omega) (blk_frozen h1 0) (blk_frozen h1 2)]
    rfl)
  clear hcur hx hsz hmx
  have ho := HOV.out w rfl
  go_enter Tryz.func29, Tryz.ntmps29
  go_wp2_with fail
  clear ho
  have q1 : IntKind.i64.wrap ((i : Int) + 1) = (i : Int) + 1 := by rw [IntKind.wrap_i64]; omega
  have q2 : ((i : Int) + 1).toNat = i + 1 := by omega
  have hl : (xs.drop (i * 2)).length = (n - i) * 2 := by rw [List.length_drop, HX.out]; omega
  have hcl : cur.toList.length = cap * 2 := by rw [Array.length_toList, HSZ.out]
  have E1 : Hid (∀ (j : Nat) (u : Value), (xs.drop (i * 2))[j]? = some u → w.drew.cell? ((⟨g, i * 2, none⟩ : Addr).add j) = some u) := fun j u hu => XD.out j u hu
  have E2 : Hid (∀ u ∈ xs.drop (i * 2), u.oneCell' = true) := fun u hu => h1 u (List.mem_of_mem_drop hu)
  have E3 : Hid ((xs.drop (i * 2)).length = Nat.min (n + 1 - i) (n - i) * 2) := by unfold Hid; rw [hl, show Nat.min (n + 1 - i) (n - i) = n - i from Nat.min_eq_right (by omega)]
  have E4 : Hid ((i + 1) * 2 + (xs.drop (i * 2)).length ≤ cur.size) := by unfold Hid; rw [hl, HSZ.out]; omega
  have HGd : Hid (w.drew.heap[g]? = some (.cells cur 25 (0, 0))) := HG
  have HIL := Lib.hid (ins_list2 cur.toList xs i n cap HX.out hi hcap hcl HCUR.out [.int .i64 N, .string D] rfl)
  have HSL : Hid ((splice cur.toList ((i + 1) * 2) (xs.drop (i * 2))).length = cap * 2) := by unfold Hid; rw [length_splice _ _ _ (by rw [hl, hcl]; omega)]; exact hcl
  clear hl hcl
  go_still_tail 8, (by kernel_rfl)
  change wpList _ _ _ _ _ w.drew
  clear q1 q2
  go_wp2_with (with_reducible refine wpList_copy_cells rfl (.tmp 73) (.tmp 76) 38 38 rfl 25 2 Tryz.underlying38 i40sz g ((i + 1) * 2) (n - i) (cap - (i + 1)) ⟨g, i * 2, none⟩ (n + 1 - i) (cap - i) ?e1 ?e2 cur 25 HGd.out (xs.drop (i * 2)) E3.out E1.out E4.out E2.out ?_)
  case e1 => rfl
  case e2 => rfl
  intro w2 hw2
  have HB2 : Hid (w2.heap[g]? = some (.cells (splice cur.toList ((i + 1) * 2) (xs.drop (i * 2))).toArray 25 (0, 0))) := by
    unfold Hid; rw [hw2.out]; exact setRow_heap _ _ _ _ _ _ HGd.out
  have HO2 : Hid (Only g w w2) := by unfold Hid; rw [hw2.out]; exact ((Only.refl g w).drewN 1).setRow _
  have F1 : Hid (∀ (j : Nat) (u : Value), ([.int .i64 N, .string D] : List Value)[j]? = some u → w2.cell? ((⟨bv, 0, none⟩ : Addr).add j) = some u) := World.news_of_block (HO2.out.blk HV.out hne)
  have F2 : Hid (∀ u ∈ ([.int .i64 N, .string D] : List Value), u.oneCell' = true) := by unfold Hid; simp [Value.oneCell']
  have F3 : Hid (([.int .i64 N, .string D] : List Value).length = Nat.min 1 (n + 1 - i) * 2) := by unfold Hid; rw [show Nat.min 1 (n + 1 - i) = 1 from Nat.min_eq_left (by omega)]; rfl
  have F4 : Hid (i * 2 + ([.int .i64 N, .string D] : List Value).length ≤ (splice cur.toList ((i + 1) * 2) (xs.drop (i * 2))).toArray.size) := by unfold Hid; rw [List.size_toArray, HSL.out]; simp; omega
  clear hw2
  go_wp2_with (with_reducible refine wpList_copy_cells rfl (.tmp 80) (.tmp 81) 38 38 rfl 25 2 Tryz.underlying38 i40sz g (i * 2) (n + 1 - i) (cap - i) ⟨bv, 0, none⟩ 1 1 ?f1 ?f2 _ 25 HB2.out [.int .i64 N, .string D] F3.out F1.out F4.out F2.out ?_)
  case f1 => rfl
  case f2 => rfl
  intro w3 hw3
  go_wp2_with fail
  go_ret
  have HB3 : w3.heap[g]? = some (.cells (splice (splice cur.toList ((i + 1) * 2) (xs.drop (i * 2))) (i * 2) [.int .i64 N, .string D]).toArray 25 (0, 0)) := by
    rw [hw3.out]; exact setRow_heap _ _ _ _ _ _ HB2.out
  have HD3 : Only g w w3 := by rw [hw3.out]; exact HO2.out.setRow _
  refine ⟨_, rfl, ⟨by rw [insAt_len xs i n HX.out (by omega) _ rfl], Or.inr ⟨g, cap, _, rfl, hb, HB3, hcap, HMX.out, ?_, ?_⟩⟩, ⟨HD3.os, HD3.tape, HD3.output, HD3.size, fun k hk hg => HD3.block k hk (fun e => hg (by rw [e]; rfl))⟩⟩
  · rw [List.size_toArray, HIL.out.1]
  · rw [HIL.out.2]
theorem insert.walk (base n i : Nat) (v : Value) (xs : List Value) (bv : Nat) (N : Int) (D : ByteArray) (w : World) (hown : w.ownsRow base 25 2 v n xs) (hb : base ≤ w.heap.size) (hi : i ≤ n) (hn : n ≤ 1000) (h1 : ∀ u ∈ xs, u.oneCell' = true)
    (hv : w.heap[bv]? = some (.cells #[.int .i64 N, .string D] 25 (0, 0))) (hne : v.ownBlock ≠ some bv) :
    Calls Tryz.prog 29 #[v, .int .i64 i, .slice (some ⟨bv, 0, none⟩) 1 1] w (InsPost base n i v xs [.int .i64 N, .string D] w) := by
  rcases Nat.eq_or_lt_of_le hi with rfl | hlt
  · exact insert_end.walk base i v xs bv N D w hown hb hn hv
  · rcases hown.2 with ⟨_, h0⟩ | ⟨g, cap, cur, rfl, hbg, hg, hnc, hcm, hcs, htake⟩
    · omega
    · by_cases hroom : n + 1 ≤ cap
      · exact insert_room.walk base n i g cap cur xs bv N D w hlt hn hbg hg hown.1 htake hroom hcm hcs h1 hv (fun e => hne (by rw [e]; rfl))
      · exact insert_grow.walk base n i g cap cur xs bv N D w hlt hn hb hg hown.1 htake hnc (by omega) h1 hv
end Go.Proofs.YtgpmkbmobdbdoaaGreatDoor.Q

-- T19
namespace Go.Proofs.YtgpmkbmobdbdoaaGreatDoor.Q
open Go.RowKit Go.Proofs.YtgpmkbmobdbdoaaGreatDoorW.PrintWords Go.Proofs.YtgpmkbmobdbdoaaGreatDoorW.PrintLast Go.Proofs.YtgpmkbmobdbdoaaGreatDoorW.PrintMore
set_option linter.unusedVariables false
set_option linter.unusedSimpArgs false

def cell40 (p : S25) : List Value := [.int .i64 p.f0, .string p.f1]
def cells40 (l : List S25) : List Value := (l.map cell40).flatten
theorem cells40_len (l : List S25) : (cells40 l).length = l.length * 2 := by
  unfold cells40
  rw [flat_len (sz := 2) (by intro c hc; obtain ⟨p, _, rfl⟩ := List.mem_map.1 hc; rfl), List.length_map]
theorem cells40_one (l : List S25) : ∀ u ∈ cells40 l, u.oneCell' = true := by
  intro u hu
  obtain ⟨c, hc, hu⟩ := List.mem_flatten.1 hu
  obtain ⟨p, _, rfl⟩ := List.mem_map.1 hc
  simp [cell40] at hu
  rcases hu with rfl | rfl <;> rfl
theorem rows40 {w : World} {l : List S25} {rows : List (List Value)} (h : RowsOf k25 w l rows) : rows = l.map cell40 := by
  apply List.ext_getElem?
  intro j
  rw [List.getElem?_map]
  rcases Nat.lt_or_ge j l.length with hj | hj
  · have hj' : j < rows.length := by have := h.len; omega
    rw [List.getElem?_eq_getElem hj, List.getElem?_eq_getElem hj']
    exact congrArg some (k25_open (h.at_ j _ _ (List.getElem?_eq_getElem hj) (List.getElem?_eq_getElem hj')))
  · rw [List.getElem?_eq_none hj, List.getElem?_eq_none (by have := h.len; omega)]; rfl
theorem rowsOf40 (w : World) (l : List S25) : RowsOf k25 w l (l.map cell40) := by
  refine ⟨by simp, fun j x c hx hc => ?_⟩
  rw [List.getElem?_map, hx] at hc
  injection hc with hc
  subst hc
  exact k25_mk w x
theorem own40 {w : World} {base : Nat} {v : Value} {l : List S25} (h : w.ownsRow base 25 2 v l.length (cells40 l)) : ∃ A c, v = .slice A l.length c ∧ l.length ≤ c ∧ Kd.C k25 w A l.length l := by
  rcases h.2 with ⟨h1, h2⟩ | ⟨g, cap, cur, h1, hg, hh, hn, hm, _⟩
  · have : l = [] := List.length_eq_zero_iff.1 h2
    subst this
    exact ⟨none, 0, h1, Nat.le_refl _, Kd.C_nil _ _⟩
  · subst h1
    exact ⟨_, cap, rfl, hn, rows_C (rowsOf40 w l) (own_raw h) (by unfold maxLen at hm; omega)⟩
theorem clone39_any {w : World} {A : Option Addr} {c : Nat} {l : List S25} (hr : Kd.C k25 w A l.length l) (hn : l.length ≤ 1000000) :
    Calls Tryz.prog 28 #[.slice A l.length c] w fun e w' => ∃ v, e = .returned v ∧ w'.ownsRow w.heap.size 25 2 v l.length (cells40 l) ∧ Below w.heap.size w w' := by
  cases A with
  | none =>
    have h0 : l.length = 0 := by
      rcases Nat.eq_zero_or_pos l.length with h | h
      · exact h
      · obtain ⟨ad, e, _⟩ := hr.2.2 h; cases e
    have : l = [] := List.length_eq_zero_iff.1 h0
    subst this
    refine (clone39_nil 0 c w).mono ?_
    rintro e w' ⟨rfl, hb⟩
    exact ⟨_, rfl, own_nil _ _ _ _, hb⟩
  | some ad =>
    obtain ⟨rows, h1, h2⟩ := C_rows hr
    rw [rows40 h1] at h2
    exact clone39.walk ad l.length c (cells40 l) w (cells40_len l) (cells40_one l) h2 hn
theorem insAt40 (l : List S25) (k : Nat) (p : S25) : insAt (cells40 l) k (cell40 p) = cells40 (l.take k ++ (p :: l.drop k)) := by
  have h : ∀ (l : List S25) (k : Nat), (cells40 l).take (k * 2) = cells40 (l.take k) ∧ (cells40 l).drop (k * 2) = cells40 (l.drop k) := by
    intro l
    induction l with
    | nil => intro k; simp [cells40]
    | cons x l ih =>
      intro k
      rcases k with _ | k
      · simp [cells40]
      · obtain ⟨a, b⟩ := ih k
        have e : cells40 (x :: l) = .int .i64 x.f0 :: .string x.f1 :: cells40 l := rfl
        rw [e, show (k + 1) * 2 = k * 2 + 1 + 1 by omega, List.take_succ_cons, List.take_succ_cons, List.drop_succ_cons, List.drop_succ_cons, a, b]
        exact ⟨rfl, rfl⟩
  unfold insAt
  rw [(h l k).1, (h l k).2]
  unfold cells40
  rw [List.map_append, List.flatten_append]
  rfl
theorem set40 (l : List S25) (k : Nat) (p : S25) (hk : k < l.length) : ((cells40 l).set (k * 2) (.int .i64 p.f0)).set (k * 2 + 1) (.string p.f1) = cells40 (l.set k p) := by
  induction l generalizing k with
  | nil => simp at hk
  | cons x l ih =>
    have e : ∀ x (l : List S25), cells40 (x :: l) = .int .i64 x.f0 :: .string x.f1 :: cells40 l := fun _ _ => rfl
    rcases k with _ | k
    · rfl
    · have := ih k (by simpa using hk)
      rw [e, show (k + 1) * 2 = k * 2 + 1 + 1 by omega, List.set_cons_succ, List.set_cons_succ, List.set_cons_succ, List.set_cons_succ, this, List.set_cons_succ, e]
theorem fine_sorted {u : Int} {key : ByteArray} {l : List S25} (h : fineB u key l = true) : SortedP l ∧ l.length ≤ 30 := by
  unfold fineB at h
  simp only [Bool.and_eq_true, decide_eq_true_eq] at h
  obtain ⟨_, _, hl, ha⟩ := h
  have hj : ∀ (j : Nat) (hj : j < l.length), mayB l[j] = true ∧ (0 < j → l[j - 1].f0 < l[j].f0) := by
    intro j hj
    have := allFrom_at ha j (by omega) (by omega)
    unfold adjB at this
    rw [Bool.and_eq_true, Bool.or_eq_true] at this
    rw [List.getD_eq_getElem?_getD, List.getElem?_eq_getElem hj, List.getD_eq_getElem?_getD, List.getElem?_eq_getElem (show j - 1 < l.length by omega)] at this
    refine ⟨this.1, fun h0 => ?_⟩
    rcases this.2 with h | h
    · have : j = 0 := by simpa using h
      omega
    · simpa using h
  refine ⟨⟨fun j h => ?_, fun i j h hj' => ?_⟩, hl⟩
  · have := (hj j h).1
    unfold mayB at this
    simp only [Bool.and_eq_true, decide_eq_true_eq] at this
    exact ⟨this.1, this.2.1⟩
  · induction j with
    | zero => omega
    | succ j ih =>
      have h1 : l[j].f0 < l[j + 1].f0 := (hj (j + 1) hj').2 (by omega)
      rcases Nat.eq_or_lt_of_le (Nat.le_of_lt_succ h) with rfl | h2
      · exact h1
      · have := ih h2 (by omega); omega
theorem check_fine {l : List S40} (h : checkB l = true) : l.length ≤ 10 ∧ ∀ (j : Nat) (hj : j < l.length), fineB l[j].f0 l[j].f1 l[j].f2 = true := by
  unfold checkB at h
  simp only [Bool.and_eq_true, decide_eq_true_eq] at h
  refine ⟨h.1, fun j hj => ?_⟩
  have := allFrom_at h.2 j (by omega) (by omega)
  unfold adjU at this
  rw [Bool.and_eq_true, List.getD_eq_getElem?_getD, List.getElem?_eq_getElem hj] at this
  exact this.1
end Go.Proofs.YtgpmkbmobdbdoaaGreatDoor.Q

-- T20
namespace Go.Proofs.YtgpmkbmobdbdoaaGreatDoor.Q
open Go.RowKit Go.Proofs.YtgpmkbmobdbdoaaGreatDoorW.PrintWords Go.Proofs.YtgpmkbmobdbdoaaGreatDoorW.PrintLast Go.Proofs.YtgpmkbmobdbdoaaGreatDoorW.PrintMore
set_option linter.unusedVariables false
set_option linter.unusedSimpArgs false

def layParts (l : List S25) (p : S25) : List S25 := if thereP l p.f0 = true then l.set (lowP l p.f0) p else l.take (lowP l p.f0) ++ (p :: l.drop (lowP l p.f0))
def layR (l : List S40) (id : Int) (p : S25) : List S40 × Int × Int :=
  if checkB l = false ∨ mayB p = false then ([], 0, 1)
  else match posU l id with
    | none => ([], 0, 4)
    | some i =>
      if thereP (l.getD i z40).f2 p.f0 = false ∧ (l.getD i z40).f2.length = 30 then ([], 0, 6)
      else (l.set i ⟨(l.getD i z40).f0, (l.getD i z40).f1, layParts (l.getD i z40).f2 p⟩, tagOf p.f1, 0)
def ListPost (r : List S40) (rest : List Value) (w : World) (e : Ending) (w' : World) : Prop :=
  ∃ A c, e = .returned (.tuple (#[.slice A r.length c] ++ rest.toArray)) ∧ r.length ≤ c ∧ Kd.C k40 w' A r.length r ∧ Below w.heap.size w w'
theorem may_calls (p : S25) (w : World) : Calls Tryz.prog 24 #[.agg #[.int .i64 p.f0, .string p.f1]] w fun e w' => e = .returned (.bool (mayB p)) ∧ Below w.heap.size w w' :=
  parts_may.calls p.f0 p.f1 _ w (may_of p)
set_option maxHeartbeats 4000000 in
set_option maxRecDepth 100000 in
theorem lay_err.walk (A : Option Addr) (c : Nat) (l : List S40) (id : Int) (p : S25) (w : World) (hr : Kd.C k40 w A l.length l) (hc : l.length ≤ c) (e : Int) (he : e = 1 ∨ e = 4)
    (hp : checkB l = false ∧ e = 1 ∨ checkB l = true ∧ mayB p = false ∧ e = 1 ∨ checkB l = true ∧ mayB p = true ∧ posU l id = none ∧ e = 4) :
    Calls Tryz.prog 7 #[.slice A l.length c, .int .u64 id, .agg #[.int .i64 p.f0, .string p.f1]] w (ListPost [] [.int .u32 0, .int .i64 e] w) := by
  have HB0 : Hid (Below w.heap.size w w) := Below.refl _ _
  have HA := Lib.hid (HB0.out.alloc (Nat.le_refl _) (.cells #[.int .i64 p.f0, .string p.f1] 25))
  have HZ := Lib.hid (place.walk A c l id _ (Kd.C_below hr HA.out) hc)
  have HM := Lib.hid (fun W => may_calls p W)
  clear hr
  have fin : ∀ w', Below w.heap.size w w' → ListPost [] [.int .u32 0, .int .i64 e] w (.returned (.tuple #[.slice none 0 0, .int .u32 0, .int .i64 e])) w' := fun w' hb => ⟨none, 0, rfl, Nat.le_refl _, Kd.C_nil _ _, hb⟩
  have FIN := Lib.hid fin; clear fin
  rcases hp with ⟨h1, rfl⟩ | ⟨h1, h2, rfl⟩ | ⟨h1, h2, h3, rfl⟩
  · have e1 : placeR l id = (0, 1) := by unfold placeR; rw [if_pos h1]
    rw [e1] at HZ
    clear h1 e1 he
    go_enter Tryz.func7, Tryz.ntmps7
    go_wp2_with (first | (go_at_call 23; refine HZ.out.mono ?_; rintro e w1 ⟨rfl, hb⟩; have HB1 := keepB HA hb; clear hb))
    go_ret3
    exact FIN.out _ HB1.out
  · rw [h2] at HM
    obtain ⟨x, y, e1, hy⟩ : ∃ x y, placeR l id = (x, y) ∧ (y = 0 ∨ y = 4) := by
      unfold placeR; rw [if_neg (by simp [h1])]
      cases posU l id
      · exact ⟨_, _, rfl, Or.inr rfl⟩
      · exact ⟨_, _, rfl, Or.inl rfl⟩
    rw [e1] at HZ
    clear h1 h2 e1 he
    rcases hy with rfl | rfl
    all_goals
      go_enter Tryz.func7, Tryz.ntmps7
      go_wp2_with (first | (go_at_call 23; refine HZ.out.mono ?_; rintro e w1 ⟨rfl, hb⟩; have hk1 := blk_below (blk_new w _) hb; have c0 := (blk_cell hk1 0).trans rfl; have c1 := (blk_cell hk1 1).trans rfl; have HB1 := keepB HA hb; clear hb hk1) | (go_at_call 24; refine (HM.out _).mono ?_; rintro e w2 ⟨rfl, hb⟩; have HB2 := keepB HB1 hb; clear hb))
      go_ret3
      exact FIN.out _ HB2.out
  · rw [h2] at HM
    have e1 : placeR l id = (0, 4) := by unfold placeR; rw [if_neg (by simp [h1]), h3]
    rw [e1] at HZ
    clear h1 h2 h3 e1 he
    go_enter Tryz.func7, Tryz.ntmps7
    go_wp2_with (first | (go_at_call 23; refine HZ.out.mono ?_; rintro e w1 ⟨rfl, hb⟩; have hk1 := blk_below (blk_new w _) hb; have c0 := (blk_cell hk1 0).trans rfl; have c1 := (blk_cell hk1 1).trans rfl; have HB1 := keepB HA hb; clear hb hk1) | (go_at_call 24; refine (HM.out _).mono ?_; rintro e w2 ⟨rfl, hb⟩; have HB2 := keepB HB1 hb; clear hb))
    go_ret3
    exact FIN.out _ HB2.out
end Go.Proofs.YtgpmkbmobdbdoaaGreatDoor.Q

-- T21
namespace Go.Proofs.YtgpmkbmobdbdoaaGreatDoor.Q
open Go.RowKit Go.Proofs.YtgpmkbmobdbdoaaGreatDoorW.PrintWords Go.Proofs.YtgpmkbmobdbdoaaGreatDoorW.PrintLast Go.Proofs.YtgpmkbmobdbdoaaGreatDoorW.PrintMore
set_option linter.unusedVariables false
set_option linter.unusedSimpArgs false

theorem keepK {w w' : World} {g : Nat} {o : Obj} (h : Hid (w.heap[g]? = some o)) (hb : Below w.heap.size w w') : Hid (w'.heap[g]? = some o) := blk_below h.out hb
theorem keepKD {w : World} {g : Nat} {o : Obj} (h : Hid (w.heap[g]? = some o)) : Hid (w.drew.heap[g]? = some o) := h
theorem keepcD {w : World} {p : Addr} {v : Value} (h : w.cell? p = some v) : w.drew.cell? p = some v := h
theorem k40_row {w : World} {x : S40} {c : List Value} (h : k40.K w x c) : ∃ A2 c2, c = [.int .u64 x.f0, .string x.f1, .slice A2 x.f2.length c2] ∧ x.f2.length ≤ c2 ∧ Kd.C k25 w A2 x.f2.length x.f2 := k40_open h
theorem flat_set {rows : List (List Value)} {sz : Nat} (h : ∀ c ∈ rows, c.length = sz) (i j : Nat) (hi : i < rows.length) (hj : j < sz) (v : Value) : rows.flatten.set (i * sz + j) v = (rows.set i (rows[i].set j v)).flatten := by
  induction rows generalizing i with
  | nil => simp at hi
  | cons c rows ih =>
    have hc := h c List.mem_cons_self
    rcases i with _ | i
    · rw [List.flatten_cons, Nat.zero_mul, Nat.zero_add, List.set_append_left _ _ (by omega)]; rfl
    · rw [List.flatten_cons, List.set_append_right _ _ (by rw [hc, Nat.add_mul]; omega), hc, show (i + 1) * sz + j - sz = i * sz + j by rw [Nat.add_mul]; omega, ih (fun d hd => h d (List.mem_cons_of_mem _ hd)) i (by simpa using hi)]
      rfl
theorem blk_raw {w : World} {g : Nat} {cur : Array Value} {t : TypeId} {cs : List Value} (h : w.heap[g]? = some (.cells cur t (0, 0))) (m : Nat) (ht : cur.toList.take m = cs) : RawAt w ⟨g, 0, none⟩ cs := by
  intro j u hu
  rw [add_at, Nat.zero_add, blk_cell h]
  rw [← ht, List.getElem?_take] at hu
  split at hu
  · simpa using hu
  · cases hu
theorem lay_fin {w : World} (l : List S40) (i : Nat) (hi : i < l.length) (rows : List (List Value)) (hrows : RowsOf k40 w l rows) (W : World) (hb : Below w.heap.size w W) (g1 cap1 : Nat) (cur1 : Array Value) (A' : Option Addr) (m cap' : Nat)
    (hg : W.heap[g1]? = some (.cells (cur1.setIfInBounds (i * 3 + 2) (.slice A' m cap')) 40 (0, 0))) (htake : cur1.toList.take (l.length * 3) = rows.flatten) (hcap : l.length ≤ cap1) (x : Value)
    (hrow : rows[i]'(by have := hrows.len; omega) = [.int .u64 l[i].f0, .string l[i].f1, x]) (f2 : List S25) (hC : Kd.C k25 W A' m f2) (hm : m = f2.length) (hle : f2.length ≤ cap') (rest : List Value) (hl : l.length ≤ 10) :
    ListPost (l.set i ⟨l[i].f0, l[i].f1, f2⟩) rest w (.returned (.tuple (#[.slice (some ⟨g1, 0, none⟩) l.length cap1] ++ rest.toArray))) W := by
  subst hm
  refine ⟨some ⟨g1, 0, none⟩, cap1, by rw [List.length_set], by rw [List.length_set]; exact hcap, ?_, hb⟩
  have hri : i < rows.length := by have := hrows.len; omega
  have h1 := (hrows.below hb).set i ⟨l[i].f0, l[i].f1, f2⟩ [.int .u64 l[i].f0, .string l[i].f1, .slice A' f2.length cap'] (k40_mk W ⟨l[i].f0, l[i].f1, f2⟩ hle hC)
  refine rows_C h1 (blk_raw hg (l.length * 3) ?_) (by rw [List.length_set]; omega)
  rw [Array.toList_setIfInBounds, List.take_set, htake, flat_set (sz := 3) hrows.lens i 2 hri (by omega), hrow]
  rfl
set_option maxHeartbeats 8000000 in
set_option maxRecDepth 100000 in
theorem lay_there.walk (ad : Addr) (c : Nat) (l : List S40) (id : Int) (p : S25) (w : World) (hr : Kd.C k40 w (some ad) l.length l) (hc : l.length ≤ c) (i : Nat) (hi : i < l.length)
    (hk : checkB l = true) (hm : mayB p = true) (hp : posU l id = some i) (hth : thereP l[i].f2 p.f0 = true) :
    Calls Tryz.prog 7 #[.slice (some ad) l.length c, .int .u64 id, .agg #[.int .i64 p.f0, .string p.f1]] w (ListPost (layR l id p).1 [.int .u32 (layR l id p).2.1, .int .i64 (layR l id p).2.2] w) := by
  have HB0 : Hid (Below w.heap.size w w) := Below.refl _ _
  obtain ⟨hl10, hfn⟩ := check_fine hk
  obtain ⟨hsort, hl30⟩ := fine_sorted (hfn i hi)
  have hm' := hm
  unfold mayB at hm'
  simp only [Bool.and_eq_true, decide_eq_true_eq] at hm'
  obtain ⟨m0, m1, m2⟩ := hm'
  have HA := Lib.hid (HB0.out.alloc (Nat.le_refl _) (.cells #[.int .i64 p.f0, .string p.f1] 25))
  have HZ := Lib.hid (place.walk (some ad) c l id _ (Kd.C_below hr HA.out) hc)
  have e1 : placeR l id = ((i : Int), 0) := by unfold placeR; rw [if_neg (by simp [hk]), hp]
  rw [e1] at HZ
  have HM := Lib.hid (fun W => may_calls p W)
  rw [hm] at HM
  have HLR : Hid (layR l id p = if thereP l[i].f2 p.f0 = false ∧ l[i].f2.length = 30 then ([], 0, 6) else (l.set i ⟨l[i].f0, l[i].f1, layParts l[i].f2 p⟩, tagOf p.f1, 0)) := by
    unfold Hid layR
    rw [if_neg (by simp [hk, hm]), hp]
    simp [List.getD_eq_getElem?_getD, hi]
  have HLR2 : Hid (layR l id p = (l.set i ⟨l[i].f0, l[i].f1, l[i].f2.set (lowP l[i].f2 p.f0) p⟩, tagOf p.f1, 0)) := by
    unfold Hid; rw [HLR.out, if_neg (by simp [hth])]; unfold layParts; rw [if_pos hth]
  have hlow : lowP l[i].f2 p.f0 < l[i].f2.length := by
    unfold lowP
    rw [List.findIdx_lt_length]
    unfold thereP at hth
    obtain ⟨x, hx, hxp⟩ := List.any_eq_true.1 hth
    exact ⟨x, hx, by have : x.f0 = p.f0 := by simpa using hxp
                     simp [this]⟩
  clear e1 hk hm hp hfn HLR
  have HR := Lib.hid hr
  have HSORT := Lib.hid hsort
  clear hr hsort
  obtain ⟨rows, hrows, hraw⟩ := C_rows HR.out
  have hri : i < rows.length := by have := hrows.len; omega
  obtain ⟨A2, c2, hrow, g3, g4⟩ := k40_row (hrows.at_ i l[i] rows[i] (List.getElem?_eq_getElem hi) (List.getElem?_eq_getElem hri))
  have hfa : ∀ j v, j < 3 → ([.int .u64 l[i].f0, .string l[i].f1, .slice A2 l[i].f2.length c2] : List Value)[j]? = some v → rows.flatten[i * 3 + j]? = some v := fun j v hj h => by
    rw [flat_at (sz := 3) hrows.lens i j hj, List.getElem?_eq_getElem hri, Option.bind_some, hrow]; exact h
  have g2 := hraw _ _ (hfa 2 _ (by omega) rfl)
  rw [add_field _ _ 2 (by omega)] at g2
  have hfl : rows.flatten.length = l.length * 3 := by rw [flat_len (sz := 3) hrows.lens, hrows.len]
  have HFA := Lib.hid hfa; have HFL := Lib.hid hfl; have HROWS := Lib.hid hrows; have HRAW := Lib.hid hraw; have HROW := Lib.hid hrow
  have G2 := Lib.hid g2; have G3 := Lib.hid g3; have G4 := Lib.hid g4
  clear g2 g3 g4 hfa hfl hrows hraw hrow
  have HBS := Lib.hid (fun (W : World) (h : Below w.heap.size w W) => bsearch.walk A2 c2 l[i].f2 p.f0 W (Kd.C_below G4.out h) HSORT.out (by omega) m0 m1)
  simp only [hth] at HBS
  clear hth
  generalize hkk : lowP l[i].f2 p.f0 = k at *
  clear hkk
  go_enter Tryz.func7, Tryz.ntmps7
  go_wp2_with (first | (go_at_call 23; refine HZ.out.mono ?_; rintro e w1 ⟨rfl, hb⟩; have hk1 := blk_below (blk_new w _) hb; have c0 := (blk_cell hk1 0).trans rfl; have c1 := (blk_cell hk1 1).trans rfl; have BK1 := Lib.hid hk1; have HB1 := keepB HA hb; clear hb hk1) | (go_at_call 24; refine (HM.out _).mono ?_; rintro e w2 ⟨rfl, hb⟩; have BK2 := Lib.hid (blk_below BK1.out hb); have HB2 := keepB HB1 hb; clear hb))
  clear c0 c1
  have c0 := (blk_cell BK2.out 0).trans rfl
  have c1 := (blk_cell BK2.out 1).trans rfl
  have b2 := keepc HB2.out G2.out
  have i0 : (0 : Int) ≤ (i : Int) := by omega
  have i1 : (i : Int) < (l.length : Int) := by omega
  go_region_held3 (fun W => W.cell? ⟨w.heap.size, 0, none⟩ = some (.int .i64 p.f0) ∧ W.cell? ⟨(ad.add (i * 3)).block, (ad.add (i * 3)).off + 2, none⟩ = some (.slice A2 l[i].f2.length c2) ∧ Hid (Below w.heap.size w W) ∧ Hid (W.heap[w.heap.size]? = some (.cells #[.int .i64 p.f0, .string p.f1] 25 (0, 0))))
    (((try go_split_ands); refine ⟨?_, ?_, ?_, ?_⟩ <;> first | assumption | (refine keepc hb ?_; assumption) | (refine keepB ?_ hb; assumption) | (refine keepK ?_ hb; assumption) | (refine keepD ?_; assumption) | (refine keepKD ?_; assumption) | (refine keepcD ?_; assumption)))
    (first | (go_at_call 25; refine (HBS.out _ (outB (by first | assumption | exact keepD HB2))).mono ?_; rintro e w' ⟨rfl, hb⟩))
  try go_split_ands
  have HB3 : Hid (Below w.heap.size w w') := by assumption
  have BK3 : Hid (w'.heap[w.heap.size]? = some (.cells #[.int .i64 p.f0, .string p.f1] 25 (0, 0))) := by assumption
  have HCL := Lib.hid (clone34.walk ad l.length c rows.flatten w' HFL.out HROWS.out.one (fun j u hu => keepc HB3.out (HRAW.out j u hu)) (by omega))
  go_wp2_with (go_at_call 27; refine HCL.out.mono ?_; rintro e w4 ⟨v1, rfl, hown1, hb4⟩; have HB4 := keepB HB3 hb4; have BK4 := keepK BK3 hb4; have HO1 := Lib.hid hown1; have HS4 := Lib.hid hb4.size; (obtain ⟨g1, cap1, cur1, rfl, q1, q2, q3, q4, q5, q6⟩ : ∃ g1 cap1 cur1, v1 = .slice (some ⟨g1, 0, none⟩) l.length cap1 ∧ w'.heap.size ≤ g1 ∧ w4.heap[g1]? = some (.cells cur1 40 (0, 0)) ∧ l.length ≤ cap1 ∧ cap1 ≤ maxLen ∧ cur1.size = cap1 * 3 ∧ cur1.toList.take (l.length * 3) = rows.flatten := (by rcases hown1.2 with ⟨_, h0⟩ | ⟨g, cap, cur, h1, h2, h3, h4, h5, h6, h7⟩; (omega); (exact ⟨g, cap, cur, h1, h2, h3, h4, h5, h6, h7⟩))); have BG1 := Lib.hid q2; have Q1 := Lib.hid q1; have Q3 := Lib.hid q3; have Q4 := Lib.hid q4; have Q5 := Lib.hid q5; have Q6 := Lib.hid q6; have m2 : w4.cell? ⟨g1, i * 3 + 2, none⟩ = some (.slice A2 l[i].f2.length c2) := (by rw [blk_cell BG1.out, ← Array.getElem?_toList]; have := HFA.out 2 _ (by omega) rfl; rw [← q6, List.getElem?_take, if_pos (by omega)] at this; exact this); have HC39 := Lib.hid (clone39_any (w := w4) (c := c2) (Kd.C_below G4.out HB4.out) (by omega)); clear hown1 hb4 q1 q2 q3 q4 q5 q6)
  go_wp2_with (go_at_call 28; refine HC39.out.mono ?_; rintro e w5 ⟨v2, rfl, hown2, hb5⟩; have HB5 := keepB HB4 hb5; have BK5 := keepK BK4 hb5; have BG5 := keepK BG1 hb5; have m5 := keepc hb5 m2; have z5 := blk_frozen BG5.out (i * 3 + 2); have HO2 := Lib.hid hown2; (obtain ⟨g2, cap2, cur2, rfl, q1, q2, q3, q4, q5, q6⟩ : ∃ g2 cap2 cur2, v2 = .slice (some ⟨g2, 0, none⟩) l[i].f2.length cap2 ∧ w4.heap.size ≤ g2 ∧ w5.heap[g2]? = some (.cells cur2 25 (0, 0)) ∧ l[i].f2.length ≤ cap2 ∧ cap2 ≤ maxLen ∧ cur2.size = cap2 * 2 ∧ cur2.toList.take (l[i].f2.length * 2) = cells40 l[i].f2 := (by rcases hown2.2 with ⟨_, h0⟩ | ⟨g, cap, cur, h1, h2, h3, h4, h5, h6, h7⟩; (omega); (exact ⟨g, cap, cur, h1, h2, h3, h4, h5, h6, h7⟩))); have BG2 := Lib.hid q2; have P1 := Lib.hid q1; have P3 := Lib.hid q3; have P4 := Lib.hid q4; have P5 := Lib.hid q5; have P6 := Lib.hid q6; clear hown2 hb5 q1 q2 q3 q4 q5 q6)
  clear m2 m5 z5 b2 c0 c1
  obtain ⟨v2, hv2⟩ : ∃ v2 : Value, v2 = .slice (some ⟨g2, 0, none⟩) l[i].f2.length cap2 := ⟨_, rfl⟩
  obtain ⟨w6, hw6⟩ : ∃ w6, w6 = w5.setCell ⟨g1, i * 3 + 2, none⟩ (.slice (some ⟨g2, 0, none⟩) l[i].f2.length cap2) := ⟨_, rfl⟩
  rw [← hw6]
  have HV2 := Lib.hid hv2
  rw [← hv2] at hw6
  have HW6 := Lib.hid hw6
  clear hv2 hw6
  have L3 : w.heap.size < w'.heap.size := blk_lt BK3.out
  have L4 : g1 < w4.heap.size := blk_lt BG1.out
  have L5 : g1 < g2 := Nat.lt_of_lt_of_le L4 P1.out
  have L6 : w.heap.size < g1 := Nat.lt_of_lt_of_le L3 Q1.out
  have BG6 : Hid (w6.heap[g1]? = some (.cells (cur1.setIfInBounds (i * 3 + 2) v2) 40 (0, 0))) := by unfold Hid; rw [HW6.out]; exact blk_set BG5.out _ _
  have BG62 : Hid (w6.heap[g2]? = some (.cells cur2 25 (0, 0))) := by unfold Hid; rw [HW6.out]; exact blk_far BG2.out (p := ⟨g1, i * 3 + 2, none⟩) (Nat.ne_of_gt L5) _
  have BK6 : Hid (w6.heap[w.heap.size]? = some (.cells #[.int .i64 p.f0, .string p.f1] 25 (0, 0))) := by unfold Hid; rw [HW6.out]; exact blk_far BK5.out (p := ⟨g1, i * 3 + 2, none⟩) (Nat.ne_of_lt L6) _
  have HB6 : Hid (Below w.heap.size w w6) := by unfold Hid; rw [HW6.out]; exact HB5.out.setCell (p := ⟨g1, i * 3 + 2, none⟩) (Nat.le_of_lt L6) _
  have r2 : w6.cell? ⟨g1, i * 3 + 2, none⟩ = some (.slice (some ⟨g2, 0, none⟩) l[i].f2.length cap2) := by
    rw [blk_cell BG6.out, Array.getElem?_setIfInBounds, if_pos rfl, if_pos (by rw [Q5.out]; have := Q3.out; omega), HV2.out]
  have c0 := (blk_cell BK6.out 0).trans rfl
  have c1 := (blk_cell BK6.out 1).trans rfl
  have P3' := P3.out
  have P5' := P5.out
  obtain ⟨y0, s0⟩ : ∃ y, w6.cell? ⟨g2, k * 2, none⟩ = some y := by rw [blk_cell BG62.out]; exact ⟨_, Array.getElem?_eq_getElem (by omega)⟩
  obtain ⟨y1, s1⟩ : ∃ y, w6.cell? ⟨g2, k * 2 + 1, none⟩ = some y := by rw [blk_cell BG62.out]; exact ⟨_, Array.getElem?_eq_getElem (by omega)⟩
  have f0 := blk_frozen BG62.out (k * 2)
  have f1 := blk_frozen BG62.out (k * 2 + 1)
  clear P3' P5'
  have k0 : (0 : Int) ≤ (k : Int) := by omega
  have k1 : (k : Int) < (l[i].f2.length : Int) := by omega
  go_still_tail 8, (by kernel_rfl)
  change wpList _ _ _ _ _ w6.drew
  go_wp2_with (go_at_call 30; refine (tag_Of.walk p.f1 (by omega) _).mono ?_; rintro e w7 ⟨rfl, hb7⟩; have HB7 := Lib.hid hb7; clear hb7)
  go_ret3
  have hb7 : Below w.heap.size w w7 := ((((HB6.out.setCell (p := ⟨g2, k * 2, none⟩) (by show w.heap.size ≤ g2; omega) (.int .i64 p.f0)).setCell (p := ⟨g2, k * 2 + 1, none⟩) (by show w.heap.size ≤ g2; omega) (.string p.f1)).drew)).trans (HB7.out.mono (((HB6.out.setCell (p := ⟨g2, k * 2, none⟩) (by show w.heap.size ≤ g2; omega) (.int .i64 p.f0)).setCell (p := ⟨g2, k * 2 + 1, none⟩) (by show w.heap.size ≤ g2; omega) (.string p.f1)).drew).size)
  have k7 : w7.heap[g1]? = some (.cells (cur1.setIfInBounds (i * 3 + 2) v2) 40 (0, 0)) :=
    blk_below (blk_drew (blk_far (p := ⟨g2, k * 2 + 1, none⟩) (blk_far (p := ⟨g2, k * 2, none⟩) BG6.out (Nat.ne_of_lt L5) (.int .i64 p.f0)) (Nat.ne_of_lt L5) (.string p.f1))) HB7.out
  have k72 : w7.heap[g2]? = some (.cells ((cur2.setIfInBounds (k * 2) (.int .i64 p.f0)).setIfInBounds (k * 2 + 1) (.string p.f1)) 25 (0, 0)) :=
    blk_below (blk_drew (blk_set (blk_set BG62.out (k * 2) (.int .i64 p.f0)) (k * 2 + 1) (.string p.f1))) HB7.out
  rw [HV2.out] at k7
  rw [HLR2.out]
  refine lay_fin l i hi rows HROWS.out w7 hb7 g1 cap1 cur1 _ _ _ k7 Q6.out Q3.out _ HROW.out (l[i].f2.set k p) ?_ (by simp) (by rw [List.length_set]; exact P3.out) _ hl10
  have := rows_C (rowsOf40 w7 (l[i].f2.set k p)) (ad := ⟨g2, 0, none⟩) (blk_raw k72 (l[i].f2.length * 2) ?_) (by rw [List.length_set]; omega)
  · rw [List.length_set] at this; exact this
  · rw [Array.toList_setIfInBounds, Array.toList_setIfInBounds, List.take_set, List.take_set, P6.out, set40 _ _ _ hlow]; rfl
end Go.Proofs.YtgpmkbmobdbdoaaGreatDoor.Q

-- T22
namespace Go.Proofs.YtgpmkbmobdbdoaaGreatDoor.Q
open Go.RowKit Go.Proofs.YtgpmkbmobdbdoaaGreatDoorW.PrintWords Go.Proofs.YtgpmkbmobdbdoaaGreatDoorW.PrintLast Go.Proofs.YtgpmkbmobdbdoaaGreatDoorW.PrintMore
set_option linter.unusedVariables false
set_option linter.unusedSimpArgs false

theorem own_shape {w : World} {base n sz : Nat} {e : TypeId} {v : Value} {xs : List Value} (ho : w.ownsRow base e sz v n xs) : ∃ A c, v = .slice A n c := by
  rcases ho.2 with ⟨h1, h2⟩ | ⟨g, cap, cur, h1, _⟩
  · exact ⟨none, 0, by rw [h1, h2]⟩
  · exact ⟨_, _, h1⟩
theorem own_heap {w W : World} (h : W.heap = w.heap) {base n sz : Nat} {e : TypeId} {v : Value} {xs : List Value} (ho : w.ownsRow base e sz v n xs) : W.ownsRow base e sz v n xs := by
  unfold World.ownsRow at ho ⊢
  rw [h]; exact ho
set_option maxHeartbeats 8000000 in
set_option maxRecDepth 100000 in
theorem lay_new.walk (ad : Addr) (c : Nat) (l : List S40) (id : Int) (p : S25) (w : World) (hr : Kd.C k40 w (some ad) l.length l) (hc : l.length ≤ c) (i : Nat) (hi : i < l.length)
    (hk : checkB l = true) (hm : mayB p = true) (hp : posU l id = some i) (hth : thereP l[i].f2 p.f0 = false) :
    Calls Tryz.prog 7 #[.slice (some ad) l.length c, .int .u64 id, .agg #[.int .i64 p.f0, .string p.f1]] w (ListPost (layR l id p).1 [.int .u32 (layR l id p).2.1, .int .i64 (layR l id p).2.2] w) := by
  have HB0 : Hid (Below w.heap.size w w) := Below.refl _ _
  obtain ⟨hl10, hfn⟩ := check_fine hk
  obtain ⟨hsort, hl30⟩ := fine_sorted (hfn i hi)
  have hm' := hm
  unfold mayB at hm'
  simp only [Bool.and_eq_true, decide_eq_true_eq] at hm'
  obtain ⟨m0, m1, m2⟩ := hm'
  have HA := Lib.hid (HB0.out.alloc (Nat.le_refl _) (.cells #[.int .i64 p.f0, .string p.f1] 25))
  have HZ := Lib.hid (place.walk (some ad) c l id _ (Kd.C_below hr HA.out) hc)
  have e1 : placeR l id = ((i : Int), 0) := by unfold placeR; rw [if_neg (by simp [hk]), hp]
  rw [e1] at HZ
  have HM := Lib.hid (fun W => may_calls p W)
  rw [hm] at HM
  have HLR : Hid (layR l id p = if thereP l[i].f2 p.f0 = false ∧ l[i].f2.length = 30 then ([], 0, 6) else (l.set i ⟨l[i].f0, l[i].f1, layParts l[i].f2 p⟩, tagOf p.f1, 0)) := by
    unfold Hid layR
    rw [if_neg (by simp [hk, hm]), hp]
    simp [List.getD_eq_getElem?_getD, hi]
  have HLR2 : Hid (layR l id p = if l[i].f2.length = 30 then ([], 0, 6) else (l.set i ⟨l[i].f0, l[i].f1, l[i].f2.take (lowP l[i].f2 p.f0) ++ (p :: l[i].f2.drop (lowP l[i].f2 p.f0))⟩, tagOf p.f1, 0)) := by
    unfold Hid; rw [HLR.out]; unfold layParts; rw [hth]; simp
  have hlow : lowP l[i].f2 p.f0 ≤ l[i].f2.length := List.findIdx_le_length
  clear e1 hk hm hp hfn HLR
  have HR := Lib.hid hr
  have HSORT := Lib.hid hsort
  clear hr hsort
  obtain ⟨rows, hrows, hraw⟩ := C_rows HR.out
  have hri : i < rows.length := by have := hrows.len; omega
  obtain ⟨A2, c2, hrow, g3, g4⟩ := k40_row (hrows.at_ i l[i] rows[i] (List.getElem?_eq_getElem hi) (List.getElem?_eq_getElem hri))
  have hfa : ∀ j v, j < 3 → ([.int .u64 l[i].f0, .string l[i].f1, .slice A2 l[i].f2.length c2] : List Value)[j]? = some v → rows.flatten[i * 3 + j]? = some v := fun j v hj h => by
    rw [flat_at (sz := 3) hrows.lens i j hj, List.getElem?_eq_getElem hri, Option.bind_some, hrow]; exact h
  have g2 := hraw _ _ (hfa 2 _ (by omega) rfl)
  rw [add_field _ _ 2 (by omega)] at g2
  have hfl : rows.flatten.length = l.length * 3 := by rw [flat_len (sz := 3) hrows.lens, hrows.len]
  have HFA := Lib.hid hfa; have HFL := Lib.hid hfl; have HROWS := Lib.hid hrows; have HRAW := Lib.hid hraw; have HROW := Lib.hid hrow
  have G2 := Lib.hid g2; have G3 := Lib.hid g3; have G4 := Lib.hid g4
  clear g2 g3 g4 hfa hfl hrows hraw hrow
  have HBS := Lib.hid (fun (W : World) (h : Below w.heap.size w W) => bsearch.walk A2 c2 l[i].f2 p.f0 W (Kd.C_below G4.out h) HSORT.out (by omega) m0 m1)
  simp only [hth] at HBS
  clear hth
  generalize hkk : lowP l[i].f2 p.f0 = k at *
  clear hkk
  go_enter Tryz.func7, Tryz.ntmps7
  go_wp2_with (first | (go_at_call 23; refine HZ.out.mono ?_; rintro e w1 ⟨rfl, hb⟩; have hk1 := blk_below (blk_new w _) hb; have c0 := (blk_cell hk1 0).trans rfl; have c1 := (blk_cell hk1 1).trans rfl; have BK1 := Lib.hid hk1; have HB1 := keepB HA hb; clear hb hk1) | (go_at_call 24; refine (HM.out _).mono ?_; rintro e w2 ⟨rfl, hb⟩; have BK2 := Lib.hid (blk_below BK1.out hb); have HB2 := keepB HB1 hb; clear hb))
  clear c0 c1
  have c0 := (blk_cell BK2.out 0).trans rfl
  have c1 := (blk_cell BK2.out 1).trans rfl
  have b2 := keepc HB2.out G2.out
  have i0 : (0 : Int) ≤ (i : Int) := by omega
  have i1 : (i : Int) < (l.length : Int) := by omega
  go_region_held3 (fun W => W.cell? ⟨w.heap.size, 0, none⟩ = some (.int .i64 p.f0) ∧ W.cell? ⟨(ad.add (i * 3)).block, (ad.add (i * 3)).off + 2, none⟩ = some (.slice A2 l[i].f2.length c2) ∧ Hid (Below w.heap.size w W) ∧ Hid (W.heap[w.heap.size]? = some (.cells #[.int .i64 p.f0, .string p.f1] 25 (0, 0))))
    (((try go_split_ands); refine ⟨?_, ?_, ?_, ?_⟩ <;> first | assumption | (refine keepc hb ?_; assumption) | (refine keepB ?_ hb; assumption) | (refine keepK ?_ hb; assumption) | (refine keepD ?_; assumption) | (refine keepKD ?_; assumption) | (refine keepcD ?_; assumption)))
    (first | (go_at_call 25; refine (HBS.out _ (outB (by first | assumption | exact keepD HB2))).mono ?_; rintro e w' ⟨rfl, hb⟩))
  try go_split_ands
  have HB3 : Hid (Below w.heap.size w w') := by assumption
  have BK3 : Hid (w'.heap[w.heap.size]? = some (.cells #[.int .i64 p.f0, .string p.f1] 25 (0, 0))) := by assumption
  have HCL := Lib.hid (clone34.walk ad l.length c rows.flatten w' HFL.out HROWS.out.one (fun j u hu => keepc HB3.out (HRAW.out j u hu)) (by omega))
  go_wp2_with (go_at_call 27; refine HCL.out.mono ?_; rintro e w4 ⟨v1, rfl, hown1, hb4⟩; have HB4 := keepB HB3 hb4; have BK4 := keepK BK3 hb4; have HO1 := Lib.hid hown1; have HS4 := Lib.hid hb4.size; (obtain ⟨g1, cap1, cur1, rfl, q1, q2, q3, q4, q5, q6⟩ : ∃ g1 cap1 cur1, v1 = .slice (some ⟨g1, 0, none⟩) l.length cap1 ∧ w'.heap.size ≤ g1 ∧ w4.heap[g1]? = some (.cells cur1 40 (0, 0)) ∧ l.length ≤ cap1 ∧ cap1 ≤ maxLen ∧ cur1.size = cap1 * 3 ∧ cur1.toList.take (l.length * 3) = rows.flatten := (by rcases hown1.2 with ⟨_, h0⟩ | ⟨g, cap, cur, h1, h2, h3, h4, h5, h6, h7⟩; (omega); (exact ⟨g, cap, cur, h1, h2, h3, h4, h5, h6, h7⟩))); have BG1 := Lib.hid q2; have Q1 := Lib.hid q1; have Q3 := Lib.hid q3; have Q4 := Lib.hid q4; have Q5 := Lib.hid q5; have Q6 := Lib.hid q6; have m2 : w4.cell? ⟨g1, i * 3 + 2, none⟩ = some (.slice A2 l[i].f2.length c2) := (by rw [blk_cell BG1.out, ← Array.getElem?_toList]; have := HFA.out 2 _ (by omega) rfl; rw [← q6, List.getElem?_take, if_pos (by omega)] at this; exact this); have HC39 := Lib.hid (clone39_any (w := w4) (c := c2) (Kd.C_below G4.out HB4.out) (by omega)); clear hown1 hb4 q1 q2 q3 q4 q5 q6)
  have hsplit : l[i].f2.length = 30 ∨ l[i].f2.length ≠ 30 := by omega
  rcases hsplit with h30 | h30
  · have d30 : ((l[i].f2.length : Int) == 30) = true := beq_iff_eq.2 (by omega)
    rw [if_pos h30] at HLR2
    clear h30
    go_wp2_with (go_at_call 28; refine HC39.out.mono ?_; rintro e w5 ⟨v2, rfl, hown2, hb5⟩; (obtain ⟨A', cap2, rfl, _, _⟩ := own40 hown2); have HB5 := keepB HB4 hb5; have BK5 := keepK BK4 hb5; have BG5 := keepK BG1 hb5; have m5 := keepc hb5 m2; have z5 := blk_frozen BG5.out (i * 3 + 2); clear hown2 hb5)
    go_ret3
    rw [HLR2.out]
    exact ⟨none, 0, rfl, Nat.le_refl _, Kd.C_nil _ _, HB5.out.setCell (p := ⟨g1, i * 3 + 2, none⟩) (by have := blk_lt BK3.out; have := Q1.out; show w.heap.size ≤ g1; omega) _⟩
  · have d30 : ((l[i].f2.length : Int) == 30) = false := beq_eq_false_iff_ne.2 (by omega)
    rw [if_neg h30] at HLR2
    clear h30
    go_wp2_with (go_at_call 28; refine HC39.out.mono ?_; rintro e w5 ⟨v2, rfl, hown2, hb5⟩; have HO2 := Lib.hid hown2; (obtain ⟨A', cap2, rfl, _, _⟩ := own40 hown2); have HB5 := keepB HB4 hb5; have BK5 := keepK BK4 hb5; have BG5 := keepK BG1 hb5; have m5 := keepc hb5 m2; have z5 := blk_frozen BG5.out (i * 3 + 2); have HS45 := Lib.hid hb5.size; clear hown2 hb5)
    clear m2 m5 z5 b2 c0 c1
    obtain ⟨v2, hv2⟩ : ∃ v2 : Value, v2 = .slice A' l[i].f2.length cap2 := ⟨_, rfl⟩
    obtain ⟨w6, hw6⟩ : ∃ w6, w6 = w5.setCell ⟨g1, i * 3 + 2, none⟩ (.slice A' l[i].f2.length cap2) := ⟨_, rfl⟩
    rw [← hw6]
    have HV2 := Lib.hid hv2
    have HO2' := HO2.out
    rw [← hv2] at hw6 HO2'
    have HW6 := Lib.hid hw6
    have HO5 := Lib.hid HO2'
    clear hv2 hw6 HO2' HO2
    have L3 : w.heap.size < w'.heap.size := blk_lt BK3.out
    have L4 : g1 < w4.heap.size := blk_lt BG1.out
    have L6 : w.heap.size < g1 := Nat.lt_of_lt_of_le L3 Q1.out
    have BG6 : Hid (w6.heap[g1]? = some (.cells (cur1.setIfInBounds (i * 3 + 2) v2) 40 (0, 0))) := by unfold Hid; rw [HW6.out]; exact blk_set BG5.out _ _
    have BK6 : Hid (w6.heap[w.heap.size]? = some (.cells #[.int .i64 p.f0, .string p.f1] 25 (0, 0))) := by unfold Hid; rw [HW6.out]; exact blk_far BK5.out (p := ⟨g1, i * 3 + 2, none⟩) (Nat.ne_of_lt L6) _
    have HB6 : Hid (Below w.heap.size w w6) := by unfold Hid; rw [HW6.out]; exact HB5.out.setCell (p := ⟨g1, i * 3 + 2, none⟩) (Nat.le_of_lt L6) _
    have HO6 : Hid (w6.ownsRow w4.heap.size 25 2 v2 l[i].f2.length (cells40 l[i].f2)) := by
      unfold Hid; rw [HW6.out]
      exact own_move HO5.out (fun q hq => Below.heap_setCell _ _ _ _ (fun e => own_ne HO5.out BG5.out (by decide) (by rw [hq, e])))
    have N1 := Lib.hid (own_ne HO6.out BG6.out (by decide))
    have N2 : Hid (some w.heap.size ≠ v2.ownBlock) := fun e => by have := own_base HO6.out _ e.symm; omega
    have S6 : w4.heap.size ≤ w6.heap.size := by
      have h2 := HS45.out
      have h3 : w6.heap.size = w5.heap.size := by rw [HW6.out]; simp [World.setCell]
      omega
    have r2 : w6.cell? ⟨g1, i * 3 + 2, none⟩ = some (.slice A' l[i].f2.length cap2) := by
      rw [blk_cell BG6.out, Array.getElem?_setIfInBounds, if_pos rfl, if_pos (by rw [Q5.out]; have := Q3.out; omega), HV2.out]
    have HC6 : Hid ((cur1.setIfInBounds (i * 3 + 2) v2)[i * 3 + 2]? = some v2) := by
      unfold Hid; rw [Array.getElem?_setIfInBounds, if_pos rfl, if_pos (by rw [Q5.out]; have := Q3.out; omega)]
    have c0 := (blk_cell BK6.out 0).trans rfl
    have c1 := (blk_cell BK6.out 1).trans rfl
    have nn1 := World.new_ne w6 _ r2
    have nn2 : g1 < w6.heap.size := blk_lt BG6.out
    have HIN : Hid (∀ W : World, W.heap = (w6.alloc (.cells #[.int .i64 p.f0, .string p.f1] 25)).heap → Calls Tryz.prog 29 #[.slice A' l[i].f2.length cap2, .int .i64 k, .slice (some ⟨w6.heap.size, 0, none⟩) 1 1] W (InsPost w4.heap.size l[i].f2.length k v2 (cells40 l[i].f2) (cell40 p) W)) := by
      intro W hW
      have ho : W.ownsRow w4.heap.size 25 2 v2 l[i].f2.length (cells40 l[i].f2) := own_heap hW (HO6.out.alloc _)
      have hbv : W.heap[w6.heap.size]? = some (.cells #[.int .i64 p.f0, .string p.f1] 25 (0, 0)) := by rw [hW]; exact blk_new _ _
      have := insert.walk w4.heap.size l[i].f2.length k v2 (cells40 l[i].f2) w6.heap.size p.f0 p.f1 W ho (by rw [hW]; simp; omega) hlow (by omega) (cells40_one _) hbv (fun e => by
        obtain ⟨cells, hc⟩ := own_typed HO6.out _ e
        exact absurd (blk_lt hc) (Nat.lt_irrefl _))
      rw [HV2.out] at this ⊢
      exact this
    go_region_with (first | (go_at_call 29; refine (HIN.out _ (by exact rfl)).mono ?_; rintro e w8 ⟨v3, rfl, ho8, hg8⟩; have BG8 := Lib.hid (blk_grown (blk_drew (blk_alloc BG6.out _)) hg8 N1.out); have BK8 := Lib.hid (blk_grown (blk_drew (blk_alloc BK6.out _)) hg8 N2.out); have m8 := (blk_cell BG8.out (i * 3 + 2)).trans HC6.out; have z8 := blk_frozen BG8.out (i * 3 + 2); (obtain ⟨A3, c3, rfl⟩ := own_shape ho8); have HO8 := Lib.hid ho8; have HG8 := Lib.hid hg8; clear ho8 hg8))
    all_goals
      have c8 : w8.cell? ⟨w.heap.size, 1, none⟩ = some (.string p.f1) := (blk_cell BK8.out 1).trans rfl
      have L6' : ¬ g1 = w.heap.size := by omega
      have L6'' : ¬ w.heap.size = g1 := by omega
      clear c0 c1 r2 nn1
      go_wp2_with (go_at_call 30; refine (tag_Of.walk p.f1 (by omega) _).mono ?_; rintro e w9 ⟨rfl, hb9⟩; have HB9 := Lib.hid hb9; clear hb9)
      go_ret3
      have hb8 : Below w.heap.size w w8 := ((HB6.out.alloc HB6.out.size (.cells #[.int .i64 p.f0, .string p.f1] 25)).drew).grown HG8.out (by have := HB6.out.size; simp; omega) (fun q hq => by have := own_base HO6.out q hq; omega)
      have hb9 : Below w.heap.size w w9 := (hb8.setCell (p := ⟨g1, i * 3 + 2, none⟩) (Nat.le_of_lt L6) (.slice A3 (l[i].f2.length + 1) c3)).trans (HB9.out.mono (hb8.setCell (p := ⟨g1, i * 3 + 2, none⟩) (Nat.le_of_lt L6) (.slice A3 (l[i].f2.length + 1) c3)).size)
      have kg9 := blk_below (blk_set BG8.out (i * 3 + 2) (.slice A3 (l[i].f2.length + 1) c3)) HB9.out
      rw [Array.setIfInBounds_setIfInBounds] at kg9
      have ho9 : w9.ownsRow w4.heap.size 25 2 (.slice A3 (l[i].f2.length + 1) c3) (l[i].f2.take k ++ (p :: l[i].f2.drop k)).length (cells40 (l[i].f2.take k ++ (p :: l[i].f2.drop k))) := by
        rw [← insAt40, List.length_append, List.length_take, List.length_cons, List.length_drop, show min k l[i].f2.length + (l[i].f2.length - k + 1) = l[i].f2.length + 1 by omega]
        exact pw_own_below (own_move HO8.out (fun q hq => Below.heap_setCell _ _ _ _ (fun e => own_ne HO8.out BG8.out (by decide) (by rw [hq, e])))) HB9.out
      obtain ⟨A4, c4, e4, hle, hC⟩ := own40 ho9
      injection e4 with e5 e6 e7
      subst e5 e7
      rw [HLR2.out]
      exact lay_fin l i hi rows HROWS.out w9 hb9 g1 cap1 cur1 _ _ _ kg9 Q6.out Q3.out _ HROW.out (l[i].f2.take k ++ (p :: l[i].f2.drop k)) (by rw [e6]; exact hC) e6 hle _ hl10
end Go.Proofs.YtgpmkbmobdbdoaaGreatDoor.Q

-- T23
namespace Go.Proofs.YtgpmkbmobdbdoaaGreatDoor.Q
open Go.RowKit Go.Proofs.YtgpmkbmobdbdoaaGreatDoorW.PrintWords Go.Proofs.YtgpmkbmobdbdoaaGreatDoorW.PrintLast Go.Proofs.YtgpmkbmobdbdoaaGreatDoorW.PrintMore
set_option linter.unusedVariables false
set_option linter.unusedSimpArgs false

theorem some_of_lt {w : World} {A : Option Addr} {l : List S40} (hr : Kd.C k40 w A l.length l) (h : 0 < l.length) : ∃ ad, A = some ad := by
  obtain ⟨ad, e, _⟩ := hr.2.2 h; exact ⟨ad, e⟩
theorem lay.walk (A : Option Addr) (c : Nat) (l : List S40) (id : Int) (p : S25) (w : World) (hr : Kd.C k40 w A l.length l) (hc : l.length ≤ c) :
    Calls Tryz.prog 7 #[.slice A l.length c, .int .u64 id, .agg #[.int .i64 p.f0, .string p.f1]] w (ListPost (layR l id p).1 [.int .u32 (layR l id p).2.1, .int .i64 (layR l id p).2.2] w) := by
  cases hk : checkB l
  · have e : layR l id p = ([], 0, 1) := by unfold layR; rw [if_pos (Or.inl hk)]
    rw [e]
    exact lay_err.walk A c l id p w hr hc 1 (Or.inl rfl) (Or.inl ⟨hk, rfl⟩)
  · cases hm : mayB p
    · have e : layR l id p = ([], 0, 1) := by unfold layR; rw [if_pos (Or.inr hm)]
      rw [e]
      exact lay_err.walk A c l id p w hr hc 1 (Or.inl rfl) (Or.inr (Or.inl ⟨hk, hm, rfl⟩))
    · cases hp : posU l id with
      | none =>
        have e : layR l id p = ([], 0, 4) := by unfold layR; rw [if_neg (by simp [hk, hm]), hp]
        rw [e]
        exact lay_err.walk A c l id p w hr hc 4 (Or.inr rfl) (Or.inr (Or.inr ⟨hk, hm, hp, rfl⟩))
      | some i =>
        obtain ⟨hi, _⟩ := posU_lt hp
        obtain ⟨ad, rfl⟩ := some_of_lt hr (by omega)
        cases hth : thereP l[i].f2 p.f0
        · exact lay_new.walk ad c l id p w hr hc i hi hk hm hp hth
        · exact lay_there.walk ad c l id p w hr hc i hi hk hm hp hth
theorem clone34_any {w : World} {A : Option Addr} {c : Nat} {l : List S40} (hr : Kd.C k40 w A l.length l) (hn : l.length ≤ 1000000) :
    Calls Tryz.prog 27 #[.slice A l.length c] w fun e w' => ∃ v rows, e = .returned v ∧ RowsOf k40 w l rows ∧ w'.ownsRow w.heap.size 40 3 v l.length rows.flatten ∧ Below w.heap.size w w' := by
  cases A with
  | none =>
    have h0 : l.length = 0 := by
      rcases Nat.eq_zero_or_pos l.length with h | h
      · exact h
      · obtain ⟨ad, e, _⟩ := hr.2.2 h; cases e
    have : l = [] := List.length_eq_zero_iff.1 h0
    subst this
    refine (clone34_nil 0 c w).mono ?_
    rintro e w' ⟨rfl, hb⟩
    exact ⟨_, [], rfl, RowsOf.nil_, own_nil _ _ _ _, hb⟩
  | some ad =>
    obtain ⟨rows, h1, h2⟩ := C_rows hr
    refine (clone34.walk ad l.length c rows.flatten w (by rw [flat_len (sz := 3) h1.lens, h1.len]) h1.one h2 hn).mono ?_
    rintro e w' ⟨v, rfl, ho, hb⟩
    exact ⟨v, rows, rfl, h1, ho, hb⟩
def lastB (l : List S40) (id : Int) : Bool := decide (0 < l.length) && decide (id ≤ (l.getD (l.length - 1) z40).f0)
def beginR (l : List S40) (id : Int) (key : ByteArray) : List S40 × Int :=
  if checkB l = false ∨ numB id = false ∨ keyB key = false then ([], 1)
  else if lastB l id = true then ([], 9)
  else if l.length = 10 then ([], 6)
  else (l ++ [⟨id, key, []⟩], 0)
theorem num_calls (i : Int) (w : World) : Calls Tryz.prog 37 #[.int .u64 i] w fun e w' => e = .returned (.bool (numB i)) ∧ Drawn0 w w' := parts_numbered.calls i _ w (num_of i)
theorem key_calls (s : ByteArray) (w : World) : Calls Tryz.prog 38 #[.string s] w fun e w' => e = .returned (.bool (keyB s)) ∧ Below w.heap.size w w' := name_Key.calls s _ w rfl
theorem outD {w w' : World} (h : Drawn0 w w') : Below w.heap.size w w' := by
  obtain ⟨n, rfl⟩ := h.out
  exact below_drewN _ _ _
theorem begin_fin {w w0 W : World} (l : List S40) (id : Int) (key : ByteArray) (rows : List (List Value)) (hrows : RowsOf k40 w0 l rows) (hb0 : Below w0.heap.size w0 W) (hb : Below w.heap.size w W) (base g cap : Nat)
    (ho : W.ownsRow base 40 3 (.slice (some ⟨g, 0, none⟩) (l.length + 1) cap) (l.length + 1) (rows.flatten ++ [.int .u64 id, .string key, .slice none 0 0])) (hl : l.length ≤ 10) :
    ListPost (l ++ [⟨id, key, []⟩]) [.int .i64 0] w (.returned (.tuple #[.slice (some ⟨g, 0, none⟩) (l.length + 1) cap, .int .i64 0])) W := by
  refine ⟨some ⟨g, 0, none⟩, cap, by simp, ?_, ?_, hb⟩
  · rcases ho.2 with ⟨h, _⟩ | ⟨g', cap', cur, hv, _, _, hn, _⟩
    · cases h
    · injection hv with _ _ e; subst e; simpa using hn
  · have h1 := (hrows.below hb0).append (RowsOf.one_ (⟨id, key, []⟩ : S40) [.int .u64 id, .string key, .slice none 0 0] (k40_mk W ⟨id, key, []⟩ (Nat.le_refl _) (Kd.C_nil _ _)))
    refine rows_C h1 ?_ (by simp; omega)
    have := own_raw ho
    rwa [List.flatten_append, List.flatten_cons, List.flatten_nil, List.append_nil]
set_option maxHeartbeats 8000000 in
set_option maxRecDepth 100000 in
theorem begin_ok.walk (A : Option Addr) (c : Nat) (l : List S40) (id : Int) (key : ByteArray) (w : World) (hr : Kd.C k40 w A l.length l) (hc : l.length ≤ c) (hc1 : checkB l = true) (hn1 : numB id = true) (hk1 : keyB key = true) (hla : lastB l id = false) :
    Calls Tryz.prog 18 #[.slice A l.length c, .int .u64 id, .string key] w (ListPost (if l.length = 10 then [] else l ++ [⟨id, key, []⟩]) [.int .i64 (if l.length = 10 then 6 else 0)] w) := by
  have HB0 : Hid (Below w.heap.size w w) := Below.refl _ _
  have HK := Lib.hid (check_calls hr hc)
  have HN := Lib.hid (fun W => num_calls id W)
  have HY := Lib.hid (fun W => key_calls key W)
  have FIN : Hid (∀ e w', Below w.heap.size w w' → ListPost [] [.int .i64 e] w (.returned (.tuple #[.slice none 0 0, .int .i64 e])) w') := fun e w' hb => ⟨none, 0, rfl, Nat.le_refl _, Kd.C_nil _ _, hb⟩
  have hl10 := (check_fine hc1).1
  rw [hc1] at HK; simp only [hn1] at HN; simp only [hk1] at HY
  have f2 : errOf true = 0 := rfl
  rw [f2] at HK
  have HCL : Hid (∀ W, Below w.heap.size w W → Calls Tryz.prog 27 #[.slice A l.length c] W fun e w' => ∃ v rows, e = .returned v ∧ RowsOf k40 W l rows ∧ w'.ownsRow W.heap.size 40 3 v l.length rows.flatten ∧ Below W.heap.size W w') := fun W hb => clone34_any (Kd.C_below hr hb) (by omega)
  obtain ⟨i0, hi, hy0, hy1, hy2⟩ := info_parts info40
  clear hc1 hn1 hk1 f2
  unfold lastB at hla
  simp only [Bool.and_eq_false_iff, decide_eq_false_iff_not] at hla
  by_cases h0 : 0 < l.length
  · obtain ⟨k, hk⟩ : ∃ k, l.length = k + 1 := ⟨l.length - 1, by omega⟩
    have hgd : l.getD (l.length - 1) z40 = l[k]'(by omega) := by rw [List.getD_eq_getElem?_getD, show l.length - 1 = k by omega, List.getElem?_eq_getElem (by omega)]; rfl
    rw [hgd] at hla
    obtain ⟨ad, rfl⟩ := some_of_lt hr h0
    have HAT : Hid (∀ W, Below w.heap.size w W → W.cell? (ad.add (k * 3)) = some (.int .u64 (l[k]'(by omega)).f0)) := fun W hb => by
      obtain ⟨ad', _, _, e, h0, _⟩ := at25 hr hb k (by omega)
      injection e with e; subst e; exact h0
    generalize (l[k]'(by omega)).f0 = x at *
    clear hgd
    have HR := Lib.hid hr
    clear hr
    have q1 : IntKind.i64.wrap ((l.length : Int) - 1) = (k : Int) := by rw [IntKind.wrap_i64]; omega
    have q3 : (0 : Int) ≤ (k : Int) := by omega
    have q4 : (k : Int) < (l.length : Int) := by omega
    have d1 : decide ((0 : Int) < (l.length : Int)) = true := by simp; omega
    have d2 : decide (id ≤ x) = false := by simp; omega
    have HK1 := Lib.hid hk
    by_cases h10 : l.length = 10
    · have d3 : ((l.length : Int) == 10) = true := beq_iff_eq.2 (by omega)
      rw [if_pos h10, if_pos h10]
      clear hk hla h0 h10
      go_enter Tryz.func18, Tryz.ntmps18
      go_wp2_with (first | (go_at_call 14; refine HK.out.mono ?_; rintro e w1 ⟨rfl, hb⟩; have HB1 := keepB HB0 hb; clear hb) | (go_at_call 37; refine (HN.out _).mono ?_; rintro e w2 ⟨rfl, hb⟩; have HB2 := keepB HB1 (outD hb); clear hb) | (go_at_call 38; refine (HY.out _).mono ?_; rintro e w3 ⟨rfl, hb⟩; have HB3 := keepB HB2 hb; have c0 := HAT.out _ HB3.out; clear hb))
      go_ret2
      exact FIN.out _ _ HB3.out
    · have d3 : ((l.length : Int) == 10) = false := beq_eq_false_iff_ne.2 (by omega)
      rw [if_neg h10, if_neg h10]
      clear hk hla h0 h10
      go_enter Tryz.func18, Tryz.ntmps18
      go_wp2_with (first | (go_at_call 14; refine HK.out.mono ?_; rintro e w1 ⟨rfl, hb⟩; have HB1 := keepB HB0 hb; clear hb) | (go_at_call 37; refine (HN.out _).mono ?_; rintro e w2 ⟨rfl, hb⟩; have HB2 := keepB HB1 (outD hb); clear hb) | (go_at_call 38; refine (HY.out _).mono ?_; rintro e w3 ⟨rfl, hb⟩; have HB3 := keepB HB2 hb; have c0 := HAT.out _ HB3.out; clear hb) | (go_at_call 27; refine (HCL.out _ (outB HB3)).mono ?_; rintro e w4 ⟨v1, rows, rfl, hrows, hown, hb4⟩; have HROWS := Lib.hid hrows; have HX4 := Lib.hid hb4; have HO4 := Lib.hid hown; have HS4 := Lib.hid hb4.size; clear hrows hown hb4) | (at_builtin; refine wpList_append_lies _ rfl _ _ 22 rfl w3.heap.size 40 i0 (.agg #[(.int .u64 0), (.string ⟨#[]⟩), (.slice none 0 0)]) 3 48 Tryz.underlying22 hi hy0 hy1 hy2 rfl (by decide) _ _ _ rfl (HO4.out.alloc _) ⟨w4.heap.size, 0, none⟩ 1 1 [.int .u64 id, .string key, .slice none 0 0] rfl rfl ?c1 ?c2 (by decide) ?c3 ?c4 ?c5 _ rfl ?_))
      case c1 => exact World.news_of_block (blk_new w4 _)
      case c2 => exact (by intro u hu; simp at hu; rcases hu with rfl | rfl | rfl <;> rfl)
      case c3 => unfold maxLen; omega
      case c4 => omega
      case c5 => have := HS4.out; simp; omega
      intro g cap w5 hown' hgrow _ _
      have HX5 := Lib.hid ((HX4.out.alloc HX4.out.size (.cells #[.int .u64 id, .string key, .slice none 0 0] 40)).grown hgrow (by have := HX4.out.size; simp; omega) (fun q hq => own_base HO4.out q hq))
      have HO5 := Lib.hid hown'
      clear hown' hgrow
      go_wp2
      go_ret2
      exact begin_fin l id key rows HROWS.out HX5.out (keepB HB3 HX5.out).out _ g cap HO5.out hl10
  · obtain rfl : l = [] := List.length_eq_zero_iff.1 (by omega)
    have HR := Lib.hid hr
    rw [if_neg (by decide), if_neg (by decide)]
    clear hla h0 hr
    simp only [List.length_nil] at *
    go_enter Tryz.func18, Tryz.ntmps18
    go_wp2_with (first | (go_at_call 14; refine HK.out.mono ?_; rintro e w1 ⟨rfl, hb⟩; have HB1 := keepB HB0 hb; clear hb) | (go_at_call 37; refine (HN.out _).mono ?_; rintro e w2 ⟨rfl, hb⟩; have HB2 := keepB HB1 (outD hb); clear hb) | (go_at_call 38; refine (HY.out _).mono ?_; rintro e w3 ⟨rfl, hb⟩; have HB3 := keepB HB2 hb;  clear hb) | (go_at_call 27; refine (HCL.out _ (outB HB3)).mono ?_; rintro e w4 ⟨v1, rows, rfl, hrows, hown, hb4⟩; have HROWS := Lib.hid hrows; have HX4 := Lib.hid hb4; have HO4 := Lib.hid hown; have HS4 := Lib.hid hb4.size; clear hrows hown hb4) | (at_builtin; refine wpList_append_lies _ rfl _ _ 22 rfl w3.heap.size 40 i0 (.agg #[(.int .u64 0), (.string ⟨#[]⟩), (.slice none 0 0)]) 3 48 Tryz.underlying22 hi hy0 hy1 hy2 rfl (by decide) _ _ _ rfl (HO4.out.alloc _) ⟨w4.heap.size, 0, none⟩ 1 1 [.int .u64 id, .string key, .slice none 0 0] rfl rfl ?c1 ?c2 (by decide) ?c3 ?c4 ?c5 _ rfl ?_))
    case c1 => exact World.news_of_block (blk_new w4 _)
    case c2 => exact (by intro u hu; simp at hu; rcases hu with rfl | rfl | rfl <;> rfl)
    case c3 => unfold maxLen; omega
    case c4 => omega
    case c5 => have := HS4.out; simp; omega
    intro g cap w5 hown' hgrow _ _
    have HX5 := Lib.hid ((HX4.out.alloc HX4.out.size (.cells #[.int .u64 id, .string key, .slice none 0 0] 40)).grown hgrow (by have := HX4.out.size; simp; omega) (fun q hq => own_base HO4.out q hq))
    have HO5 := Lib.hid hown'
    clear hown' hgrow
    go_wp2
    go_ret2
    exact begin_fin [] id key rows HROWS.out HX5.out (keepB HB3 HX5.out).out _ g cap HO5.out (by decide)
set_option maxHeartbeats 8000000 in
set_option maxRecDepth 100000 in
theorem begin.walk (A : Option Addr) (c : Nat) (l : List S40) (id : Int) (key : ByteArray) (w : World) (hr : Kd.C k40 w A l.length l) (hc : l.length ≤ c) :
    Calls Tryz.prog 18 #[.slice A l.length c, .int .u64 id, .string key] w (ListPost (beginR l id key).1 [.int .i64 (beginR l id key).2] w) := by
  have HB0 : Hid (Below w.heap.size w w) := Below.refl _ _
  have HK := Lib.hid (check_calls hr hc)
  have HN := Lib.hid (fun W => num_calls id W)
  have HY := Lib.hid (fun W => key_calls key W)
  have FIN : Hid (∀ e w', Below w.heap.size w w' → ListPost [] [.int .i64 e] w (.returned (.tuple #[.slice none 0 0, .int .i64 e])) w') := fun e w' hb => ⟨none, 0, rfl, Nat.le_refl _, Kd.C_nil _ _, hb⟩
  by_cases hbad : checkB l = false ∨ numB id = false ∨ keyB key = false
  · have e : beginR l id key = ([], 1) := by unfold beginR; rw [if_pos hbad]
    rw [e]
    clear e
    cases h1 : checkB l <;> cases h2 : numB id <;> cases h3 : keyB key
    all_goals first
      | (exfalso; simp [h1, h2, h3] at hbad; done)
      | skip
    all_goals
      rw [h1] at HK
      simp only [h2] at HN
      simp only [h3] at HY
      have f1 : errOf false = 1 := rfl
      have f2 : errOf true = 0 := rfl
      first | rw [f1] at HK | rw [f2] at HK
      clear hbad h1 h2 h3 f1 f2
      go_enter Tryz.func18, Tryz.ntmps18
      go_wp2_with (first | (go_at_call 14; refine HK.out.mono ?_; rintro e w1 ⟨rfl, hb⟩; have HB1 := keepB HB0 hb; clear hb) | (go_at_call 37; refine (HN.out _).mono ?_; rintro e w2 ⟨rfl, hb⟩; have HB1 := keepB HB1 (outD hb); clear hb) | (go_at_call 38; refine (HY.out _).mono ?_; rintro e w3 ⟨rfl, hb⟩; have HB1 := keepB HB1 hb; clear hb))
      go_ret2
      exact FIN.out _ _ HB1.out
  · have hc1 : checkB l = true := by cases h : checkB l <;> simp_all
    have hn1 : numB id = true := by cases h : numB id <;> simp_all
    have hk1 : keyB key = true := by cases h : keyB key <;> simp_all
    rw [hc1] at HK; simp only [hn1] at HN; simp only [hk1] at HY
    have f2 : errOf true = 0 := rfl
    rw [f2] at HK
    have hl10 := (check_fine hc1).1
    have E : Hid (beginR l id key = if lastB l id = true then ([], 9) else if l.length = 10 then ([], 6) else (l ++ [⟨id, key, []⟩], 0)) := by unfold Hid beginR; rw [if_neg hbad]
    have CHK := hc1; have NUMB := hn1; have KEYB := hk1
    clear hbad hc1 hn1 hk1 f2
    cases hla : lastB l id
    · rw [if_neg (by simp [hla])] at E
      rw [E.out]
      have := begin_ok.walk A c l id key w hr hc CHK NUMB KEYB hla
      by_cases h10 : l.length = 10
      · rw [if_pos h10]; rwa [if_pos h10, if_pos h10] at this
      · rw [if_neg h10]; rwa [if_neg h10, if_neg h10] at this
    · rw [if_pos hla] at E
      unfold lastB at hla
      simp only [Bool.and_eq_true, decide_eq_true_eq] at hla
      obtain ⟨h0, hle⟩ := hla
      obtain ⟨k, hk⟩ : ∃ k, l.length = k + 1 := ⟨l.length - 1, by omega⟩
      have hgd : l.getD (l.length - 1) z40 = l[k]'(by omega) := by rw [List.getD_eq_getElem?_getD, show l.length - 1 = k by omega, List.getElem?_eq_getElem (by omega)]; rfl
      rw [hgd] at hle
      obtain ⟨ad, rfl⟩ := some_of_lt hr h0
      have HAT : Hid (∀ W, Below w.heap.size w W → W.cell? (ad.add (k * 3)) = some (.int .u64 (l[k]'(by omega)).f0)) := fun W hb => by
        obtain ⟨ad', _, _, e, h0, _⟩ := at25 hr hb k (by omega)
        injection e with e; subst e; exact h0
      generalize (l[k]'(by omega)).f0 = x at *
      clear CHK NUMB KEYB
      clear hr hgd
      have q1 : IntKind.i64.wrap ((l.length : Int) - 1) = (k : Int) := by rw [IntKind.wrap_i64]; omega
      have q3 : (0 : Int) ≤ (k : Int) := by omega
      have q4 : (k : Int) < (l.length : Int) := by omega
      have d1 : decide ((0 : Int) < (l.length : Int)) = true := by simp; omega
      have d2 : decide (id ≤ x) = true := by simp; omega
      have HK1 := Lib.hid hk
      have HLE := Lib.hid hle
      clear hk hle h0
      go_enter Tryz.func18, Tryz.ntmps18
      go_wp2_with (first | (go_at_call 14; refine HK.out.mono ?_; rintro e w1 ⟨rfl, hb⟩; have HB1 := keepB HB0 hb; clear hb) | (go_at_call 37; refine (HN.out _).mono ?_; rintro e w2 ⟨rfl, hb⟩; have HB2 := keepB HB1 (outD hb); clear hb) | (go_at_call 38; refine (HY.out _).mono ?_; rintro e w3 ⟨rfl, hb⟩; have HB3 := keepB HB2 hb; have c0 := HAT.out _ HB3.out; clear hb))
      go_ret2
      rw [E.out]
      exact FIN.out _ _ HB3.out
end Go.Proofs.YtgpmkbmobdbdoaaGreatDoor.Q

-- T29
namespace Go.Proofs.YtgpmkbmobdbdoaaGreatDoor.Q
open Go.RowKit Go.Proofs.YtgpmkbmobdbdoaaGreatDoorW.PrintWords Go.Proofs.YtgpmkbmobdbdoaaGreatDoorW.PrintLast Go.Proofs.YtgpmkbmobdbdoaaGreatDoorW.PrintMore
set_option linter.unusedVariables false
set_option linter.unusedSimpArgs false

/-! slices.Delete of one upload out of a row of the call's own. -/
def z25v : Value := .agg #[(.int .u64 0), (.string ⟨#[]⟩), (.slice none 0 0)]
def z25L (n : Nat) : List Value := (Builtin.zeroCells z25v.cells n).toList
theorem z40_one (n : Nat) : ∀ v ∈ z25L n, v.oneCell' = true := zero_one (by simp [z25v, Value.cells, Value.oneCell']) (by decide) n
theorem z40_len (n : Nat) : (z25L n).length = n * 3 := by unfold z25L; rw [Array.length_toList, size_zeroCells]; rfl
def delAt (xs : List Value) (i : Nat) : List Value := xs.take (i * 3) ++ xs.drop ((i + 1) * 3)
def DelPost (base n i : Nat) (v : Value) (xs : List Value) (w : World) (e : Ending) (w' : World) : Prop :=
  ∃ v', e = .returned v' ∧ w'.ownsRow base 40 3 v' (n - 1) (delAt xs i) ∧ w.grownBy w' v.ownBlock
set_option maxHeartbeats 8000000 in
set_option maxRecDepth 100000 in
theorem delete.walk (base n i : Nat) (v : Value) (xs : List Value) (w : World) (hown : w.ownsRow base 40 3 v n xs) (hi : i < n) (hn : n ≤ 1000) (h1 : ∀ u ∈ xs, u.oneCell' = true) :
    Calls Tryz.prog 33 #[v, .int .i64 i, .int .i64 ((i : Int) + 1)] w (DelPost base n i v xs w) := by
  obtain ⟨hx, hv⟩ := hown
  rcases hv with ⟨_, h0⟩ | ⟨g, cap, cur, rfl, hb, hg, hcap, hmx, hsz, htk⟩
  · omega
  obtain ⟨i0, hi0, hy0, hy1, hy2⟩ := info_parts info40
  have HG := Lib.hid hg; clear hg
  have HX := Lib.hid hx; have HT := Lib.hid htk; have HSZ := Lib.hid hsz; have HMX := Lib.hid hmx
  unfold maxLen at hmx
  have l0 : (xs.take (i * 3)).length = i * 3 := by rw [List.length_take, hx]; omega
  have l1 : (xs.drop ((i + 1) * 3)).length = (n - (i + 1)) * 3 := by rw [List.length_drop, hx]; omega
  have HO0 : Hid (w.drew.ownsRow base 40 3 (.slice (some ⟨g, 0, none⟩) i cap) i (xs.take (i * 3))) := by
    refine ⟨l0, Or.inr ⟨g, cap, cur, rfl, hb, HG.out, by omega, HMX.out, hsz, ?_⟩⟩
    rw [← htk, List.take_take, Nat.min_eq_left (by omega)]
  have HD : Hid (∀ (j : Nat) (u : Value), (xs.drop ((i + 1) * 3))[j]? = some u → w.drew.cell? ((⟨g, (i + 1) * 3, none⟩ : Addr).add j) = some u) := fun j u hu => by
    rw [add_at]
    show w.cell? _ = _
    rw [blk_cell HG.out]
    rw [List.getElem?_drop, ← htk, List.getElem?_take] at hu
    split at hu
    · simpa using hu
    · cases hu
  have HL1 := Lib.hid l1
  have HONE : Hid (∀ u ∈ xs.drop ((i + 1) * 3), u.oneCell' = true) := fun u hu => h1 u (List.mem_of_mem_drop hu)
  have HONE1 := Lib.hid h1
  clear l0 l1 hx htk hsz hmx h1
  have d0 : (0 : Int) ≤ (i : Int) := by omega
  have d1 : (i : Int) ≤ (i : Int) + 1 := by omega
  have d2 : (i : Int) + 1 ≤ (n : Int) := by omega
  have d3 : (n : Int) ≤ (cap : Int) := by omega
  have d4 : ((i : Int) == (i : Int) + 1) = false := beq_eq_false_iff_ne.2 (by omega)
  have d5 : (i : Int) ≤ (cap : Int) := by omega
  have d6 : (i : Int) + 1 ≤ (cap : Int) := by omega
  have d7 : (0 : Int) ≤ (i : Int) + 1 := by omega
  have q2 : ((i : Int) + 1).toNat = i + 1 := by omega
  go_enter Tryz.func33, Tryz.ntmps33
  go_wp2_with fail
  go_still_tail 6, (by kernel_rfl)
  change wpList _ _ _ _ _ w.drew
  have END : Hid (∀ (w2 : World), w2.ownsRow base 40 3 (.slice (some ⟨g, 0, none⟩) (n - 1) cap) (n - 1) (delAt xs i) → w.grownBy w2 (some g) → ∃ cur2, w2.heap[g]? = some (.cells cur2 40 (0, 0)) ∧ (n - 1) * 3 + 1 * 3 ≤ cur2.size ∧
      ∀ w3, w3 = w2.setRow g (splice cur2.toList ((n - 1) * 3) (z25L 1)).toArray → w3.ownsRow base 40 3 (.slice (some ⟨g, 0, none⟩) (n - 1) cap) (n - 1) (delAt xs i) ∧ w.grownBy w3 (some g)) := by
    intro w2 ho hgr
    obtain ⟨hlx, hc⟩ := ho
    rcases hc with ⟨e, _⟩ | ⟨g', cap', cur2, e, hb', hg', hcap', hmx', hsz', htk'⟩
    · cases e
    · injection e with e1 e2 e3
      injection e1 with e1
      injection e1 with e1 _ _
      subst e1 e3
      refine ⟨cur2, hg', by omega, fun w3 hw3 => ?_⟩
      have hsp : (splice cur2.toList ((n - 1) * 3) (z25L 1)).length = cap * 3 := by
        rw [length_splice _ _ _ (by rw [z40_len, Array.length_toList]; omega), Array.length_toList]; exact hsz'
      refine ⟨⟨hlx, Or.inr ⟨g, cap, _, rfl, hb, by rw [hw3]; exact setRow_heap _ _ _ _ _ _ hg', by omega, HMX.out, by rw [List.size_toArray]; exact hsp, ?_⟩⟩, ?_⟩
      · rw [← htk']
        show (splice cur2.toList ((n - 1) * 3) (z25L 1)).take ((n - 1) * 3) = _
        unfold splice
        rw [List.take_left' (by rw [List.length_take, Array.length_toList]; omega)]
      · rw [hw3]
        exact ⟨hgr.os, hgr.tape, hgr.output, by simpa [World.setRow] using hgr.size, fun k hk hne => (setRow_other _ _ _ _ (fun e => hne (by rw [e]))).trans (hgr.block k hk hne)⟩
  have hm : Hid (i + (n - (i + 1)) = n - 1) := by unfold Hid; omega
  obtain ⟨ad, had, hcells⟩ : ∃ ad, Hid ((if cap = i + 1 then some (⟨g, 0, none⟩ : Addr) else some ⟨g, (i + 1) * 3, none⟩) = some ad) ∧ Hid (∀ (j : Nat) (u : Value), (xs.drop ((i + 1) * 3))[j]? = some u → w.drew.cell? (ad.add j) = some u) := by
    by_cases hcp : cap = i + 1
    · refine ⟨⟨g, 0, none⟩, if_pos hcp, fun j u hu => ?_⟩
      rw [List.drop_eq_nil_of_le (by rw [HX.out]; omega)] at hu
      simp at hu
    · exact ⟨⟨g, (i + 1) * 3, none⟩, if_neg hcp, HD.out⟩
  have hroom : i + (n - (i + 1)) ≤ cap := by omega
  rw [had.out]
  refine wpList_append_own_spare _ rfl (.tmp 22) (.tmp 25) 22 rfl base 40 i0 3 Tryz.underlying22 hi0 hy1 g i cap (xs.take (i * 3)) rfl HO0.out ad (n - (i + 1)) (cap - (i + 1)) (xs.drop ((i + 1) * 3)) rfl HL1.out hcells.out HONE.out hroom ?_
  rw [hm.out]
  intro w2 ho2 hg2
  obtain ⟨cur2, hc2, hfit, hend⟩ := END.out w2 ho2 ((show w.grownBy w2 (some g) from ⟨hg2.os, hg2.tape, hg2.output, hg2.size, hg2.block⟩))
  have HC2 := Lib.hid hc2; have HF := Lib.hid hfit; have HEND := Lib.hid hend
  clear ho2 hg2 hc2 hfit hend hcells had HD
  obtain ⟨m, hnm⟩ : ∃ m, n = m + 1 := ⟨n - 1, by omega⟩
  subst hnm
  simp only [Nat.add_sub_cancel] at *
  have e0 : ¬ cap = m := by omega
  have e1 : (m : Int) ≤ (m : Int) + 1 := by omega
  have e2 : (m : Int) + 1 ≤ (cap : Int) := by omega
  have e3 : (0 : Int) ≤ (m : Int) := by omega
  have e4 : (m : Int) ≤ (cap : Int) := by omega
  clear q2
  have HZ1 := Lib.hid (z40_one 1)
  go_wp2_with fail
  rw [run_clear_cells w2 22 0 40 i0 z25v Tryz.underlying22 hi0 hy0 g (m * 3) 1 (cap - m) cur2 40 HC2.out (by decide) HF.out HZ1.out]
  obtain ⟨w3, hw3⟩ : ∃ w3, Hid (w3 = w2.setRow g (splice cur2.toList (m * 3) (z25L 1)).toArray) := ⟨_, rfl⟩
  rw [show (Builtin.zeroCells z25v.cells 1).toList = z25L 1 from rfl, ← hw3.out]
  go_wp2_with fail
  go_ret
  obtain ⟨r1, r2⟩ := HEND.out w3 hw3.out
  exact ⟨_, rfl, r1, r2⟩
end Go.Proofs.YtgpmkbmobdbdoaaGreatDoor.Q

-- T30
namespace Go.Proofs.YtgpmkbmobdbdoaaGreatDoor.Q
open Go.RowKit Go.Proofs.YtgpmkbmobdbdoaaGreatDoorW.PrintWords Go.Proofs.YtgpmkbmobdbdoaaGreatDoorW.PrintLast Go.Proofs.YtgpmkbmobdbdoaaGreatDoorW.PrintMore
set_option linter.unusedVariables false
set_option linter.unusedSimpArgs false

/-! parts.Abort. -/
def delL {α : Type} (l : List α) (i : Nat) : List α := l.take i ++ l.drop (i + 1)
def abortR (l : List S40) (id : Int) : List S40 × Int :=
  if checkB l = false then ([], 1) else match posU l id with | none => ([], 4) | some i => (delL l i, 0)
theorem flat_del {rows : List (List Value)} (h : ∀ c ∈ rows, c.length = 3) (i : Nat) : delAt rows.flatten i = (delL rows i).flatten := by
  have tk : ∀ (rs : List (List Value)), (∀ c ∈ rs, c.length = 3) → ∀ j, rs.flatten.take (j * 3) = (rs.take j).flatten ∧ rs.flatten.drop (j * 3) = (rs.drop j).flatten := by
    intro rs
    induction rs with
    | nil => intro _ j; simp
    | cons c rs ih =>
      intro hc j
      have h3 := hc c List.mem_cons_self
      cases j with
      | zero => simp
      | succ j =>
        obtain ⟨i1, i2⟩ := ih (fun x hx => hc x (List.mem_cons_of_mem _ hx)) j
        rw [List.flatten_cons, List.take_succ_cons, List.drop_succ_cons, List.flatten_cons, ← i1, ← i2]
        constructor
        · rw [List.take_append, List.take_of_length_le (by omega), show (j + 1) * 3 - c.length = j * 3 by omega]
        · rw [List.drop_append, List.drop_eq_nil_of_le (by omega), List.nil_append, show (j + 1) * 3 - c.length = j * 3 by omega]
  unfold delAt delL
  rw [(tk rows h i).1, (tk rows h (i + 1)).2, List.flatten_append]
theorem own_list {W w' : World} {l : List S40} {rows : List (List Value)} {base n : Nat} {v : Value} (hrows : RowsOf k40 W l rows) (hb : Below W.heap.size W w') (ho : w'.ownsRow base 40 3 v n rows.flatten) (hn : n = l.length) (hl : l.length ≤ 1000000) :
    ∃ A c, v = .slice A l.length c ∧ l.length ≤ c ∧ Kd.C k40 w' A l.length l := by
  subst hn
  rcases ho.2 with ⟨rfl, h0⟩ | ⟨g, cap, cur, rfl, _, hg, hcap, _, _, htk⟩
  · have : l = [] := List.length_eq_zero_iff.1 h0
    subst this
    exact ⟨none, 0, rfl, Nat.le_refl _, Kd.C_nil _ _⟩
  · exact ⟨_, cap, rfl, hcap, rows_C (hrows.below hb) (blk_raw hg _ htk) (by omega)⟩
theorem delL_len {α : Type} (l : List α) (i : Nat) (h : i < l.length) : (delL l i).length = l.length - 1 := by
  unfold delL; rw [List.length_append, List.length_take, List.length_drop]; omega
set_option maxHeartbeats 4000000 in
set_option maxRecDepth 100000 in
theorem abort.walk (A : Option Addr) (c : Nat) (l : List S40) (id : Int) (w : World) (hr : Kd.C k40 w A l.length l) (hc : l.length ≤ c) :
    Calls Tryz.prog 9 #[.slice A l.length c, .int .u64 id] w (ListPost (abortR l id).1 [.int .i64 (abortR l id).2] w) := by
  have HB0 : Hid (Below w.heap.size w w) := Below.refl _ _
  have HP := Lib.hid (place.walk A c l id w hr hc)
  have FIN : Hid (∀ e w', Below w.heap.size w w' → ListPost [] [.int .i64 e] w (.returned (.tuple #[.slice none 0 0, .int .i64 e])) w') := fun e w' hb => ⟨none, 0, rfl, Nat.le_refl _, Kd.C_nil _ _, hb⟩
  have hbad : ∀ e : Int, e ≠ 0 → placeR l id = (0, e) → Calls Tryz.prog 9 #[.slice A l.length c, .int .u64 id] w (ListPost [] [.int .i64 e] w) := by
    intro e he hp
    rw [hp] at HP
    have hd : (e != 0) = true := by simpa using he
    clear hr hp he
    go_enter Tryz.func9, Tryz.ntmps9
    go_wp2_with (go_at_call 23; refine HP.out.mono ?_; rintro x w1 ⟨rfl, hb⟩; have HB1 := Lib.hid hb; clear hb)
    go_ret2
    exact FIN.out _ _ HB1.out
  cases hk : checkB l
  · have e1 : abortR l id = ([], 1) := by unfold abortR; rw [if_pos hk]
    rw [e1]
    exact hbad 1 (by decide) (by unfold placeR; rw [if_pos hk])
  · cases hp : posU l id with
    | none =>
      have e1 : abortR l id = ([], 4) := by unfold abortR; rw [if_neg (by rw [hk]; simp), hp]
      rw [e1]
      exact hbad 4 (by decide) (by unfold placeR; rw [if_neg (by rw [hk]; simp), hp])
    | some i =>
      have e1 : abortR l id = (delL l i, 0) := by unfold abortR; rw [if_neg (by rw [hk]; simp), hp]
      have e2 : placeR l id = ((i : Int), 0) := by unfold placeR; rw [if_neg (by rw [hk]; simp), hp]
      rw [e1]
      rw [e2] at HP
      obtain ⟨hi, _⟩ := posU_lt hp
      have hl10 := (check_fine hk).1
      have HCL : Hid (∀ W, Below w.heap.size w W → Calls Tryz.prog 27 #[.slice A l.length c] W fun e w' => ∃ v rows, e = .returned v ∧ RowsOf k40 W l rows ∧ w'.ownsRow W.heap.size 40 3 v l.length rows.flatten ∧ Below W.heap.size W w') := fun W hb => clone34_any (Kd.C_below hr hb) (by omega)
      clear hbad hk hp e1 e2 hr
      have q1 : IntKind.i64.wrap ((i : Int) + 1) = (i : Int) + 1 := by rw [IntKind.wrap_i64]; omega
      go_enter Tryz.func9, Tryz.ntmps9
      go_wp2_with (first
        | (go_at_call 23; refine HP.out.mono ?_; rintro x w1 ⟨rfl, hb⟩; have HB1 := Lib.hid hb; clear hb)
        | (go_at_call 27; refine (HCL.out _ HB1.out).mono ?_; rintro e w4 ⟨v1, rows, rfl, hrows, hown, hb4⟩; have HROWS := Lib.hid hrows; have HX4 := Lib.hid hb4; have HO4 := Lib.hid hown; clear hrows hown hb4)
        | (go_at_call 33; refine (delete.walk _ _ i _ _ _ HO4.out hi (by omega) HROWS.out.one).mono ?_; rintro e w5 ⟨v2, rfl, ho5, hg5⟩; have HO5 := Lib.hid ho5; have HG5 := Lib.hid hg5; clear ho5 hg5))
      have HX5 := HX4.out.grown HG5.out HX4.out.size (fun q hq => own_base HO4.out q hq)
      have ho := HO5.out
      rw [flat_del HROWS.out.lens] at ho
      have hrows2 : RowsOf k40 w1 (delL l i) (delL rows i) := (HROWS.out.take i).append (HROWS.out.drop (i + 1))
      obtain ⟨A2, c2, rfl, h2, h3⟩ := own_list hrows2 HX5 ho (delL_len l i hi).symm (by rw [delL_len l i hi]; omega)
      go_ret2
      exact ⟨A2, c2, rfl, h2, h3, HB1.out.trans (HX5.mono HB1.out.size)⟩
end Go.Proofs.YtgpmkbmobdbdoaaGreatDoor.Q

-- P5
namespace Go.Proofs.YtgpmkbmobdbdoaaGreatDoor.Q
open Go.RowKit Go.Proofs.YtgpmkbmobdbdoaaGreatDoorW.PrintWords Go.Proofs.YtgpmkbmobdbdoaaGreatDoorW.PrintLast Go.Proofs.YtgpmkbmobdbdoaaGreatDoorW.PrintMore
set_option linter.unusedVariables false
set_option linter.unusedSimpArgs false

/-! The tag by a table is the tag bit by bit. -/
theorem wrap32 (n : Int) : IntKind.u32.wrap n = n % 4294967296 := by simp [IntKind.wrap, IntKind.bits, IntKind.signed]
theorem wrap8 (n : Int) : IntKind.u8.wrap n = n % 256 := by simp [IntKind.wrap, IntKind.bits, IntKind.signed]
theorem of32 (a : Nat) (h : a < 4294967296) : (BitVec.ofInt 32 (a : Int)).toNat = a := by
  rw [BitVec.ofInt_natCast, BitVec.toNat_ofNat]; exact Nat.mod_eq_of_lt (by omega)
theorem of8 (a : Nat) (h : a < 256) : (BitVec.ofInt 8 (a : Int)).toNat = a := by
  rw [BitVec.ofInt_natCast, BitVec.toNat_ofNat]; exact Nat.mod_eq_of_lt (by omega)
theorem xor32 (a b : Nat) (ha : a < 4294967296) (hb : b < 4294967296) : bits .xor .u32 (a : Int) (b : Int) = ((a ^^^ b : Nat) : Int) ∧ a ^^^ b < 4294967296 := by
  have hx : a ^^^ b < 2 ^ 32 := Nat.xor_lt_two_pow (by omega) (by omega)
  refine ⟨?_, by omega⟩
  show IntKind.u32.wrap ((BitVec.ofInt 32 (a : Int) ^^^ BitVec.ofInt 32 (b : Int)).toNat : Int) = _
  rw [BitVec.toNat_xor, of32 a ha, of32 b hb, wrap32]
  omega
theorem xor8 (a b : Nat) (ha : a < 256) (hb : b < 256) : bits .xor .u8 (a : Int) (b : Int) = ((a ^^^ b : Nat) : Int) ∧ a ^^^ b < 256 := by
  have hx : a ^^^ b < 2 ^ 8 := Nat.xor_lt_two_pow (by omega) (by omega)
  refine ⟨?_, by omega⟩
  show IntKind.u8.wrap ((BitVec.ofInt 8 (a : Int) ^^^ BitVec.ofInt 8 (b : Int)).toNat : Int) = _
  rw [BitVec.toNat_xor, of8 a ha, of8 b hb, wrap8]
  omega
theorem and32 (a : Nat) (ha : a < 4294967296) : bits .and .u32 (a : Int) 1 = ((a % 2 : Nat) : Int) := by
  show IntKind.u32.wrap ((BitVec.ofInt 32 (a : Int) &&& BitVec.ofInt 32 ((1 : Nat) : Int)).toNat : Int) = _
  rw [BitVec.toNat_and, of32 a ha, of32 1 (by omega), wrap32, Nat.and_one_is_mod]
  omega
def nstep (c : Nat) : Nat := c / 2 ^^^ (if c % 2 = 1 then 2197175160 else 0)
theorem nstep_lt (c : Nat) (h : c < 4294967296) : nstep c < 4294967296 := by
  have : nstep c < 2 ^ 32 := Nat.xor_lt_two_pow (by omega) (by split <;> omega)
  omega
theorem tone_nat (c : Nat) (h : c < 4294967296) : tone (c : Int) = (nstep c : Int) := by
  unfold tone nstep
  rw [and32 c h, show ((c : Int) / 2) = ((c / 2 : Nat) : Int) by omega]
  by_cases hc : c % 2 = 1
  · rw [hc, if_pos rfl]
    exact (xor32 (c / 2) 2197175160 (by omega) (by omega)).1
  · rw [show c % 2 = 0 by omega, if_neg (by decide)]
    exact (xor32 (c / 2) 0 (by omega) (by omega)).1
def ntimes : Nat → Nat → Nat
  | 0, x => x
  | m + 1, x => nstep (ntimes m x)
theorem ntimes_lt (m c : Nat) (h : c < 4294967296) : ntimes m c < 4294967296 := by
  induction m with
  | zero => exact h
  | succ m ih => exact nstep_lt _ ih
theorem ttimes_nat (m c : Nat) (h : c < 4294967296) : ttimes m (c : Int) = (ntimes m c : Int) := by
  induction m with
  | zero => rfl
  | succ m ih =>
    show tone (ttimes m c) = _
    rw [ih]; exact tone_nat _ (ntimes_lt m c h)
theorem nstep_xor (a b : Nat) : nstep (a ^^^ b) = nstep a ^^^ nstep b := by
  unfold nstep
  have h1 : (a ^^^ b) / 2 = a / 2 ^^^ b / 2 := Nat.xor_div_two
  have h2 : (a ^^^ b) % 2 = (a % 2 ^^^ b % 2) % 2 := by
    have := Nat.xor_mod_two_pow (a := a) (b := b) (n := 1)
    have e : (a % 2 ^^^ b % 2) < 2 := by
      have : a % 2 ^^^ b % 2 < 2 ^ 1 := Nat.xor_lt_two_pow (by omega) (by omega)
      omega
    rw [Nat.mod_eq_of_lt e]; simpa using this
  rw [h1, h2]
  have ha : a % 2 = 0 ∨ a % 2 = 1 := by omega
  have hb : b % 2 = 0 ∨ b % 2 = 1 := by omega
  generalize a / 2 = p
  generalize b / 2 = q
  rcases ha with ha | ha <;> rcases hb with hb | hb <;> rw [ha, hb]
  · simp
  · simp [Nat.xor_assoc]
  · simp only [show (1 ^^^ 0) % 2 = 1 from rfl, if_true]
    rw [Nat.xor_assoc, Nat.xor_assoc, Nat.xor_comm q]; simp
  · simp only [show (1 ^^^ 1) % 2 = 0 from rfl, if_true]
    rw [if_neg (by decide), Nat.xor_zero, Nat.xor_assoc, ← Nat.xor_assoc 2197175160 q, Nat.xor_comm 2197175160 q, Nat.xor_assoc q, Nat.xor_self, Nat.xor_zero]
theorem ntimes_xor (m a b : Nat) : ntimes m (a ^^^ b) = ntimes m a ^^^ ntimes m b := by
  induction m with
  | zero => rfl
  | succ m ih => show nstep (ntimes m (a ^^^ b)) = _; rw [ih, nstep_xor]; rfl
theorem nstep_even (z : Nat) : nstep (2 * z) = z := by
  unfold nstep
  rw [show 2 * z / 2 = z by omega, if_neg (by omega), Nat.xor_zero]
theorem ntimes_high (m z : Nat) : ntimes m (z * 2 ^ m) = z := by
  induction m generalizing z with
  | zero => simp [ntimes]
  | succ m ih =>
    show nstep (ntimes m (z * 2 ^ (m + 1))) = z
    rw [show z * 2 ^ (m + 1) = (2 * z) * 2 ^ m by rw [Nat.pow_succ]; ac_rfl, ih, nstep_even]
theorem split256 (y : Nat) : y = (y / 256 * 2 ^ 8) ^^^ (y % 256) := by
  apply Nat.eq_of_testBit_eq
  intro i
  rw [Nat.testBit_xor, Nat.testBit_mul_two_pow, show (256 : Nat) = 2 ^ 8 from rfl, Nat.testBit_div_two_pow, Nat.testBit_mod_two_pow]
  by_cases h : i < 8
  · rw [decide_eq_true h, decide_eq_false (show ¬ i ≥ 8 by omega)]; simp
  · rw [decide_eq_false h, decide_eq_true (show i ≥ 8 by omega), show i - 8 + 8 = i by omega]; simp
theorem ntimes8 (y : Nat) : ntimes 8 y = ntimes 8 (y % 256) ^^^ (y / 256) := by
  conv => lhs; rw [split256 y, ntimes_xor, ntimes_high]
  exact Nat.xor_comm _ _
/-- One octet: the register bit by bit. -/
def nbyte (c x : Nat) : Nat := ntimes 8 (c ^^^ x)
theorem nbyte_lt (c x : Nat) (h : c < 4294967296) (hx : x < 256) : nbyte c x < 4294967296 := ntimes_lt 8 _ (xor32 c x h (by omega)).2
theorem tagStep_nat (c x : Nat) (h : c < 4294967296) (hx : x < 256) : tagStep (c : Int) (x : Int) = (nbyte c x : Int) := by
  have h8 := xor8 (c % 256) x (by omega) hx
  have hmod : (c ^^^ x) % 256 = c % 256 ^^^ x := by
    have := Nat.xor_mod_two_pow (a := c) (b := x) (n := 8)
    rw [show (2 : Nat) ^ 8 = 256 from rfl, Nat.mod_eq_of_lt hx] at this
    exact this
  have hdiv : (c ^^^ x) / 256 = c / 256 := by
    have := Nat.xor_div_two_pow (a := c) (b := x) (n := 8)
    rw [show (2 : Nat) ^ 8 = 256 from rfl, Nat.div_eq_of_lt hx, Nat.xor_zero] at this
    exact this
  unfold tagStep nbyte
  rw [show (c : Int) % 256 = ((c % 256 : Nat) : Int) by omega, h8.1, Int.toNat_natCast, show (c : Int) / 256 = ((c / 256 : Nat) : Int) by omega, ntimes8, hmod, hdiv]
  unfold tab
  rw [ttimes_nat 8 _ (by omega)]
  exact (xor32 _ _ (ntimes_lt 8 _ (by omega)) (by omega)).1
def nrun (c : Nat) (l : List UInt8) : Nat := l.foldl (fun c x => nbyte c x.toNat) c
theorem tagRun_nat (l : List UInt8) (c : Nat) (h : c < 4294967296) : tagRun (c : Int) l = (nrun c l : Int) ∧ nrun c l < 4294967296 := by
  induction l generalizing c with
  | nil => exact ⟨rfl, h⟩
  | cons x l ih =>
    have hx : x.toNat < 256 := x.toNat_lt
    have := ih (nbyte c x.toNat) (nbyte_lt c _ h hx)
    refine ⟨?_, this.2⟩
    show tagRun (tagStep (c : Int) (x.toNat : Int)) l = _
    rw [tagStep_nat c _ h hx]
    exact this.1
theorem not32 (t : Nat) (h : t < 4294967296) : tagNot (t : Int) = ((4294967295 - t : Nat) : Int) := by
  unfold tagNot
  rw [show IntKind.u32.max = ((4294967295 : Nat) : Int) from rfl, (xor32 4294967295 t (by omega) h).1]
  congr 1
  apply Nat.eq_of_testBit_eq
  intro i
  rw [Nat.testBit_xor, show (4294967295 : Nat) = 2 ^ 32 - 1 from rfl, Nat.testBit_two_pow_sub_one, show 2 ^ 32 - 1 - t = 2 ^ 32 - (t + 1) by omega, Nat.testBit_two_pow_sub_succ (by omega)]
  by_cases hi : i < 32
  · simp [hi]
  · simp [hi]
    exact Nat.testBit_lt_two_pow (Nat.lt_of_lt_of_le (show t < 2 ^ 32 by omega) (Nat.pow_le_pow_right (by omega) (by omega)))
theorem tagOf_nat (s : ByteArray) : tagOf s = ((4294967295 - nrun 4294967295 s.data.toList : Nat) : Int) := by
  unfold tagOf tagMore
  rw [show (0 : Int) = ((0 : Nat) : Int) from rfl, not32 0 (by omega), (tagRun_nat _ _ (by omega)).1]
  exact not32 _ (tagRun_nat _ _ (by omega)).2
end Go.Proofs.YtgpmkbmobdbdoaaGreatDoor.Q

-- P6
namespace Go.Proofs.YtgpmkbmobdbdoaaGreatDoor.Q
open Go.RowKit Go.Proofs.YtgpmkbmobdbdoaaGreatDoorW.PrintWords Go.Proofs.YtgpmkbmobdbdoaaGreatDoorW.PrintLast Go.Proofs.YtgpmkbmobdbdoaaGreatDoorW.PrintMore
set_option linter.unusedVariables false
set_option linter.unusedSimpArgs false

/-! The document's tag is the program's. -/
theorem ntimes_in (m c : Nat) : ntimes (m + 1) c = ntimes m (nstep c) := by
  induction m with
  | zero => rfl
  | succ m ih => show nstep (ntimes (m + 1) c) = nstep (ntimes m (nstep c)); rw [ih]
theorem ref_step_l0 (m : Nat) : ∀ (k i c : Nat), m < k → i + m = 8 → c < 4294967296 → cellarerref04_step.l0 k (c : Int) (i : Int) = some ((ntimes m c : Nat) : Int) := by
  induction m with
  | zero =>
    intro k i c hk hi hc
    obtain ⟨k, rfl⟩ : ∃ j, k = j + 1 := ⟨k - 1, by omega⟩
    simp only [cellarerref04_step.l0]
    rw [if_neg (by omega)]; rfl
  | succ m ih =>
    intro k i c hk hi hc
    obtain ⟨k, rfl⟩ : ∃ j, k = j + 1 := ⟨k - 1, by omega⟩
    have hw : wrap64 ((i : Int) + 1) = ((i + 1 : Nat) : Int) := by rw [wrap64_of (by omega) (by omega)]; omega
    have hm : Int.tmod (c : Int) 2 = ((c % 2 : Nat) : Int) := by rw [Int.tmod_eq_emod_of_nonneg (by omega)]; omega
    have hd : (Int.tdiv (c : Int) 2) % 4294967296 = ((c / 2 : Nat) : Int) := by rw [Int.tdiv_eq_ediv_of_nonneg (by omega)]; omega
    simp only [cellarerref04_step.l0]
    rw [if_pos (by omega), hm, hd, hw, ntimes_in]
    by_cases h : c % 2 = 1
    · rw [if_pos (by omega), show (2197175160 : Int) = ((2197175160 : Nat) : Int) from rfl, (xor32 (c / 2) 2197175160 (by omega) (by omega)).1, ih k (i + 1) _ (by omega) (by omega) (xor32 (c / 2) 2197175160 (by omega) (by omega)).2]
      unfold nstep; rw [if_pos h]
    · rw [if_neg (by omega), ih k (i + 1) _ (by omega) (by omega) (by omega)]
      unfold nstep; rw [if_neg h, Nat.xor_zero]
theorem ref_step (k c x : Nat) (hk : 8 < k) (hc : c < 4294967296) (hx : x < 256) : cellarerref04_step.f k (c : Int) (x : Int) = some ((nbyte c x : Nat) : Int) := by
  unfold cellarerref04_step.f
  rw [show ((x : Int)) % 4294967296 = ((x : Nat) : Int) by omega, (xor32 c x hc (by omega)).1]
  exact ref_step_l0 8 k 0 _ hk rfl (xor32 c x hc (by omega)).2
theorem ref_of_l0 (s : ByteArray) (hs : (s.size : Int) ≤ 9223372036854775807) : ∀ (d k i c : Nat), d + 9 < k → i + d = s.size → c < 4294967296 → cellarerref04_Of.l0 k s (c : Int) (i : Int) = some ((4294967295 - nrun c (s.data.toList.drop i) : Nat) : Int) := by
  intro d
  induction d with
  | zero =>
    intro k i c hk hi hc
    obtain ⟨k, rfl⟩ : ∃ j, k = j + 1 := ⟨k - 1, by omega⟩
    simp only [cellarerref04_Of.l0]
    rw [if_neg (by omega), List.drop_eq_nil_of_le (by show s.data.toList.length ≤ i; rw [Array.length_toList]; show s.size ≤ i; omega)]
    show some _ = some _
    congr 1
    show (4294967295 - (c : Int)) % 4294967296 = ((4294967295 - c : Nat) : Int)
    omega
  | succ d ih =>
    intro k i c hk hi hc
    obtain ⟨k, rfl⟩ : ∃ j, k = j + 1 := ⟨k - 1, by omega⟩
    have hw : wrap64 ((i : Int) + 1) = ((i + 1 : Nat) : Int) := by rw [wrap64_of (by omega) (by omega)]; omega
    have hl : i < s.data.toList.length := by rw [Array.length_toList]; show i < s.size; omega
    have hb : bt s (i : Int) = ((s.data.toList[i].toNat : Nat) : Int) := by
      rw [← bt_at s (i : Int) (by rw [Int.toNat_natCast]; omega)]
      rfl
    simp only [cellarerref04_Of.l0]
    rw [if_pos (by omega), if_pos (by omega), hb, ref_step k c _ (by omega) hc (UInt8.toNat_lt _), Option.bind_some, hw, ih k (i + 1) _ (by omega) (by omega) (nbyte_lt c _ hc (UInt8.toNat_lt _)), List.drop_eq_getElem_cons hl]
    rfl
theorem ref_of (s : ByteArray) (hs : (s.size : Int) ≤ 9223372036854775807) (k : Nat) (hk : s.size + 9 < k) : cellarerref04_Of.f k s = some (tagOf s) := by
  unfold cellarerref04_Of.f
  rw [tagOf_nat]
  exact ref_of_l0 s hs s.size k 0 4294967295 hk (by omega) (by omega)
end Go.Proofs.YtgpmkbmobdbdoaaGreatDoor.Q

-- P4
namespace Go.Proofs.YtgpmkbmobdbdoaaGreatDoor.Q
open Go.RowKit Go.Proofs.YtgpmkbmobdbdoaaGreatDoorW.PrintWords Go.Proofs.YtgpmkbmobdbdoaaGreatDoorW.PrintLast Go.Proofs.YtgpmkbmobdbdoaaGreatDoorW.PrintMore
set_option linter.unusedVariables false
set_option linter.unusedSimpArgs false

/-! Plain: the whole of some pieces is that of the first ones, and that of the others. -/
theorem allFrom_iff (P : Nat → Bool) : ∀ (d i : Nat), allFrom P i d = true ↔ ∀ j, i ≤ j → j < i + d → P j = true := by
  intro d
  induction d with
  | zero => intro i; simp [allFrom]; intro j h1 h2; omega
  | succ d ih =>
    intro i
    show (P i && allFrom P (i + 1) d) = true ↔ _
    rw [Bool.and_eq_true, ih (i + 1)]
    constructor
    · rintro ⟨h1, h2⟩ j h3 h4
      rcases Nat.lt_or_ge i j with h | h
      · exact h2 j (by omega) (by omega)
      · obtain rfl : j = i := by omega
        exact h1
    · intro h
      exact ⟨h i (Nat.le_refl _) (by omega), fun j h1 h2 => h j (by omega) (by omega)⟩
end Go.Proofs.YtgpmkbmobdbdoaaGreatDoor.Q

-- P7
namespace Go.Proofs.YtgpmkbmobdbdoaaGreatDoor.Q
open Go.RowKit Go.Proofs.YtgpmkbmobdbdoaaGreatDoorW.PrintWords Go.Proofs.YtgpmkbmobdbdoaaGreatDoorW.PrintLast Go.Proofs.YtgpmkbmobdbdoaaGreatDoorW.PrintMore
set_option linter.unusedVariables false
set_option linter.unusedSimpArgs false

/-! The document's One is fine; its Whole is the program's. -/
theorem ref_keys_l0 (s : ByteArray) (hs : (s.size : Int) ≤ 9223372036854775807) : ∀ (d k i : Nat), d < k → i + d = s.size → cellarerref01_keys.l0 k s (i : Int) = some ((s.data.toList.drop i).all okb) := by
  intro d
  induction d with
  | zero =>
    intro k i hk hi
    obtain ⟨k, rfl⟩ : ∃ j, k = j + 1 := ⟨k - 1, by omega⟩
    simp only [cellarerref01_keys.l0]
    rw [if_neg (by omega), List.drop_eq_nil_of_le (by show s.data.toList.length ≤ i; rw [Array.length_toList]; show s.size ≤ i; omega)]; rfl
  | succ d ih =>
    intro k i hk hi
    obtain ⟨k, rfl⟩ : ∃ j, k = j + 1 := ⟨k - 1, by omega⟩
    have hw : wrap64 ((i : Int) + 1) = ((i + 1 : Nat) : Int) := by rw [wrap64_of (by omega) (by omega)]; omega
    have hl : i < s.data.toList.length := by rw [Array.length_toList]; show i < s.size; omega
    have hb : bt s (i : Int) = ((s.data.toList[i].toNat : Nat) : Int) := by
      rw [← bt_at s (i : Int) (by rw [Int.toNat_natCast]; omega)]
      rfl
    simp only [cellarerref01_keys.l0]
    rw [if_pos (by omega), if_pos (by omega), hb, hw, ih k (i + 1) (by omega) (by omega), List.drop_eq_getElem_cons hl, List.all_cons]
    unfold okb
    by_cases h1 : ((s.data.toList[i].toNat : Nat) : Int) < 32
    · rw [if_pos h1, decide_eq_false (by omega)]; rfl
    · rw [if_neg h1, decide_eq_true (show (32 : Int) ≤ _ by omega)]
      by_cases h2 : ((s.data.toList[i].toNat : Nat) : Int) > 126
      · rw [if_pos h2, decide_eq_false (by omega)]; rfl
      · rw [if_neg h2, decide_eq_true (show ((s.data.toList[i].toNat : Nat) : Int) ≤ 126 by omega)]; rfl
theorem loop_ne (s : ByteArray) : ∀ (n i : Nat) (r : List UInt8), s.size - i = n → r ≠ [] → ByteArray.toList.loop s i r ≠ [] := by
  intro n
  induction n with
  | zero =>
    intro i r h hr
    unfold ByteArray.toList.loop
    rw [if_neg (by omega)]
    simpa using hr
  | succ n ih =>
    intro i r h hr
    unfold ByteArray.toList.loop
    rw [if_pos (by omega)]
    exact ih (i + 1) _ (by omega) (by simp)
theorem toList_nil (s : ByteArray) : s.toList = ([] : List UInt8) ↔ s.size = 0 := by
  unfold ByteArray.toList
  constructor
  · intro h
    rcases Nat.eq_zero_or_pos s.size with h0 | h0
    · exact h0
    · exfalso
      unfold ByteArray.toList.loop at h
      rw [if_pos h0] at h
      exact loop_ne s _ 1 _ rfl (by simp) h
  · intro h
    unfold ByteArray.toList.loop
    rw [if_neg (by omega)]; rfl
theorem ref_key (s : ByteArray) (k : Nat) (hk : 60 < k) : cellarerref01_Key.f k s = some (keyB s) := by
  unfold cellarerref01_Key.f keyB
  have e0 := toList_nil s
  by_cases h0 : s.size = 0
  · rw [if_pos (e0.2 h0), decide_eq_false (by omega)]; rfl
  · rw [if_neg (fun h => h0 (e0.1 h)), decide_eq_true (show 1 ≤ s.size by omega)]
    by_cases h1 : (s.size : Int) ≤ 60
    · rw [if_pos h1, decide_eq_true (show s.size ≤ 60 by omega)]
      unfold cellarerref01_keys.f
      rw [show (0 : Int) = ((0 : Nat) : Int) from rfl, ref_keys_l0 s (by omega) s.size k 0 (by omega) (by omega), Option.bind_some]; rfl
    · rw [if_neg h1, decide_eq_false (show ¬ s.size ≤ 60 by omega)]; rfl
theorem ref_part (p : S25) : cellarerref08_part.f p.f0 p.f1 = some (mayB p) := by
  unfold cellarerref08_part.f mayB
  by_cases h : 1 ≤ p.f0
  · by_cases h2 : p.f0 ≤ 1000
    · rw [if_pos h, if_pos h2, decide_eq_true h, decide_eq_true h2]; simp; omega
    · rw [if_pos h, if_neg h2, decide_eq_false h2]; simp
  · rw [if_neg h, decide_eq_false h]; rfl
theorem ref_number (i : Int) : cellarerref08_number.f i = some (numB i) := by
  unfold cellarerref08_number.f numB
  by_cases h : 1 ≤ i
  · rw [if_pos h, decide_eq_true h]; rfl
  · rw [if_neg h, decide_eq_false h]; rfl
theorem ref_one_l0 (u : Int) (key : ByteArray) (l : List S25) (hn : (l.length : Int) ≤ 9223372036854775807) : ∀ (d k i : Nat), d + 61 < k → i + d = l.length → cellarerref08_One.l0 k (i : Int) u key l = some (allFrom (adjB l) i d && (numB u && (keyB key && decide (l.length ≤ 30)))) := by
  intro d
  induction d with
  | zero =>
    intro k i hk hi
    obtain ⟨k, rfl⟩ : ∃ j, k = j + 1 := ⟨k - 1, by omega⟩
    simp only [cellarerref08_One.l0]
    rw [if_neg (by omega), ref_number, Option.bind_some, ref_key key k (by omega), Option.bind_some]
    show _ = some (true && _)
    rw [Bool.true_and]
    cases numB u
    · rfl
    · rw [if_pos rfl]
      cases keyB key
      · rfl
      · rw [if_pos rfl]; simp; omega
  | succ d ih =>
    intro k i hk hi
    obtain ⟨k, rfl⟩ : ∃ j, k = j + 1 := ⟨k - 1, by omega⟩
    have hw : wrap64 ((i : Int) + 1) = ((i + 1 : Nat) : Int) := by rw [wrap64_of (by omega) (by omega)]; omega
    have e1 : rd_T25 l (i : Int) = l.getD i z25 := by unfold rd_T25; rw [Int.toNat_natCast]
    simp only [cellarerref08_One.l0]
    rw [if_pos (by omega), if_pos (by omega), e1, ref_part, Option.bind_some, hw]
    show _ = some ((adjB l i && allFrom (adjB l) (i + 1) d) && _)
    unfold adjB
    cases hm : mayB (l.getD i z25)
    · rfl
    · rw [if_pos rfl]
      by_cases hi0 : i = 0
      · subst hi0
        rw [if_neg (by decide), ih k 1 (by omega) (by omega)]; rfl
      · have e2 : rd_T25 l ((i : Int) - 1) = l.getD (i - 1) z25 := by unfold rd_T25; rw [show ((i : Int) - 1).toNat = i - 1 by omega]
        rw [if_pos (by omega), wrap64_of (x := (i : Int) - 1) (by omega) (by omega), if_pos (by omega), if_pos (by omega), e2]
        by_cases hl : (l.getD i z25).f0 ≤ (l.getD (i - 1) z25).f0
        · rw [if_pos hl, decide_eq_false hi0, decide_eq_false (show ¬ (l.getD (i - 1) z25).f0 < (l.getD i z25).f0 by omega)]; rfl
        · rw [if_neg hl, ih k (i + 1) (by omega) (by omega), decide_eq_false hi0, decide_eq_true (show (l.getD (i - 1) z25).f0 < (l.getD i z25).f0 by omega)]; rfl
theorem ref_one (u : Int) (key : ByteArray) (l : List S25) (hn : (l.length : Int) ≤ 9223372036854775807) (k : Nat) (hk : l.length + 61 < k) : cellarerref08_One.f k u key l = some (fineB u key l) := by
  unfold cellarerref08_One.f fineB
  rw [show (0 : Int) = ((0 : Nat) : Int) from rfl, ref_one_l0 u key l hn l.length k 0 hk (by omega)]
  cases allFrom (adjB l) 0 l.length <;> cases numB u <;> cases keyB key <;> simp
end Go.Proofs.YtgpmkbmobdbdoaaGreatDoor.Q

-- P9
namespace Go.Proofs.YtgpmkbmobdbdoaaGreatDoor.Q
open Go.RowKit Go.Proofs.YtgpmkbmobdbdoaaGreatDoorW.PrintWords Go.Proofs.YtgpmkbmobdbdoaaGreatDoorW.PrintLast Go.Proofs.YtgpmkbmobdbdoaaGreatDoorW.PrintMore
set_option linter.unusedVariables false
set_option linter.unusedSimpArgs false

/-! What the document's loops collect is what the program's wholes are made of. -/
end Go.Proofs.YtgpmkbmobdbdoaaGreatDoor.Q

-- P11
namespace Go.Proofs.YtgpmkbmobdbdoaaGreatDoor.Q
open Go.RowKit Go.Proofs.YtgpmkbmobdbdoaaGreatDoorW.PrintWords Go.Proofs.YtgpmkbmobdbdoaaGreatDoorW.PrintLast Go.Proofs.YtgpmkbmobdbdoaaGreatDoorW.PrintMore
set_option linter.unusedVariables false
set_option linter.unusedSimpArgs false

/-! What is fine, and what may be, by members and pairs; a part that is laid, as a split. -/
theorem adj_iff {α : Type} (P : α → Bool) (f : α → Int) (z : α) (l : List α) :
    allFrom (fun j => P (l.getD j z) && (decide (j = 0) || decide (f (l.getD (j - 1) z) < f (l.getD j z)))) 0 l.length = true ↔ (∀ x ∈ l, P x = true) ∧ l.Pairwise (fun a b => f a < f b) := by
  have gd : ∀ (j : Nat) (h : j < l.length), l.getD j z = l[j] := fun j h => by rw [List.getD_eq_getElem?_getD, List.getElem?_eq_getElem h]; rfl
  rw [allFrom_iff]
  constructor
  · intro h
    have h1 : ∀ (j : Nat) (hj : j < l.length), P l[j] = true ∧ (0 < j → f (l[j - 1]'(by omega)) < f l[j]) := by
      intro j hj
      have := h j (Nat.zero_le _) (by omega)
      rw [Bool.and_eq_true, Bool.or_eq_true, gd j hj, gd (j - 1) (by omega)] at this
      refine ⟨this.1, fun h0 => ?_⟩
      rcases this.2 with h | h
      · have : j = 0 := by simpa using h
        omega
      · simpa using h
    refine ⟨fun x hx => ?_, ?_⟩
    · obtain ⟨j, hj, rfl⟩ := List.getElem_of_mem hx
      exact (h1 j hj).1
    · rw [List.pairwise_iff_getElem]
      intro i j hi hj hij
      induction j with
      | zero => omega
      | succ j ih =>
        have h2 := (h1 (j + 1) hj).2 (by omega)
        simp only [Nat.add_sub_cancel] at h2
        rcases Nat.eq_or_lt_of_le (Nat.le_of_lt_succ hij) with rfl | h3
        · exact h2
        · have := ih (by omega) h3; omega
  · rintro ⟨h1, h2⟩ j _ hj
    rw [List.pairwise_iff_getElem] at h2
    rw [Bool.and_eq_true, Bool.or_eq_true, gd j (by omega), gd (j - 1) (by omega)]
    refine ⟨h1 _ (List.getElem_mem _), ?_⟩
    by_cases h0 : j = 0
    · exact Or.inl (by simpa using h0)
    · exact Or.inr (by simpa using h2 (j - 1) j (by omega) (by omega) (by omega))
theorem fine_iff (u : Int) (key : ByteArray) (l : List S25) : fineB u key l = true ↔ numB u = true ∧ keyB key = true ∧ l.length ≤ 30 ∧ (∀ x ∈ l, mayB x = true) ∧ l.Pairwise (fun a b => a.f0 < b.f0) := by
  unfold fineB
  rw [Bool.and_eq_true, Bool.and_eq_true, Bool.and_eq_true, decide_eq_true_eq]
  rw [show allFrom (adjB l) 0 l.length = true ↔ _ from adj_iff mayB (fun x => x.f0) z25 l]
theorem check_iff (l : List S40) : checkB l = true ↔ l.length ≤ 10 ∧ (∀ u ∈ l, fineB u.f0 u.f1 u.f2 = true) ∧ l.Pairwise (fun a b => a.f0 < b.f0) := by
  unfold checkB
  rw [Bool.and_eq_true, decide_eq_true_eq]
  rw [show allFrom (adjU l) 0 l.length = true ↔ _ from adj_iff (fun u : S40 => fineB u.f0 u.f1 u.f2) (fun x : S40 => x.f0) z40 l]
theorem low_split (l : List S25) (m : Int) : (∀ x ∈ l.take (lowP l m), x.f0 < m) ∧ (∀ x, (l.drop (lowP l m)).head? = some x → m ≤ x.f0) := by
  constructor
  · intro x hx
    obtain ⟨j, hj, rfl⟩ := List.getElem_of_mem hx
    rw [List.getElem_take]
    rw [List.length_take] at hj
    have := List.not_of_lt_findIdx (p := fun p : S25 => decide (m ≤ p.f0)) (xs := l) (i := j) (by unfold lowP at hj; omega)
    simpa using this
  · intro x hx
    rw [List.head?_drop] at hx
    obtain ⟨hl, rfl⟩ := List.getElem?_eq_some_iff.1 hx
    have := List.findIdx_getElem (p := fun p : S25 => decide (m ≤ p.f0)) (xs := l) (w := hl)
    exact of_decide_eq_true this
theorem lay_split (l : List S25) (p : S25) (hs : l.Pairwise (fun a b => a.f0 < b.f0)) :
    ∃ A M B, l = A ++ (M ++ B) ∧ layParts l p = A ++ p :: B ∧ (∀ x ∈ A, x.f0 < p.f0) ∧ (∀ x ∈ B, p.f0 < x.f0) ∧ ((M = [] ∧ thereP l p.f0 = false) ∨ ∃ q, M = [q] ∧ q.f0 = p.f0 ∧ thereP l p.f0 = true) := by
  obtain ⟨hA, hB⟩ := low_split l p.f0
  have e0 := List.take_append_drop (lowP l p.f0) l
  have hk : lowP l p.f0 ≤ l.length := List.findIdx_le_length
  have hlen : (l.take (lowP l p.f0)).length = lowP l p.f0 := by rw [List.length_take]; omega
  have hL : layParts l p = if thereP l p.f0 = true then l.set (lowP l p.f0) p else l.take (lowP l p.f0) ++ (p :: l.drop (lowP l p.f0)) := rfl
  generalize lowP l p.f0 = k at *
  generalize hAA : l.take k = A at *
  generalize hDD : l.drop k = D at *
  have hth : thereP l p.f0 = D.any (fun q => q.f0 == p.f0) := by
    unfold thereP
    rw [← e0, List.any_append]
    have : A.any (fun q => q.f0 == p.f0) = false := by
      rw [List.any_eq_false]
      intro x hx
      have := hA x hx
      simp; omega
    rw [this, Bool.false_or]
  rw [← e0] at hs
  cases D with
  | nil =>
    have h1 : thereP l p.f0 = false := hth
    exact ⟨A, [], [], by simpa using e0.symm, by rw [hL, h1]; rfl, hA, by simp, Or.inl ⟨rfl, h1⟩⟩
  | cons q D =>
    have h0 := hB q rfl
    have hp := (List.pairwise_cons.1 (List.pairwise_append.1 hs).2.1).1
    by_cases hq : q.f0 = p.f0
    · have h1 : thereP l p.f0 = true := by rw [hth, List.any_cons]; simp [hq]
      refine ⟨A, [q], D, by simpa using e0.symm, ?_, hA, fun x hx => by have := hp x hx; omega, Or.inr ⟨q, rfl, hq, h1⟩⟩
      rw [hL, if_pos h1, ← e0, List.set_append_right _ _ (by omega), hlen, Nat.sub_self]; rfl
    · have h1 : thereP l p.f0 = false := by
        rw [hth, List.any_eq_false]
        intro x hx
        rcases List.mem_cons.1 hx with rfl | hx
        · simpa using hq
        · have := hp x hx
          simp; omega
      refine ⟨A, [], q :: D, by simpa using e0.symm, by rw [hL, h1]; rfl, hA, fun x hx => ?_, Or.inl ⟨rfl, h1⟩⟩
      rcases List.mem_cons.1 hx with rfl | hx
      · omega
      · have := hp x hx; omega
end Go.Proofs.YtgpmkbmobdbdoaaGreatDoor.Q

-- P12
namespace Go.Proofs.YtgpmkbmobdbdoaaGreatDoor.Q
open Go.RowKit Go.Proofs.YtgpmkbmobdbdoaaGreatDoorW.PrintWords Go.Proofs.YtgpmkbmobdbdoaaGreatDoorW.PrintLast Go.Proofs.YtgpmkbmobdbdoaaGreatDoorW.PrintMore
set_option linter.unusedVariables false
set_option linter.unusedSimpArgs false

/-! How many octets there are, by the program's loops. -/
end Go.Proofs.YtgpmkbmobdbdoaaGreatDoor.Q

-- P13
namespace Go.Proofs.YtgpmkbmobdbdoaaGreatDoor.Q
open Go.RowKit Go.Proofs.YtgpmkbmobdbdoaaGreatDoorW.PrintWords Go.Proofs.YtgpmkbmobdbdoaaGreatDoorW.PrintLast Go.Proofs.YtgpmkbmobdbdoaaGreatDoorW.PrintMore
set_option linter.unusedVariables false
set_option linter.unusedSimpArgs false

/-! What an abort leaves. -/
theorem del_split {l : List S40} (i : Nat) (hi : i < l.length) : l = l.take i ++ l[i] :: l.drop (i + 1) := by
  rw [← List.drop_eq_getElem_cons hi, List.take_append_drop]
theorem del_ne {l : List S40} (hc : checkB l = true) {id : Int} {i : Nat} (hp : posU l id = some i) : ∀ u ∈ delL l i, u.f0 ≠ id := by
  obtain ⟨_, _, hs⟩ := (check_iff l).1 hc
  obtain ⟨hi, he⟩ := posU_lt hp
  rw [del_split i hi] at hs
  obtain ⟨_, h2, h3⟩ := List.pairwise_append.1 hs
  intro u hu
  rcases List.mem_append.1 hu with hu | hu
  · have := h3 u hu l[i] List.mem_cons_self; omega
  · have := (List.pairwise_cons.1 h2).1 u hu; omega
end Go.Proofs.YtgpmkbmobdbdoaaGreatDoor.Q

-- V1
namespace Go.Proofs.YtgpmkbmobdbdoaaGreatDoor.Q
open Go.RowKit Go.Proofs.YtgpmkbmobdbdoaaGreatDoorW.PrintWords Go.Proofs.YtgpmkbmobdbdoaaGreatDoorW.PrintLast Go.Proofs.YtgpmkbmobdbdoaaGreatDoorW.PrintMore
set_option linter.unusedVariables false
set_option linter.unusedSimpArgs false

/-! The document's May, Find, Abort, Begin, Octets are the program's. -/
theorem rdU (l : List S40) (i : Nat) : rd_T40 l (i : Int) = l.getD i z40 := by unfold rd_T40; rw [Int.toNat_natCast]
theorem ref_may_l0 (l : List S40) (hn : (l.length : Int) ≤ 9223372036854775807) (K : Nat) (hK : ∀ j, j < l.length → (l.getD j z40).f2.length + 62 ≤ K ∧ ((l.getD j z40).f2.length : Int) ≤ 9223372036854775807) : ∀ (d k i : Nat), i + d = l.length → K + d < k →
    cellarerref08_May.l0 k l (i : Int) = some (allFrom (adjU l) i d && decide (l.length ≤ 10)) := by
  intro d
  induction d with
  | zero =>
    intro k i hi hk
    obtain ⟨k, rfl⟩ : ∃ j, k = j + 1 := ⟨k - 1, by omega⟩
    simp only [cellarerref08_May.l0]
    rw [if_neg (by omega)]
    show _ = some (true && _)
    rw [Bool.true_and]; congr 1
    by_cases h : l.length ≤ 10
    · rw [decide_eq_true h, decide_eq_true (by omega)]
    · rw [decide_eq_false h, decide_eq_false (by omega)]
  | succ d ih =>
    intro k i hi hk
    obtain ⟨k, rfl⟩ : ∃ j, k = j + 1 := ⟨k - 1, by omega⟩
    have hw : wrap64 ((i : Int) + 1) = ((i + 1 : Nat) : Int) := by rw [wrap64_of (by omega) (by omega)]; omega
    obtain ⟨k1, k2⟩ := hK i (by omega)
    simp only [cellarerref08_May.l0]
    rw [if_pos (by omega), if_pos (by omega), rdU, ref_one _ _ _ k2 k (by omega), Option.bind_some, hw]
    show _ = some ((adjU l i && allFrom (adjU l) (i + 1) d) && _)
    unfold adjU
    cases hm : fineB (l.getD i z40).f0 (l.getD i z40).f1 (l.getD i z40).f2
    · rfl
    · rw [if_pos rfl]
      by_cases hi0 : i = 0
      · subst hi0
        rw [if_neg (by decide), ih k 1 (by omega) (by omega)]; rfl
      · have e2 : rd_T40 l ((i : Int) - 1) = l.getD (i - 1) z40 := by unfold rd_T40; rw [show ((i : Int) - 1).toNat = i - 1 by omega]
        rw [if_pos (by omega), wrap64_of (x := (i : Int) - 1) (by omega) (by omega), if_pos (by omega), if_pos (by omega), e2]
        by_cases hl : (l.getD i z40).f0 ≤ (l.getD (i - 1) z40).f0
        · rw [if_pos hl, decide_eq_false hi0, decide_eq_false (show ¬ (l.getD (i - 1) z40).f0 < (l.getD i z40).f0 by omega)]; rfl
        · rw [if_neg hl, ih k (i + 1) (by omega) (by omega), decide_eq_false hi0, decide_eq_true (show (l.getD (i - 1) z40).f0 < (l.getD i z40).f0 by omega)]; rfl
theorem lens_le (l : List S40) : ∃ K, ∀ u ∈ l, u.f2.length + 62 ≤ K := by
  induction l with
  | nil => exact ⟨0, by simp⟩
  | cons u l ih =>
    obtain ⟨K, hK⟩ := ih
    refine ⟨max K (u.f2.length + 62), fun x hx => ?_⟩
    rcases List.mem_cons.1 hx with rfl | hx
    · omega
    · have := hK x hx; omega
theorem ref_may (l : List S40) (hn : (l.length : Int) ≤ 9223372036854775807) (hi : ∀ u ∈ l, (u.f2.length : Int) ≤ 9223372036854775807) : ∃ K, ∀ k, K < k → cellarerref08_May.f k l = some (checkB l) := by
  obtain ⟨K, hK⟩ := lens_le l
  refine ⟨K + l.length, fun k hk => ?_⟩
  unfold cellarerref08_May.f checkB
  have := ref_may_l0 l hn K (fun j hj => by
    rw [List.getD_eq_getElem?_getD, List.getElem?_eq_getElem hj]
    exact ⟨hK _ (List.getElem_mem hj), hi _ (List.getElem_mem hj)⟩) l.length k 0 (by omega) hk
  rw [show ((0 : Nat) : Int) = 0 from rfl] at this
  rw [this, Bool.and_comm]
theorem del_filter {l : List S40} (hc : checkB l = true) {id : Int} {i : Nat} (hp : posU l id = some i) : l.filter (fun u => !(u.f0 == id)) = delL l i := by
  obtain ⟨hi, he⟩ := posU_lt hp
  have hd := del_ne hc hp
  conv => lhs; rw [del_split i hi]
  unfold delL at hd ⊢
  rw [List.filter_append, List.filter_cons, show (l[i].f0 == id) = true from beq_iff_eq.2 he]
  have h1 : (l.take i).filter (fun u => !(u.f0 == id)) = l.take i := List.filter_eq_self.2 (fun u hu => by have := hd u (List.mem_append_left _ hu); simpa using this)
  have h2 : (l.drop (i + 1)).filter (fun u => !(u.f0 == id)) = l.drop (i + 1) := List.filter_eq_self.2 (fun u hu => by have := hd u (List.mem_append_right _ hu); simpa using this)
  rw [h1]
  simp only [Bool.not_true, Bool.false_eq_true, if_false]
  rw [h2]
end Go.Proofs.YtgpmkbmobdbdoaaGreatDoor.Q

-- V2
namespace Go.Proofs.YtgpmkbmobdbdoaaGreatDoor.Q
open Go.RowKit Go.Proofs.YtgpmkbmobdbdoaaGreatDoorW.PrintWords Go.Proofs.YtgpmkbmobdbdoaaGreatDoorW.PrintLast Go.Proofs.YtgpmkbmobdbdoaaGreatDoorW.PrintMore
set_option linter.unusedVariables false
set_option linter.unusedSimpArgs false

/-! The document's Find and Abort, walked. -/
theorem ref_may_calls {w : World} {A : Option Addr} {c : Nat} {l : List S40} (hr : Kd.C k40 w A l.length l) (hc : l.length ≤ c) :
    Calls Tryz.prog 15 #[.slice A l.length c] w fun e w' => e = .returned (.bool (checkB l)) ∧ Below w.heap.size w w' := by
  obtain ⟨K, hK⟩ := ref_may l (by have := hr.2.1; omega) (inner_bound hr)
  exact cellarerref08_May.calls (K + 1) A c l _ w hr hc (hK _ (Nat.lt_succ_self _))
set_option maxHeartbeats 4000000 in
set_option maxRecDepth 100000 in
theorem ref_find.walk (A : Option Addr) (c : Nat) (l : List S40) (id : Int) (w : World) (hr : Kd.C k40 w A l.length l) (hc : l.length ≤ c) :
    Calls Tryz.prog 12 #[.slice A l.length c, .int .u64 id] w (FindPost l id w) := by
  have HB0 : Hid (Below w.heap.size w w) := Below.refl _ _
  have HR := Lib.hid hr
  have hlen : (l.length : Int) ≤ 9223372036854775807 := by have := hr.2.1; omega
  clear hr
  have HA := Lib.hid (HB0.out.alloc (Nat.le_refl _) (.cells #[.int .u64 0, .string ⟨#[]⟩, .slice none 0 0] 40))
  have HK := Lib.hid (ref_may_calls (Kd.C_below HR.out HA.out) hc)
  cases hk : checkB l
  · have HE : Hid (findR l id = (z40, 1)) := by unfold Hid findR; rw [if_pos hk]
    rw [hk] at HK
    clear hk
    go_enter Tryz.func12, Tryz.ntmps12
    go_wp2_with (go_at_call 15; refine HK.out.mono ?_; rintro e w1 ⟨rfl, hb⟩; have HB1 := keepB HA hb; have hk1 := blk_below (blk_new w _) hb; have d0 := (blk_cell hk1 0).trans rfl; have d1 := (blk_cell hk1 1).trans rfl; have d2 := (blk_cell hk1 2).trans rfl; have z0 := blk_frozen hk1 0; have z1 := blk_frozen hk1 1; have z2 := blk_frozen hk1 2; clear hb hk1)
    refine bodyPost_ret (v := .tuple #[.agg #[.int .u64 0, .string ⟨#[]⟩, .slice none 0 0], .int .i64 1]) ?_ rfl ?_
    · simp [results, Tryz.results12, go_sem, d0, d1, d2]
    · exact ⟨none, 0, by rw [HE.out]; rfl, by rw [HE.out]; exact Nat.zero_le _, by rw [HE.out]; exact Kd.C_nil _ _, (((HB1.out.setCell (Nat.le_refl _) _).setCell (Nat.le_refl _) _).setCell (Nat.le_refl _) _)⟩
  · rw [hk] at HK
    have HKK := Lib.hid hk
    clear hk
    go_enter Tryz.func12, Tryz.ntmps12
    go_wp2_with (go_at_call 15; refine HK.out.mono ?_; rintro e w1 ⟨rfl, hb⟩; have HB1 := keepB HA hb; have HK1 := Lib.hid (blk_below (blk_new w _) hb); clear hb)
    clear HB0 HA HK
    go_loopw [6] (fun i wr => ∃ (k : Nat), i = .int .i64 k ∧ k ≤ l.length ∧ Hid (∀ j (hj : j < k) (hl : j < l.length), (l[j].f0 == id) = false) ∧ Hid (Below w.heap.size w wr) ∧ Hid (wr.heap[w.heap.size]? = some (.cells #[.int .u64 0, .string ⟨#[]⟩, .slice none 0 0] 40 (0, 0)))) (fun i _ => l.length - (intOf i).toNat)
    case atStart => exact ⟨0, rfl, Nat.zero_le _, fun j hj => absurd hj (Nat.not_lt_zero _), HB1, HK1⟩
    case round =>
      obtain ⟨k, rfl, hk, hall, hb, hbk⟩ := hrel
      have d0 := (blk_cell hbk.out 0).trans rfl
      have d1 := (blk_cell hbk.out 1).trans rfl
      have d2 := (blk_cell hbk.out 2).trans rfl
      have z0 := blk_frozen hbk.out 0
      have z1 := blk_frozen hbk.out 1
      have z2 := blk_frozen hbk.out 2
      by_cases hlt : k < l.length
      · obtain ⟨ad, A2, c2, e', hc0, hc1, hc2, hc3, hc4⟩ := at25 HR.out hb.out k hlt
        subst e'
        have H4 := Lib.hid hc4
        clear hc4
        have p0 : (0 : Int) ≤ (k : Int) := by omega
        have p1 : (k : Int) < (l.length : Int) := by omega
        cases hp : (l[k].f0 == id)
        · have hn : Hid (∀ j (hj : j < k + 1) (hl : j < l.length), (l[j].f0 == id) = false) := fun j hj hl => by
            rcases Nat.eq_or_lt_of_le (Nat.le_of_lt_succ hj) with rfl | h
            · exact hp
            · exact hall.out j h hl
          go_wp2
          go_roundw
          case rel => exact ⟨k + 1, by go_num, hlt, hn, hb, hbk⟩
          case measure => simp [intOf]; omega
        · have HE : Hid (findR l id = (l[k], 0)) := by
            have h1 : posU l id = some k := by
              unfold posU
              rw [List.findIdx?_eq_some_iff_getElem]
              exact ⟨hlt, hp, fun j hj => by rw [hall.out j hj (by omega)]; simp⟩
            unfold Hid findR
            rw [if_neg (by rw [HKK.out]; simp), h1]
            simp [List.getD_eq_getElem?_getD, hlt]
          have hne : (ad.add (k * 3)).block ≠ w.heap.size := fun e => by
            have h2 := HR.out
            obtain ⟨ad', e'', h0'⟩ := h2.2.2 (by omega)
            injection e'' with e''
            subst e''
            have h3 := World.block_lt_of_cell? w _ (show w.cell? (ad.add (k * 3)) = some (.int .u64 l[k].f0) by
              obtain ⟨ad3, _, _, e3, g0, _⟩ := at25 HR.out (Below.refl _ _) k hlt
              injection e3 with e3
              subst e3
              exact g0)
            omega
          go_wp2
          refine bodyPost_ret (v := .tuple #[.agg #[.int .u64 l[k].f0, .string l[k].f1, .slice A2 l[k].f2.length c2], .int .i64 0]) ?_ rfl ?_
          · simp [results, Tryz.results12, go_sem, d0, d1, d2]
          · have hb2 := (((hb.out.setCell (p := ⟨w.heap.size, 0, none⟩) (Nat.le_refl _) (.int .u64 l[k].f0)).setCell (p := ⟨w.heap.size, 1, none⟩) (Nat.le_refl _) (.string l[k].f1)).setCell (p := ⟨w.heap.size, 2, none⟩) (Nat.le_refl _) (.slice A2 l[k].f2.length c2))
            refine ⟨A2, c2, by rw [HE.out], by rw [HE.out]; exact hc3, ?_, hb2⟩
            rw [HE.out]
            obtain ⟨ad3, A5, c5, e3, _, _, g2, _, g4⟩ := at25 HR.out (Below.refl _ _) k hlt
            injection e3 with e3
            subst e3
            have := (hb.out.cell (World.block_lt_of_cell? w _ g2)).trans g2
            rw [hc2] at this
            injection this with this
            injection this with h5 _ _
            have g5 := Kd.C_below g4 hb2
            rw [← h5] at g5
            exact g5
      · have HE : Hid (findR l id = (z40, 4)) := by
          have h1 : posU l id = none := by
            unfold posU
            rw [List.findIdx?_eq_none_iff]
            intro u hu
            obtain ⟨j, hj, rfl⟩ := List.getElem_of_mem hu
            exact hall.out j (by omega) hj
          unfold Hid findR
          rw [if_neg (by rw [HKK.out]; simp), h1]
        go_wp2
        refine bodyPost_ret (v := .tuple #[.agg #[.int .u64 0, .string ⟨#[]⟩, .slice none 0 0], .int .i64 4]) ?_ rfl ?_
        · simp [results, Tryz.results12, go_sem, d0, d1, d2]
        · exact ⟨none, 0, by rw [HE.out]; rfl, by rw [HE.out]; exact Nat.zero_le _, by rw [HE.out]; exact Kd.C_nil _ _, (((hb.out.setCell (Nat.le_refl _) _).setCell (Nat.le_refl _) _).setCell (Nat.le_refl _) _)⟩
end Go.Proofs.YtgpmkbmobdbdoaaGreatDoor.Q

-- V3
namespace Go.Proofs.YtgpmkbmobdbdoaaGreatDoor.Q
open Go.RowKit Go.Proofs.YtgpmkbmobdbdoaaGreatDoorW.PrintWords Go.Proofs.YtgpmkbmobdbdoaaGreatDoorW.PrintLast Go.Proofs.YtgpmkbmobdbdoaaGreatDoorW.PrintMore
set_option linter.unusedVariables false
set_option linter.unusedSimpArgs false

/-! The document's Abort, walked. -/
def selU (l : List S40) (id : Int) : List S40 := l.filter fun u => !(u.f0 == id)
theorem selU_snoc (l : List S40) (id : Int) (k : Nat) (h : k < l.length) : selU (l.take (k + 1)) id = if l[k].f0 = id then selU (l.take k) id else selU (l.take k) id ++ [l[k]] := by
  rw [List.take_succ_eq_append_getElem h]
  unfold selU
  rw [List.filter_append, List.filter_cons, List.filter_nil]
  by_cases hh : l[k].f0 = id
  · rw [if_pos hh, show (l[k].f0 == id) = true from beq_iff_eq.2 hh]; simp
  · rw [if_neg hh, show (l[k].f0 == id) = false from beq_eq_false_iff_ne.2 hh]; simp
theorem selU_len (l : List S40) (id : Int) (k : Nat) : (selU (l.take k) id).length ≤ k := by
  unfold selU
  have := List.length_filter_le (fun u : S40 => !(u.f0 == id)) (l.take k)
  rw [List.length_take] at this
  omega
/-- What an own row of uploads holds, out of what was read at w. -/
structure RowU (w : World) (v : Value) (acc : List S40) (W : World) : Prop where
  bel : Below w.heap.size w W
  row : ∃ rows, RowsOf k40 w acc rows ∧ W.ownsRow w.heap.size 40 3 v acc.length rows.flatten
theorem RowU.nil (w W : World) (h : Below w.heap.size w W) : RowU w (.slice none 0 0) [] W := ⟨h, [], RowsOf.nil_, rfl, Or.inl ⟨rfl, rfl⟩⟩
theorem RowU.below {w W W2 : World} {v : Value} {acc : List S40} (h : RowU w v acc W) (hb : Below W.heap.size W W2) : RowU w v acc W2 := by
  obtain ⟨rows, h1, h2⟩ := h.row
  exact ⟨h.bel.trans (hb.mono h.bel.size), rows, h1, pw_own_below h2 hb⟩
theorem RowU.list {w W : World} {v : Value} {acc : List S40} (h : RowU w v acc W) (hl : acc.length ≤ 1000000) : ∃ A c, v = .slice A acc.length c ∧ acc.length ≤ c ∧ Kd.C k40 W A acc.length acc := by
  obtain ⟨rows, h1, h2⟩ := h.row
  exact own_list h1 h.bel h2 rfl hl
theorem RowU.push {w W W2 : World} {v v2 : Value} {acc : List S40} {u : S40} {c : List Value} {o : Obj} {rows : List (List Value)} (h : RowU w v acc W) (h1 : RowsOf k40 w acc rows) (h0 : W.ownsRow w.heap.size 40 3 v acc.length rows.flatten) (hk : k40.K w u c) (hg : (W.alloc o).grownBy W2 v.ownBlock) (hr : W2.ownsRow w.heap.size 40 3 v2 (acc.length + 1) (rows.flatten ++ c)) : RowU w v2 (acc ++ [u]) W2 := by
  refine ⟨(h.bel.alloc h.bel.size o).grown hg (by have := h.bel.size; simp; omega) (fun q hq => own_base h0 q hq), rows ++ [c], RowsOf.append h1 (RowsOf.one_ u c hk), ?_⟩
  rw [List.length_append, List.length_singleton, List.flatten_append]
  simpa using hr
theorem ref_find_calls (A : Option Addr) (c n : Nat) (l : List S40) (id : Int) (w : World) (u : S40) (e : Int) (h : findR l id = (u, e)) (hn : n = l.length) (hr : Hid (Kd.C k40 w A n l)) (hc : n ≤ c) :
    Calls Tryz.prog 12 #[.slice A n c, .int .u64 id] w fun e' w' => ∃ A c, e' = .returned (.tuple #[.agg #[.int .u64 u.f0, .string u.f1, .slice A u.f2.length c], .int .i64 e]) ∧ u.f2.length ≤ c ∧ Hid (Kd.C k25 w' A u.f2.length u.f2) ∧ Below w.heap.size w w' := by
  subst hn
  have := ref_find.walk A c l id w hr.out hc
  unfold FindPost at this
  rw [h] at this
  exact this
theorem abort_find (l : List S40) (id : Int) : (abortR l id).2 = (findR l id).2 ∧ ((findR l id).2 ≠ 0 → (abortR l id).1 = []) ∧ ((findR l id).2 = 0 → (abortR l id).1 = selU l id ∧ l.length ≤ 10) := by
  unfold abortR findR
  by_cases hc : checkB l = false
  · rw [if_pos hc, if_pos hc]
    exact ⟨rfl, fun _ => rfl, fun h => absurd h (by decide)⟩
  · rw [if_neg hc, if_neg hc]
    have hc' : checkB l = true := by cases h : checkB l <;> simp_all
    cases hp : posU l id with
    | none => exact ⟨rfl, fun _ => rfl, fun h => absurd h (show ¬ ((4 : Int) = 0) by decide)⟩
    | some i => exact ⟨rfl, fun h => absurd rfl h, fun _ => ⟨(del_filter hc' hp).symm, ((check_iff l).1 hc').1⟩⟩
set_option maxHeartbeats 8000000 in
set_option maxRecDepth 100000 in
theorem ref_abort.walk (A : Option Addr) (c : Nat) (l : List S40) (id : Int) (w : World) (hr : Kd.C k40 w A l.length l) (hc : l.length ≤ c) :
    Calls Tryz.prog 10 #[.slice A l.length c, .int .u64 id] w (ListPost (abortR l id).1 [.int .i64 (abortR l id).2] w) := by
  have HR := Lib.hid hr
  have hlen : (l.length : Int) ≤ 9223372036854775807 := by have := hr.2.1; omega
  obtain ⟨a1, a2, a3⟩ := abort_find l id
  obtain ⟨u, e, hF⟩ : ∃ u e, findR l id = (u, e) := ⟨_, _, rfl⟩
  rw [hF] at a1 a2 a3
  have HF := Lib.hid (ref_find_calls A c _ l id w u e hF rfl hr hc)
  clear hr hF
  simp only at a1 a2 a3
  by_cases he : e = 0
  · subst he
    obtain ⟨b1, b2⟩ := a3 rfl
    have HRES : Hid (abortR l id = (selU l id, 0)) := by unfold Hid; rw [← b1, ← a1]
    rw [HRES.out]
    clear a1 a2 a3 b1
    obtain ⟨i0, hi, hy0, hy1, hy2⟩ := info_parts info40
    go_enter Tryz.func10, Tryz.ntmps10
    go_wp2_with (go_at_call 12; refine HF.out.mono ?_; rintro e w1 ⟨A1, c1, rfl, hc1, HC1, hb⟩; have HB1 := Lib.hid hb; clear hb)
    have HU0 : Hid (RowU w (.slice none 0 0) [] (w1.alloc (.cells #[.int .u64 u.f0, .string u.f1, .slice A1 u.f2.length c1] 40))) := RowU.nil _ _ (HB1.out.alloc HB1.out.size _)
    clear HF HC1
    go_loopw [8, 9] (fun v i wr => ∃ (k : Nat), i = .int .i64 k ∧ k ≤ l.length ∧ Hid (RowU w v (selU (l.take k) id) wr)) (fun _ i _ => l.length - (intOf i).toNat)
    case atStart => exact ⟨0, rfl, Nat.zero_le _, HU0⟩
    case round =>
      obtain ⟨k, rfl, hk, hU⟩ := hrel
      by_cases hlt : k < l.length
      · obtain ⟨ad, A2, c2, e', g0, g1, g2, g3, g4⟩ := at25 HR.out (Below.refl _ _) k hlt
        subst e'
        have h0 := keepc hU.out.bel g0
        have h1 := keepc hU.out.bel g1
        have h2 := keepc hU.out.bel g2
        have p0 : (0 : Int) ≤ (k : Int) := by omega
        have p1 : (k : Int) < (l.length : Int) := by omega
        have HS := Lib.hid (selU_snoc l id k hlt)
        have HKK := Lib.hid (k40_mk w l[k] g3 g4)
        clear g0 g1 g2 g4
        by_cases hv : l[k].f0 = id
        · have hd : (l[k].f0 != id) = false := by simp [hv]
          have HV := Lib.hid hv
          clear hv
          go_wp2
          go_roundw
          case rel => exact ⟨k + 1, by go_num, hlt, by rw [HS.out, if_pos HV.out]; exact hU⟩
          case measure => simp [intOf]; omega
        · have hd : (l[k].f0 != id) = true := by simpa using hv
          have HV := Lib.hid hv
          clear hv
          obtain ⟨rows, hr1, hr2⟩ := hU.out.row
          have HR1 := Lib.hid hr1
          have HR2 := Lib.hid hr2
          clear hr1 hr2
          have hsl := selU_len l id k
          have hsz := hU.out.bel.size
          go_wp2_with (at_builtin; refine wpList_append_lies _ rfl _ _ 22 rfl w.heap.size 40 i0 (.agg #[(.int .u64 0), (.string ⟨#[]⟩), (.slice none 0 0)]) 3 48 Tryz.underlying22 hi hy0 hy1 hy2 rfl (by decide) _ _ _ rfl (HR2.out.alloc _) ⟨wr.heap.size, 0, none⟩ 1 1 [.int .u64 l[k].f0, .string l[k].f1, .slice A2 l[k].f2.length c2] rfl rfl ?c1 ?c2 (by decide) ?c3 ?c4 ?c5 _ rfl ?_)
          case c1 => exact World.news_of_block (blk_new wr _)
          case c2 => exact (by intro u hu; simp at hu; rcases hu with rfl | rfl | rfl <;> rfl)
          case c3 => unfold maxLen; omega
          case c4 => omega
          case c5 => simp; omega
          intro g cap w6 hown' hgrow _ _
          have hU6 := Lib.hid (hU.out.push HR1.out HR2.out HKK.out hgrow hown')
          clear hown' hgrow
          go_wp2
          go_roundw
          case rel => exact ⟨k + 1, by go_num, hlt, by rw [HS.out, if_neg HV.out]; exact hU6⟩
          case measure => simp [intOf]; omega
      · obtain rfl : k = l.length := by omega
        rw [List.take_length] at hU
        obtain ⟨A3, c3, rfl, h3, h4⟩ := hU.out.list (by have := selU_len l id l.length; rw [List.take_length] at this; omega)
        have H4 := Lib.hid h4
        clear h4
        go_wp2
        go_ret2
        exact ⟨A3, c3, rfl, h3, H4.out, hU.out.bel⟩
  · have hd : (e != 0) = true := by simpa using he
    have HRES : Hid (abortR l id = ([], e)) := by unfold Hid; rw [← a2 he, ← a1]
    rw [HRES.out]
    clear a1 a2 a3 he
    go_enter Tryz.func10, Tryz.ntmps10
    go_wp2_with (go_at_call 12; refine HF.out.mono ?_; rintro e w1 ⟨A1, c1, rfl, hc1, HC1, hb⟩; have HB1 := Lib.hid hb; clear hb)
    go_ret2
    exact ⟨none, 0, rfl, Nat.le_refl _, Kd.C_nil _ _, HB1.out.alloc HB1.out.size _⟩
end Go.Proofs.YtgpmkbmobdbdoaaGreatDoor.Q

-- V4
namespace Go.Proofs.YtgpmkbmobdbdoaaGreatDoor.Q
open Go.RowKit Go.Proofs.YtgpmkbmobdbdoaaGreatDoorW.PrintWords Go.Proofs.YtgpmkbmobdbdoaaGreatDoorW.PrintLast Go.Proofs.YtgpmkbmobdbdoaaGreatDoorW.PrintMore
set_option linter.unusedVariables false
set_option linter.unusedSimpArgs false

/-! The document's Lay is the program's (plain). -/
def loF (L : List S25) (m : Int) : List S25 := L.filter fun q => decide (q.f0 < m)
def hiF (L : List S25) (m : Int) : List S25 := L.filter fun q => decide (m < q.f0)
def insF (L : List S25) (p : S25) : List S25 := loF L p.f0 ++ [p] ++ hiF L p.f0
theorem ins_lay (L : List S25) (p : S25) (hs : L.Pairwise (fun a b => a.f0 < b.f0)) : insF L p = layParts L p ∧ (30 < (insF L p).length ∧ L.length ≤ 30 ↔ thereP L p.f0 = false ∧ L.length = 30) := by
  obtain ⟨A, M, B, e1, e2, e3, e4, e5⟩ := lay_split L p hs
  have fA : A.filter (fun q => decide (q.f0 < p.f0)) = A := List.filter_eq_self.2 (fun x hx => by simpa using e3 x hx)
  have fA2 : A.filter (fun q => decide (p.f0 < q.f0)) = [] := List.filter_eq_nil_iff.2 (fun x hx => by have := e3 x hx; simp; omega)
  have fB : B.filter (fun q => decide (q.f0 < p.f0)) = [] := List.filter_eq_nil_iff.2 (fun x hx => by have := e4 x hx; simp; omega)
  have fB2 : B.filter (fun q => decide (p.f0 < q.f0)) = B := List.filter_eq_self.2 (fun x hx => by simpa using e4 x hx)
  have fM : M.filter (fun q => decide (q.f0 < p.f0)) = [] ∧ M.filter (fun q => decide (p.f0 < q.f0)) = [] := by
    rcases e5 with ⟨rfl, _⟩ | ⟨q, rfl, hq, _⟩
    · exact ⟨rfl, rfl⟩
    · rw [List.filter_cons, List.filter_cons, decide_eq_false (by omega), decide_eq_false (by omega)]
      exact ⟨rfl, rfl⟩
  have h1 : loF L p.f0 = A := by
    unfold loF
    rw [e1, List.filter_append, List.filter_append, fA, fM.1, fB, List.append_nil, List.append_nil]
  have h2 : hiF L p.f0 = B := by
    unfold hiF
    rw [e1, List.filter_append, List.filter_append, fA2, fM.2, fB2, List.nil_append, List.nil_append]
  have h3 : insF L p = A ++ p :: B := by unfold insF; rw [h1, h2]; simp
  refine ⟨by rw [h3, e2], ?_⟩
  rw [h3]
  have hl := congrArg List.length e1
  rw [List.length_append, List.length_append] at hl
  rw [List.length_append, List.length_cons]
  rcases e5 with ⟨rfl, ht⟩ | ⟨q, rfl, hq, ht⟩
  · rw [ht]
    simp only [List.length_nil, Nat.zero_add] at hl
    constructor
    · rintro ⟨a, b⟩; exact ⟨rfl, by omega⟩
    · rintro ⟨_, b⟩; exact ⟨by omega, by omega⟩
  · rw [ht]
    simp only [List.length_singleton] at hl
    constructor
    · rintro ⟨a, b⟩; omega
    · rintro ⟨a, _⟩; cases a
theorem lay_ref (l : List S40) (id : Int) (p : S25) (u : S40) (hf : findR l id = (u, 0)) (hm : mayB p = true) :
    layR l id p = (if 30 < (insF u.f2 p).length then ([], 0, 6) else (l.map (fun y => if y.f0 = id then ⟨id, u.f1, insF u.f2 p⟩ else y), tagOf p.f1, 0)) ∧ l.length ≤ 10 ∧ u.f2.length ≤ 30 := by
  unfold findR at hf
  by_cases hc : checkB l = false
  · rw [if_pos hc] at hf; injection hf with _ h; exact absurd h (by decide)
  rw [if_neg hc] at hf
  have hc' : checkB l = true := by cases h : checkB l <;> simp_all
  obtain ⟨h10, hfine, hs⟩ := (check_iff l).1 hc'
  cases hp : posU l id with
  | none => rw [hp] at hf; injection hf with _ h; exact absurd h (show ¬ ((4 : Int) = 0) by decide)
  | some i =>
    rw [hp] at hf
    simp only at hf
    obtain ⟨hi, he⟩ := posU_lt hp
    have hg : l.getD i z40 = l[i] := by rw [List.getD_eq_getElem?_getD, List.getElem?_eq_getElem hi]; rfl
    rw [hg] at hf
    injection hf with hu _
    subst hu
    obtain ⟨g1, g2, g3, g4, g5⟩ := (fine_iff _ _ _).1 (hfine _ (List.getElem_mem hi))
    obtain ⟨e1, e2⟩ := ins_lay l[i].f2 p g5
    refine ⟨?_, h10, g3⟩
    unfold layR
    rw [if_neg (by rw [hc', hm]; simp), hp]
    simp only
    rw [hg]
    by_cases h2 : thereP l[i].f2 p.f0 = false ∧ l[i].f2.length = 30
    · rw [if_pos h2, if_pos (e2.2 h2).1]
    · rw [if_neg h2, if_neg (fun h => h2 (e2.1 ⟨h, g3⟩)), e1]
      congr 1
      apply List.ext_getElem (by simp)
      intro j h3 h4
      rw [List.getElem_set, List.getElem_map]
      by_cases hij : i = j
      · subst hij
        rw [if_pos rfl, if_pos he, he]
      · rw [if_neg hij, if_neg ?_]
        intro hj
        rw [List.length_set] at h3
        rw [List.pairwise_iff_getElem] at hs
        rcases Nat.lt_or_ge i j with h5 | h5
        · have := hs i j hi h3 h5; omega
        · have := hs j i h3 hi (by omega); omega
theorem lay_ref_err (l : List S40) (id : Int) (p : S25) (u : S40) (e : Int) (hf : findR l id = (u, e)) (h : mayB p = false ∨ e ≠ 0) : layR l id p = ([], 0, if e = 1 ∨ mayB p = false then 1 else e) := by
  unfold findR at hf
  unfold layR
  by_cases hc : checkB l = false
  · rw [if_pos hc] at hf
    injection hf with _ h1
    rw [if_pos (Or.inl hc), if_pos (Or.inl h1.symm)]
  · rw [if_neg hc] at hf
    by_cases hm : mayB p = false
    · rw [if_pos (Or.inr hm), if_pos (Or.inr hm)]
    · rw [if_neg (by rintro (h1 | h1); exact hc h1; exact hm h1)]
      cases hp : posU l id with
      | none =>
        rw [hp] at hf
        injection hf with _ h1
        simp only
        rw [if_neg (by rintro (h2 | h2); omega; exact hm h2), ← h1]
      | some i =>
        rw [hp] at hf
        injection hf with _ h1
        rcases h with h | h
        · exact absurd h hm
        · exact absurd h1.symm h
theorem loF_snoc (L : List S25) (m : Int) (k : Nat) (h : k < L.length) : loF (L.take (k + 1)) m = if L[k].f0 < m then loF (L.take k) m ++ [L[k]] else loF (L.take k) m := by
  rw [List.take_succ_eq_append_getElem h]
  unfold loF
  rw [List.filter_append, List.filter_cons, List.filter_nil]
  by_cases hh : L[k].f0 < m
  · rw [if_pos hh, decide_eq_true hh]; simp
  · rw [if_neg hh, decide_eq_false hh]; simp
theorem hiF_snoc (L : List S25) (m : Int) (k : Nat) (h : k < L.length) : hiF (L.take (k + 1)) m = if m < L[k].f0 then hiF (L.take k) m ++ [L[k]] else hiF (L.take k) m := by
  rw [List.take_succ_eq_append_getElem h]
  unfold hiF
  rw [List.filter_append, List.filter_cons, List.filter_nil]
  by_cases hh : m < L[k].f0
  · rw [if_pos hh, decide_eq_true hh]; simp
  · rw [if_neg hh, decide_eq_false hh]; simp
theorem loF_len (L : List S25) (m : Int) (k : Nat) : (loF (L.take k) m).length ≤ k := by
  unfold loF
  have := List.length_filter_le (fun q : S25 => decide (q.f0 < m)) (L.take k)
  rw [List.length_take] at this; omega
theorem hiF_len (L : List S25) (m : Int) (k : Nat) : (hiF (L.take k) m).length ≤ k := by
  unfold hiF
  have := List.length_filter_le (fun q : S25 => decide (m < q.f0)) (L.take k)
  rw [List.length_take] at this; omega
end Go.Proofs.YtgpmkbmobdbdoaaGreatDoor.Q

-- T24
namespace Go.Proofs.YtgpmkbmobdbdoaaGreatDoor.Q
open Go.RowKit Go.Proofs.YtgpmkbmobdbdoaaGreatDoorW.PrintWords Go.Proofs.YtgpmkbmobdbdoaaGreatDoorW.PrintLast Go.Proofs.YtgpmkbmobdbdoaaGreatDoorW.PrintMore
set_option linter.unusedVariables false
set_option linter.unusedSimpArgs false

def sK : ByteArray := ⟨#[107]⟩
def sHello : ByteArray := ⟨#[104, 101, 108, 108, 111]⟩
def sWorld : ByteArray := ⟨#[119, 111, 114, 108, 100]⟩
def sFour : ByteArray := ⟨#[102, 111, 117, 114]⟩
def sBoth : ByteArray := ⟨#[119, 111, 114, 108, 100, 104, 101, 108, 108, 111]⟩
def uK (l : List S25) : S40 := ⟨1, sK, l⟩
def pH : S25 := ⟨2, sHello⟩
def pW : S25 := ⟨1, sWorld⟩
def pF : S25 := ⟨3, sFour⟩
def pS : S25 := ⟨1, sFour⟩
set_option maxRecDepth 100000 in
theorem aw1 : beginR [] 1 sK = ([uK []], 0) := by rfl
set_option maxRecDepth 100000 in
theorem aw2 : layR [uK []] 1 pH = ([uK [pH]], tagOf sHello, 0) := by rfl
set_option maxRecDepth 100000 in
theorem aw3 : layR [uK [pH]] 1 pW = ([uK [pW, pH]], tagOf sWorld, 0) := by rfl
set_option maxRecDepth 100000 in
theorem aw4 : layR [uK [pW, pH]] 1 pF = ([uK [pW, pH, pF]], tagOf sFour, 0) := by rfl
set_option maxRecDepth 100000 in
theorem aw5 : findR [uK [pW, pH, pF]] 1 = (uK [pW, pH, pF], 0) := by rfl
set_option maxRecDepth 100000 in
theorem aw6 : wholeR (uK [pW, pH, pF]) [⟨1, tagOf sWorld⟩, ⟨2, tagOf sHello⟩] = (sBoth, manyText [tagOf sWorld, tagOf sHello], 0) := by
  unfold wholeR
  rw [if_neg (by intro h; rcases h with h | h; exact absurd h (by decide); exact absurd h (by decide)), if_neg (by decide), if_neg (by simp [lackB, hasPiece, isPiece, uK, pW, pH, pF]), if_neg (by decide), if_neg (by decide)]
  rfl
theorem aw7 : wholeR (uK [pW, pH, pF]) [⟨2, tagOf sHello⟩, ⟨1, tagOf sWorld⟩] = (noStr, noStr, 9) := by
  unfold wholeR
  rw [if_neg (by intro h; rcases h with h | h; exact absurd h (by decide); exact absurd h (by decide)), if_pos (by decide)]
theorem aw8 : layR [uK [pW, pH, pF]] 1 pS = ([uK [pS, pH, pF]], tagOf sFour, 0) := by rfl
theorem aw9 : findR [uK [pS, pH, pF]] 1 = (uK [pS, pH, pF], 0) := by rfl
theorem aw10 : wholeR (uK [pS, pH, pF]) [⟨1, tagOf sFour⟩, ⟨2, tagOf sHello⟩] = (noStr, noStr, 3) := by
  unfold wholeR
  rw [if_neg (by intro h; rcases h with h | h; exact absurd h (by decide); exact absurd h (by decide)), if_neg (by decide), if_neg (by simp [lackB, hasPiece, isPiece, uK, pS, pH, pF]), if_pos (by decide)]
theorem awBegin (w : World) : Calls Tryz.prog 18 #[.slice none 0 0, .int .u64 1, .string ⟨#[107]⟩] w fun e w' => ∃ A c, e = .returned (.tuple #[.slice A 1 c, .int .i64 0]) ∧ 1 ≤ c ∧ Hid (Kd.C k40 w' A 1 [uK []]) ∧ Below w.heap.size w w' := by
  have := begin.walk none 0 [] 1 sK w (Kd.C_nil _ _) (Nat.le_refl _)
  rw [aw1] at this
  exact this
theorem awLay (A : Option Addr) (c : Nat) (x y : List S25) (n : Int) (s : ByteArray) (w : World) (h : layR [uK x] 1 ⟨n, s⟩ = ([uK y], tagOf s, 0)) (hr : Hid (Kd.C k40 w A 1 [uK x])) (hc : 1 ≤ c) :
    Calls Tryz.prog 7 #[.slice A 1 c, .int .u64 1, .agg #[.int .i64 n, .string s]] w fun e w' => ∃ A c, e = .returned (.tuple #[.slice A 1 c, .int .u32 (tagOf s), .int .i64 0]) ∧ 1 ≤ c ∧ Hid (Kd.C k40 w' A 1 [uK y]) ∧ Below w.heap.size w w' := by
  have := lay.walk A c [uK x] 1 ⟨n, s⟩ w hr.out hc
  rw [h] at this
  exact this
theorem awFind (A : Option Addr) (c : Nat) (x : List S25) (w : World) (h : findR [uK x] 1 = (uK x, 0)) (hr : Hid (Kd.C k40 w A 1 [uK x])) (hc : 1 ≤ c) :
    Calls Tryz.prog 11 #[.slice A 1 c, .int .u64 1] w fun e w' => ∃ A c, e = .returned (.tuple #[.agg #[.int .u64 1, .string sK, .slice A x.length c], .int .i64 0]) ∧ x.length ≤ c ∧ Hid (Kd.C k25 w' A x.length x) ∧ Below w.heap.size w w' := by
  have := find.walk A c [uK x] 1 w hr.out hc
  unfold FindPost at this
  rw [h] at this
  exact this
theorem awWhole (A : Option Addr) (c : Nat) (x : List S25) (n m s t : Int) (r : ByteArray × ByteArray × Int) (w0 w : World) (b : Nat) (h : wholeR (uK x) [⟨n, s⟩, ⟨m, t⟩] = r) (hr : Hid (Kd.C k25 w0 A x.length x)) (hc : x.length ≤ c)
    (hw : Below w0.heap.size w0 w) (hb : w.heap[b]? = some (.cells #[.int .i64 n, .int .u32 s, .int .i64 m, .int .u32 t] 70 (0, 0))) :
    Calls Tryz.prog 36 #[.agg #[.int .u64 1, .string sK, .slice A x.length c], .slice (some ⟨b, 0, none⟩) 2 2] w fun e w' => e = .returned (.tuple #[.string r.1, .string r.2.1, .int .i64 r.2.2]) ∧ Below w.heap.size w w' := by
  have h1 := RowsOf.append (RowsOf.one_ (⟨n, s⟩ : S70) _ (k70_mk w ⟨n, s⟩)) (RowsOf.one_ (⟨m, t⟩ : S70) _ (k70_mk w ⟨m, t⟩))
  have := whole.walk (uK x) A c (some ⟨b, 0, none⟩) 2 [⟨n, s⟩, ⟨m, t⟩] _ (by simp) (Kd.C_below hr.out hw) hc (rows_C h1 (blk_raw hb 4 rfl) (by simp))
  rw [h] at this
  exact this
theorem blk_new1 (w : World) (c1 c2 : Array Value) (t1 t2 : TypeId) : ((w.alloc (.cells c1 t1)).alloc (.cells c2 t2)).heap[w.heap.size + 1]? = some (.cells c2 t2 (0, 0)) := by
  have := blk_new (w.alloc (.cells c1 t1)) (.cells c2 t2)
  rwa [World.size_alloc] at this
theorem below1 (w : World) (o : Obj) : Below w.heap.size w (w.alloc o) := (Below.refl _ _).alloc (Nat.le_refl _) _
theorem below2 (w : World) (o p : Obj) : Below w.heap.size w ((w.alloc o).alloc p) := (below1 w o).alloc (by simp) _
theorem keepR {α : Type} {d : Kd α} {w w' : World} {A : Option Addr} {n : Nat} {l : List α} (h : Hid (Kd.C d w A n l)) (hb : Below w.heap.size w w') : Hid (Kd.C d w' A n l) := Kd.C_below h.out hb
set_option maxHeartbeats 8000000 in
set_option maxRecDepth 100000 in
theorem awake.walk (w : World) : Calls Tryz.prog 16 #[] w fun e w' => e = .returned (.bool true) ∧ Below w.heap.size w w' := by
  have HB0 : Hid (Below w.heap.size w w) := Below.refl _ _
  have T0 : Hid True := trivial
  go_enter Tryz.func16, Tryz.ntmps16
  go_wp2_with (first
    | (go_at_call 18; have _t := T0; refine (awBegin _).mono ?_; rintro e w1 ⟨A1, c1, rfl, hc1, R1, hb⟩; have HB := keepB HB0 hb; clear hb HB0 _t T0)
    | (go_at_call 7; have _t := R1; refine (awLay A1 c1 [] [pH] 2 sHello _ aw2 R1 hc1).mono ?_; rintro e w2 ⟨A2, c2, rfl, hc2, R2, hb⟩; have HB := keepB HB hb; clear hb _t R1)
    | (go_at_call 7; have _t := R2; refine (awLay A2 c2 [pH] [pW, pH] 1 sWorld _ aw3 R2 hc2).mono ?_; rintro e w3 ⟨A3, c3, rfl, hc3, R3, hb⟩; have HB := keepB HB hb; clear hb _t R2)
    | (go_at_call 7; have _t := R3; refine (awLay A3 c3 [pW, pH] [pW, pH, pF] 3 sFour _ aw4 R3 hc3).mono ?_; rintro e w4 ⟨A4, c4, rfl, hc4, R4, hb⟩; have HB := keepB HB hb; clear hb _t R3)
    | (go_at_call 11; have _t := R4; refine (awFind A4 c4 [pW, pH, pF] _ aw5 R4 hc4).mono ?_; rintro e w5 ⟨A5, c5, rfl, hc5, R5, hb⟩; have HB := keepB HB hb; have R6 := keepR R4 hb; clear hb _t R4)
    | (go_at_call 36; have _t := R5; refine (awWhole A5 c5 [pW, pH, pF] 1 2 (tagOf sWorld) (tagOf sHello) (⟨#[119, 111, 114, 108, 100, 104, 101, 108, 108, 111]⟩, manyText [tagOf sWorld, tagOf sHello], 0) w5 _ _ aw6 R5 hc5 (below2 _ _ _) (blk_new1 _ _ _ _ _)).mono ?_; rintro e w6 ⟨rfl, hb⟩; have hk1 := blk_below (blk_alloc (blk_new w5 _) _) hb; have u0 := (blk_cell hk1 0).trans rfl; have u1 := (blk_cell hk1 1).trans rfl; have u2 := (blk_cell hk1 2).trans rfl; have hb := (keepB (Lib.hid (below2 _ _ _)) hb).out; have HB := keepB HB hb; have R6 := keepR R6 hb; have R7 := keepR R5 hb; clear hb _t R5 hk1)
    | (go_at_call 36; have _t := R7; refine (awWhole A5 c5 [pW, pH, pF] 2 1 (tagOf sHello) (tagOf sWorld) (⟨#[]⟩, ⟨#[]⟩, 9) w6 _ _ aw7 R7 hc5 (below1 _ _) (blk_new _ _)).mono ?_; rintro e w7 ⟨rfl, hb⟩; have hb := (keepB (Lib.hid (below1 _ _)) hb).out; have HB := keepB HB hb; have R8 := keepR R6 hb; clear hb _t R7 R6 u0 u1 u2)
    | (go_at_call 7; have _t := R8; refine (awLay A4 c4 [pW, pH, pF] [pS, pH, pF] 1 sFour _ aw8 R8 hc4).mono ?_; rintro e w8 ⟨A8, c8, rfl, hc8, R9, hb⟩; have HB := keepB HB hb; clear hb _t R8)
    | (go_at_call 11; have _t := R9; refine (awFind A8 c8 [pS, pH, pF] _ aw9 R9 hc8).mono ?_; rintro e w9 ⟨A9, c9, rfl, hc9, R10, hb⟩; have HB := keepB HB hb; clear hb _t R9)
    | (go_at_call 36; have _t := R10; refine (awWhole A9 c9 [pS, pH, pF] 1 2 (tagOf sFour) (tagOf sHello) (⟨#[]⟩, ⟨#[]⟩, 3) w9 _ _ aw10 R10 hc9 (below2 _ _ _) (blk_new1 _ _ _ _ _)).mono ?_; rintro e w10 ⟨rfl, hb⟩; have hb := (keepB (Lib.hid (below2 _ _ _)) hb).out; have HB := keepB HB hb; clear hb _t R10))
  go_ret
  exact ⟨rfl, HB.out⟩
end Go.Proofs.YtgpmkbmobdbdoaaGreatDoor.Q

-- P3
namespace Go.Proofs.YtgpmkbmobdbdoaaGreatDoor.Q
open Go.RowKit Go.Proofs.YtgpmkbmobdbdoaaGreatDoorW.PrintWords Go.Proofs.YtgpmkbmobdbdoaaGreatDoorW.PrintLast Go.Proofs.YtgpmkbmobdbdoaaGreatDoorW.PrintMore
set_option linter.unusedVariables false
set_option linter.unusedSimpArgs false

/-! law08.Few in plain words. -/
def fewKey (s : ByteArray) : ByteArray := if (s.size : Int) > 80 then s.extract 0 80 else s
def onePart (p : S25) : S25 := ⟨p.f0, if (p.f1.size : Int) > 2001 then p.f1.extract 0 2001 else p.f1⟩
def fewU (u : S40) : S40 := ⟨u.f0, fewKey u.f1, (u.f2.take 31).map onePart⟩
def fewL (l : List S40) : List S40 := (l.take 11).map fewU
theorem few_key (s : ByteArray) : cellarerlaw01_Few.f s = some (fewKey s) := by
  unfold cellarerlaw01_Few.f fewKey
  by_cases h : (s.size : Int) > 80
  · rw [if_pos h, if_pos (by decide), if_pos (by omega), if_pos h]
  · rw [if_neg h, if_neg h]
theorem one_part (p : S25) : cellarerlaw08_One.f p.f0 p.f1 = some ((onePart p).f0, (onePart p).f1) := by
  unfold cellarerlaw08_One.f onePart
  by_cases h : (p.f1.size : Int) > 2001
  · rw [if_pos h, if_pos (by decide), if_pos (by omega)]; simp only [if_pos h]
  · rw [if_neg h]; simp only [if_neg h]
theorem few_l1 (l : List S40) (out : List S40) (i : Nat) (hi : i < l.length) (hi2 : i < 11) (hout : out.length ≤ i) (a : Int) (b : ByteArray) (k : Nat) :
    ∀ (d j : Nat) (acc : List S25), j + d = min 31 (l.getD i z40).f2.length → acc.length ≤ j →
    cellarerlaw08_Few.l1 (k + d + 1) l out (i : Int) (j : Int) a b acc = cellarerlaw08_Few.l0 k l (out ++ [⟨a, b, acc ++ ((((l.getD i z40).f2.take 31).drop j).map onePart)⟩]) ((i + 1 : Nat) : Int) := by
  have er : rd_T40 l (i : Int) = l.getD i z40 := by unfold rd_T40; rw [Int.toNat_natCast]
  have ew : wrap64 ((i : Int) + 1) = ((i + 1 : Nat) : Int) := by rw [wrap64_of (by omega) (by omega)]; omega
  intro d
  induction d with
  | zero =>
    intro j acc hj hacc
    rw [show k + 0 + 1 = k + 1 from rfl]
    simp only [cellarerlaw08_Few.l1]
    rw [if_pos (by omega), if_pos (by omega), er, ew]
    have hd : (((l.getD i z40).f2.take 31).drop j) = [] := List.drop_eq_nil_of_le (by rw [List.length_take]; omega)
    rw [hd, List.map_nil, List.append_nil]
    by_cases h1 : (j : Int) < ((l.getD i z40).f2.length : Int)
    · rw [if_pos h1, if_neg (by omega), if_pos (by omega)]
    · rw [if_neg h1, if_pos (by omega)]
  | succ d ih =>
    intro j acc hj hacc
    rw [show k + (d + 1) + 1 = (k + d + 1) + 1 from rfl]
    generalize hK : k + d + 1 = K
    simp only [cellarerlaw08_Few.l1]
    subst hK
    rw [if_pos (by omega), if_pos (by omega), er, if_pos (by omega), if_pos (by omega), if_pos (by omega)]
    have e2 : rd_T25 (l.getD i z40).f2 (j : Int) = (l.getD i z40).f2.getD j z25 := by unfold rd_T25; rw [Int.toNat_natCast]
    rw [e2, one_part, Option.bind_some, if_pos (by omega), show wrap64 ((j : Int) + 1) = ((j + 1 : Nat) : Int) by rw [wrap64_of (by omega) (by omega)]; omega,
      ih (j + 1) _ (by omega) (by rw [List.length_append, List.length_singleton]; omega)]
    have hj1 : j < ((l.getD i z40).f2.take 31).length := by rw [List.length_take]; omega
    rw [List.drop_eq_getElem_cons hj1, List.map_cons, List.append_assoc, List.singleton_append]
    have : ((l.getD i z40).f2.take 31)[j] = (l.getD i z40).f2.getD j z25 := by
      rw [List.getElem_take, List.getD_eq_getElem?_getD (l := (l.getD i z40).f2), List.getElem?_eq_getElem (l := (l.getD i z40).f2) (by rw [List.length_take] at hj1; omega)]; rfl
    rw [this]
def needU : List S40 → Nat
  | [] => 2
  | u :: us => needU us + min 31 u.f2.length + 3
theorem few_l0 (l : List S40) (hn : (l.length : Int) ≤ 9223372036854775807) : ∀ (us : List S40) (i : Nat) (out : List S40), us = (l.take 11).drop i → out.length = i → i ≤ min 11 l.length →
    cellarerlaw08_Few.l0 (needU us) l out (i : Int) = some (out ++ us.map fewU) := by
  intro us
  induction us with
  | nil =>
    intro i out hu ho hi
    have hl : min 11 l.length ≤ i := by
      have := congrArg List.length hu
      rw [List.length_drop, List.length_take] at this
      simp at this; omega
    show cellarerlaw08_Few.l0 (1 + 1) l out (i : Int) = _
    simp only [cellarerlaw08_Few.l0]
    by_cases h : (i : Int) < (l.length : Int)
    · rw [if_pos h, show decide ((i : Int) < 11) = false by simp; omega]
      simp [cellarerlaw08_Few.j1]
    · rw [if_neg h]; simp [cellarerlaw08_Few.j1]
  | cons u us ih =>
    intro i out hu ho hi
    have hlen : i < (l.take 11).length := by
      have := congrArg List.length hu
      rw [List.length_drop] at this
      simp only [List.length_cons] at this; omega
    rw [List.drop_eq_getElem_cons hlen] at hu
    injection hu with hu1 hu2
    rw [List.length_take] at hlen
    have hu3 : l.getD i z40 = u := by rw [hu1, List.getElem_take, List.getD_eq_getElem?_getD, List.getElem?_eq_getElem (by omega)]; rfl
    have er : rd_T40 l (i : Int) = u := by unfold rd_T40; rw [Int.toNat_natCast, hu3]
    show cellarerlaw08_Few.l0 (needU us + min 31 u.f2.length + 1 + 1 + 1) l out (i : Int) = _
    generalize hK : needU us + min 31 u.f2.length + 1 = K
    simp only [cellarerlaw08_Few.l0]
    rw [if_pos (by omega), show decide ((i : Int) < 11) = true by simp; omega]
    simp only [cellarerlaw08_Few.j1]
    subst hK
    rw [if_pos trivial, if_pos (by omega), if_pos (by omega), er, few_key, Option.bind_some]
    have := few_l1 l out i (by omega) (by omega) (by omega) u.f0 (fewKey u.f1) (needU us) (min 31 u.f2.length) 0 [] (by rw [hu3]; omega) (by simp)
    rw [show ((0 : Nat) : Int) = 0 from rfl] at this
    rw [this, hu3, List.drop_zero, List.nil_append, ih (i + 1) _ hu2 (by simp [ho]) (by omega), List.map_cons, List.append_assoc]
    rfl
theorem few_of (l : List S40) (hn : (l.length : Int) ≤ 9223372036854775807) : ∃ k, cellarerlaw08_Few.f k l = some (fewL l) :=
  ⟨needU (l.take 11), by unfold cellarerlaw08_Few.f; exact few_l0 l hn (l.take 11) 0 [] rfl rfl (by omega)⟩
end Go.Proofs.YtgpmkbmobdbdoaaGreatDoor.Q

-- T25
namespace Go.Proofs.YtgpmkbmobdbdoaaGreatDoor.Q
open Go.RowKit Go.Proofs.YtgpmkbmobdbdoaaGreatDoorW.PrintWords Go.Proofs.YtgpmkbmobdbdoaaGreatDoorW.PrintLast Go.Proofs.YtgpmkbmobdbdoaaGreatDoorW.PrintMore
set_option linter.unusedVariables false
set_option linter.unusedSimpArgs false

theorem few.walk (A : Option Addr) (c : Nat) (l : List S40) (w : World) (hr : Kd.C k40 w A l.length l) (hc : l.length ≤ c) :
    Calls Tryz.prog 5 #[.slice A l.length c] w fun e w' => ∃ A' c', e = .returned (.slice A' (fewL l).length c') ∧ (fewL l).length ≤ c' ∧ Kd.C k40 w' A' (fewL l).length (fewL l) ∧ Below w.heap.size w w' := by
  obtain ⟨k, hk⟩ := few_of l (by have := hr.2.1; omega)
  refine (cellarerlaw08_Few.calls k A c l _ w hr hc hk).mono ?_
  rintro e w' ⟨v, rfl, hs, hb⟩
  obtain ⟨A', c', rfl, hl, hC⟩ := Kd.R_reads (Kd.S_R hs)
  exact ⟨A', c', rfl, hl, hC, hb⟩
/-- A slice of one upload: what Few makes of it; it is the call's own. -/
def Few1Post (u : S40) (w : World) (e : Ending) (w' : World) : Prop :=
  ∃ ad A3 c3 c', e = .returned (.slice (some ad) 1 c') ∧ w.heap.size ≤ ad.block ∧ w'.cell? ad = some (.int .u64 (fewU u).f0) ∧ w'.cell? ⟨ad.block, ad.off + 1, none⟩ = some (.string (fewU u).f1) ∧
      w'.cell? ⟨ad.block, ad.off + 2, none⟩ = some (.slice A3 (fewU u).f2.length c3) ∧ (fewU u).f2.length ≤ c3 ∧ Hid (∀ W : World, (∀ k, w.heap.size ≤ k → k < w'.heap.size → W.heap[k]? = w'.heap[k]?) → Kd.C k25 W A3 (fewU u).f2.length (fewU u).f2) ∧ Below w.heap.size w w'
theorem few1.walk (b c : Nat) (u : S40) (A2 : Option Addr) (c2 : Nat) (w : World) (hb : w.heap[b]? = some (.cells #[.int .u64 u.f0, .string u.f1, .slice A2 u.f2.length c2] 40 (0, 0))) (hr : Kd.C k25 w A2 u.f2.length u.f2) (hc : u.f2.length ≤ c2) (h1 : 1 ≤ c) :
    Calls Tryz.prog 5 #[.slice (some ⟨b, 0, none⟩) 1 c] w (Few1Post u w) := by
  have h0 := rows_C (RowsOf.one_ u _ (k40_mk w u hc hr)) (blk_raw hb 3 rfl) (by simp)
  obtain ⟨k, hk⟩ := few_of [u] (by simp)
  refine (cellarerlaw08_Few.calls k _ c [u] _ w h0 h1 hk).mono ?_
  rintro e w' ⟨v, rfl, hs, hb'⟩
  have e0 : fewL [u] = [fewU u] := rfl
  rw [e0] at hs
  obtain ⟨hok, hrow⟩ := Kd.R_bound (Kd.S_R hs)
  obtain ⟨A', c', rfl, hle, hrd⟩ := hrow.reads
  obtain ⟨ad, rfl, hcl⟩ := hrd.2.2 (by simp)
  obtain ⟨cs, hl, hM, hcell⟩ := hcl 0 (fewU u) rfl
  obtain ⟨v2, rfl, hR2⟩ := k40_openM hM
  obtain ⟨A3, c3, rfl, hl3, hC3⟩ := Kd.R_reads hR2
  have f0 := hcell 0 _ rfl
  have f1 := hcell 1 _ rfl
  have f2 := hcell 2 _ rfl
  refine ⟨ad, A3, c3, c', rfl, (hok ad.block (by simp [Value.ownBlock])).2.1, by simpa [Addr.add] using f0, by simpa [Addr.add] using f1, by simpa [Addr.add] using f2, hl3, fun W hW => ?_, hb'⟩
  obtain ⟨A4, c4, e4, _, hC4⟩ := Kd.R_reads (Kd.R_step (w1 := W) hR2 (fun k hk hlt => hW k hk.1.2.1 hlt))
  injection e4 with e5 _ _
  subst e5
  exact hC4
end Go.Proofs.YtgpmkbmobdbdoaaGreatDoor.Q

-- T28
namespace Go.Proofs.YtgpmkbmobdbdoaaGreatDoor.Q
open Go.RowKit Go.Proofs.YtgpmkbmobdbdoaaGreatDoorW.PrintWords Go.Proofs.YtgpmkbmobdbdoaaGreatDoorW.PrintLast Go.Proofs.YtgpmkbmobdbdoaaGreatDoorW.PrintMore
attribute [local go_sem high] eqA25
set_option linter.unusedVariables false
set_option linter.unusedSimpArgs false

theorem lay_calls (A : Option Addr) (c n : Nat) (l : List S40) (id : Int) (p : S25) (w : World) (next : List S40) (t e : Int) (h : layR l id p = (next, t, e)) (hn : n = l.length) (hr : Hid (Kd.C k40 w A n l)) (hc : n ≤ c) :
    Calls Tryz.prog 7 #[.slice A n c, .int .u64 id, .agg #[.int .i64 p.f0, .string p.f1]] w fun e' w' => ∃ A c, e' = .returned (.tuple #[.slice A next.length c, .int .u32 t, .int .i64 e]) ∧ next.length ≤ c ∧ Hid (Kd.C k40 w' A next.length next) ∧ Below w.heap.size w w' := by
  subst hn
  have := lay.walk A c l id p w hr.out hc
  rw [h] at this
  exact this
theorem find_calls (A : Option Addr) (c n : Nat) (l : List S40) (id : Int) (w : World) (u : S40) (e : Int) (h : findR l id = (u, e)) (hn : n = l.length) (hr : Hid (Kd.C k40 w A n l)) (hc : n ≤ c) :
    Calls Tryz.prog 11 #[.slice A n c, .int .u64 id] w fun e' w' => ∃ A c, e' = .returned (.tuple #[.agg #[.int .u64 u.f0, .string u.f1, .slice A u.f2.length c], .int .i64 e]) ∧ u.f2.length ≤ c ∧ Hid (Kd.C k25 w' A u.f2.length u.f2) ∧ Below w.heap.size w w' := by
  subst hn
  have := find.walk A c l id w hr.out hc
  unfold FindPost at this
  rw [h] at this
  exact this
theorem one_calls (p : S25) (w : World) : Calls Tryz.prog 6 #[.agg #[.int .i64 p.f0, .string p.f1]] w fun e w' => e = .returned (.agg #[.int .i64 (onePart p).f0, .string (onePart p).f1]) ∧ Below w.heap.size w w' := cellarerlaw08_One.calls _ _ _ _ w (one_part p)
theorem blk_two {w : World} {b : Nat} {x y x' y' : Value} {t : TypeId} (h : w.heap[b]? = some (.cells #[x, y] t (0, 0))) : ((w.setCell ⟨b, 0, none⟩ x').setCell ⟨b, 1, none⟩ y').heap[b]? = some (.cells #[x', y'] t (0, 0)) := blk_set (blk_set h 0 x') 1 y'
/-- What was made behind block b, and stays while those blocks stay. -/
def FarC (b : Nat) (w1 : World) (A : Option Addr) (l : List S40) : Prop := ∀ W : World, (∀ k, b ≤ k → k < w1.heap.size → W.heap[k]? = w1.heap[k]?) → Kd.C k40 W A l.length l
theorem FarC.below {b : Nat} {w1 w2 : World} {A : Option Addr} {l : List S40} (h : FarC b w1 A l) (hb : Below w1.heap.size w1 w2) : FarC b w2 A l := fun W hW => h W (fun k h1 h2 => (hW k h1 (Nat.lt_of_lt_of_le h2 hb.size)).trans (hb.block k h2))
theorem keepF {b : Nat} {w1 w2 : World} {A : Option Addr} {l : List S40} (h : Hid (FarC b w1 A l)) (hb : Below w1.heap.size w1 w2) : Hid (FarC b w2 A l) := h.out.below hb
theorem FarC.set2 {b g : Nat} {w1 : World} {A : Option Addr} {l : List S40} {x y : Value} (h : FarC b w1 A l) (hg : g < b) : Kd.C k40 ((w1.setCell ⟨g, 0, none⟩ x).setCell ⟨g, 1, none⟩ y) A l.length l :=
  h _ (fun k h1 _ => by rw [Below.heap_setCell _ ⟨g, 1, none⟩ _ _ (by simp; omega), Below.heap_setCell _ ⟨g, 0, none⟩ _ _ (by simp; omega)])
theorem fewX.walk (A : Option Addr) (c : Nat) (l : List S40) (w : World) (hr : Kd.C k40 w A l.length l) (hc : l.length ≤ c) :
    Calls Tryz.prog 5 #[.slice A l.length c] w fun e w' => ∃ A' c', e = .returned (.slice A' (fewL l).length c') ∧ (fewL l).length ≤ c' ∧ FarC w.heap.size w' A' (fewL l) ∧ Below w.heap.size w w' := by
  obtain ⟨k, hk⟩ := few_of l (by have := hr.2.1; omega)
  refine (cellarerlaw08_Few.calls k A c l _ w hr hc hk).mono ?_
  rintro e w' ⟨v, rfl, hs, hb⟩
  obtain ⟨A', c', rfl, hl, hC⟩ := Kd.R_reads (Kd.S_R hs)
  refine ⟨A', c', rfl, hl, fun W hW => ?_, hb⟩
  obtain ⟨A4, c4, e4, _, hC4⟩ := Kd.R_reads (Kd.R_step (w1 := W) (Kd.S_R (Kd.S_bound hs)) (fun k hk hlt => hW k hk.2.1 hlt))
  injection e4 with e5 _ _
  subst e5
  exact hC4
theorem FarC.mono {b b' : Nat} {w1 : World} {A : Option Addr} {l : List S40} (h : FarC b w1 A l) (hb : b' ≤ b) : FarC b' w1 A l := fun W hW => h W (fun k h1 h2 => hW k (Nat.le_trans hb h1) h2)
end Go.Proofs.YtgpmkbmobdbdoaaGreatDoor.Q

-- P14
namespace Go.Proofs.YtgpmkbmobdbdoaaGreatDoor.Q
open Go.RowKit Go.Proofs.YtgpmkbmobdbdoaaGreatDoorW.PrintWords Go.Proofs.YtgpmkbmobdbdoaaGreatDoorW.PrintLast Go.Proofs.YtgpmkbmobdbdoaaGreatDoorW.PrintMore
set_option linter.unusedVariables false
set_option linter.unusedSimpArgs false

/-! The document's Same of one list and the same. -/
theorem same_l1 (l : List S40) (i : Nat) (hi : i < l.length) (hn : (l.length : Int) ≤ 9223372036854775807) (hm : (l[i].f2.length : Int) ≤ 9223372036854775807) (k : Nat) : ∀ (d j : Nat), j + d = l[i].f2.length →
    cellarerref08_Same.l1 (k + d + 1) l l (i : Int) (j : Int) = cellarerref08_Same.l0 k l l ((i + 1 : Nat) : Int) := by
  have e1 : rd_T40 l (i : Int) = l[i] := by unfold rd_T40; rw [Int.toNat_natCast, List.getD_eq_getElem?_getD, List.getElem?_eq_getElem hi]; rfl
  intro d
  induction d with
  | zero =>
    intro j hj
    rw [show k + 0 + 1 = k + 1 from rfl]
    simp only [cellarerref08_Same.l1]
    rw [if_pos (by omega), if_pos (by omega), e1, if_neg (by omega), wrap64_of (by omega) (by omega)]
    congr 1
  | succ d ih =>
    intro j hj
    rw [show k + (d + 1) + 1 = (k + d + 1) + 1 from rfl]
    generalize hK : k + d + 1 = K
    simp only [cellarerref08_Same.l1]
    subst hK
    rw [if_pos (by omega), if_pos (by omega), e1, if_pos (by omega), if_pos (by omega), if_pos (by omega), if_pos (by omega), if_neg (by simp), wrap64_of (by omega) (by omega), show (j : Int) + 1 = ((j + 1 : Nat) : Int) by omega]
    exact ih (j + 1) (by omega)
def needS : List S40 → Nat
  | [] => 1
  | u :: us => needS us + u.f2.length + 3
theorem same_l0 (l : List S40) (hn : (l.length : Int) ≤ 9223372036854775807) (hm : ∀ u ∈ l, (u.f2.length : Int) ≤ 9223372036854775807) : ∀ (us : List S40) (i : Nat), us = l.drop i → i ≤ l.length →
    cellarerref08_Same.l0 (needS us) l l (i : Int) = some true := by
  intro us
  induction us with
  | nil =>
    intro i hus hil
    have h1 : ¬ i < l.length := by
      intro h
      have := congrArg List.length hus
      rw [List.length_drop] at this; simp at this; omega
    show cellarerref08_Same.l0 (0 + 1) _ _ _ = _
    simp only [cellarerref08_Same.l0]
    rw [if_neg (by omega)]
  | cons u us ih =>
    intro i hus hil
    have hi1 : i < l.length := by
      have := congrArg List.length hus
      rw [List.length_drop] at this; simp at this; omega
    rw [List.drop_eq_getElem_cons hi1] at hus
    injection hus with hu hus
    have e1 : rd_T40 l (i : Int) = u := by unfold rd_T40; rw [Int.toNat_natCast, List.getD_eq_getElem?_getD, List.getElem?_eq_getElem hi1, hu]; rfl
    have hul := hm u (by rw [hu]; exact List.getElem_mem _)
    show cellarerref08_Same.l0 (needS us + u.f2.length + 1 + 1 + 1) _ _ _ = _
    generalize hK : needS us + u.f2.length + 1 + 1 = K
    simp only [cellarerref08_Same.l0]
    subst hK
    rw [if_pos (by omega), if_pos (by omega), if_pos (by omega), e1, if_pos trivial, if_pos trivial]
    generalize hK : needS us + u.f2.length + 1 = K
    simp only [cellarerref08_Same.j1]
    subst hK
    rw [if_neg (by simp)]
    have := same_l1 l i hi1 hn (by rw [← hu]; exact hul) (needS us) u.f2.length 0 (by rw [← hu]; omega)
    rw [show ((0 : Nat) : Int) = 0 from rfl] at this
    rw [this]
    exact ih (i + 1) hus (by omega)
theorem same_refl (l : List S40) (hn : (l.length : Int) ≤ 9223372036854775807) (hm : ∀ u ∈ l, (u.f2.length : Int) ≤ 9223372036854775807) : cellarerref08_Same.f (needS l) l l = some true := by
  unfold cellarerref08_Same.f
  rw [if_pos rfl]
  have := same_l0 l hn hm l 0 (by simp) (Nat.zero_le _)
  exact this
theorem same_calls {w : World} {A0 A1 : Option Addr} {c0 c1 : Nat} {l : List S40} (hr0 : Kd.C k40 w A0 l.length l) (hc0 : l.length ≤ c0) (hr1 : Kd.C k40 w A1 l.length l) (hc1 : l.length ≤ c1) :
    Calls Tryz.prog 13 #[.slice A0 l.length c0, .slice A1 l.length c1] w fun e w' => e = .returned (.bool true) ∧ Drawn0 w w' :=
  cellarerref08_Same.calls (needS l) A0 c0 l A1 c1 l true w hr0 hc0 hr1 hc1 (same_refl l (by have := hr0.2.1; omega) (inner_bound hr0))
end Go.Proofs.YtgpmkbmobdbdoaaGreatDoor.Q

-- T31
namespace Go.Proofs.YtgpmkbmobdbdoaaGreatDoor.Q
open Go.RowKit Go.Proofs.YtgpmkbmobdbdoaaGreatDoorW.PrintWords Go.Proofs.YtgpmkbmobdbdoaaGreatDoorW.PrintLast Go.Proofs.YtgpmkbmobdbdoaaGreatDoorW.PrintMore
attribute [local go_sem] max2_int min2_int max_two min_two max_three min_three max_four min_four   -- for this text's walks alone
set_option linter.unusedVariables false
set_option linter.unusedSimpArgs false

theorem abort_calls (A : Option Addr) (c n : Nat) (l : List S40) (id : Int) (w : World) (next : List S40) (e : Int) (h : abortR l id = (next, e)) (hn : n = l.length) (hr : Hid (Kd.C k40 w A n l)) (hc : n ≤ c) :
    Calls Tryz.prog 9 #[.slice A n c, .int .u64 id] w fun e' w' => ∃ A c, e' = .returned (.tuple #[.slice A next.length c, .int .i64 e]) ∧ next.length ≤ c ∧ Hid (Kd.C k40 w' A next.length next) ∧ Below w.heap.size w w' := by
  subst hn
  have := abort.walk A c l id w hr.out hc
  rw [h] at this
  exact this
theorem same_one {W : World} {u : S40} {b1 b2 : Nat} {A5 A2 : Option Addr} {c5 c2 : Nat} (h1 : W.heap[b1]? = some (.cells #[.int .u64 u.f0, .string u.f1, .slice A5 u.f2.length c5] 40 (0, 0))) (h2 : W.heap[b2]? = some (.cells #[.int .u64 u.f0, .string u.f1, .slice A2 u.f2.length c2] 40 (0, 0)))
    (k1 : Kd.C k25 W A5 u.f2.length u.f2) (k2 : Kd.C k25 W A2 u.f2.length u.f2) (l5 : u.f2.length ≤ c5) (l2 : u.f2.length ≤ c2) :
    Calls Tryz.prog 13 #[.slice (some ⟨b1, 0, none⟩) 1 1, .slice (some ⟨b2, 0, none⟩) 1 1] W fun e w' => e = .returned (.bool true) ∧ Drawn0 W w' :=
  same_calls (l := [u]) (rows_C (RowsOf.one_ u _ (k40_mk W u l5 k1)) (blk_raw h1 3 rfl) (by simp)) (Nat.le_refl _) (rows_C (RowsOf.one_ u _ (k40_mk W u l2 k2)) (blk_raw h2 3 rfl) (by simp)) (Nat.le_refl _)
theorem blk_1 {W0 : World} {n : Nat} {x y : Obj} (h : W0.heap.size = n) : ((W0.alloc x).alloc y).heap[n]? = some x := h ▸ blk_alloc (blk_new W0 x) y
theorem blk_2 {W0 : World} {n : Nat} {x y : Obj} (h : W0.heap.size + 1 = n) : ((W0.alloc x).alloc y).heap[n]? = some y := by
  subst h; have := blk_new (W0.alloc x) y; rwa [World.size_alloc] at this
end Go.Proofs.YtgpmkbmobdbdoaaGreatDoor.Q

-- V5
namespace Go.Proofs.YtgpmkbmobdbdoaaGreatDoor.Q
open Go.RowKit Go.Proofs.YtgpmkbmobdbdoaaGreatDoorW.PrintWords Go.Proofs.YtgpmkbmobdbdoaaGreatDoorW.PrintLast Go.Proofs.YtgpmkbmobdbdoaaGreatDoorW.PrintMore
set_option linter.unusedVariables false
set_option linter.unusedSimpArgs false

/-! The document's Lay, walked. -/
/-- What lies there while the parts are gathered. -/
structure LaS (w2 : World) (b9 b11 : Nat) (u : S40) (A2 : Option Addr) (c2 : Nat) (id : Int) (v : Value) (acc : List S25) (W : World) : Prop where
  bel : Below w2.heap.size w2 W
  lo : w2.heap.size ≤ b11 ∧ b9 < b11
  box : W.heap[b9]? = some (.cells #[.int .u64 u.f0, .string u.f1, .slice A2 u.f2.length c2] 40 (0, 0))
  xb : W.heap[b11]? = some (.cells #[.int .u64 id, .string u.f1, v] 40 (0, 0))
  row : W.ownsRow (b11 + 1) 25 2 v acc.length (cells40 acc)
theorem cells40_snoc (acc : List S25) (p : S25) : cells40 (acc ++ [p]) = cells40 acc ++ [.int .i64 p.f0, .string p.f1] := by
  unfold cells40
  rw [List.map_append, List.flatten_append]; rfl
theorem LaS.drew {w2 : World} {b9 b11 : Nat} {u : S40} {A2 : Option Addr} {c2 : Nat} {id : Int} {v : Value} {acc : List S25} {W : World} (h : LaS w2 b9 b11 u A2 c2 id v acc W) : LaS w2 b9 b11 u A2 c2 id v acc W.drew :=
  ⟨h.bel.drew, h.lo, h.box, h.xb, h.row⟩
theorem LaS.push {w2 : World} {b9 b11 : Nat} {u : S40} {A2 : Option Addr} {c2 : Nat} {id : Int} {v v2 : Value} {acc : List S25} {W W2 : World} {o : Obj} {p : S25} (h : LaS w2 b9 b11 u A2 c2 id v acc W) (hg : (W.alloc o).grownBy W2 v.ownBlock)
    (hr : W2.ownsRow (b11 + 1) 25 2 v2 (acc.length + 1) (cells40 acc ++ [.int .i64 p.f0, .string p.f1])) : LaS w2 b9 b11 u A2 c2 id v2 (acc ++ [p]) (W2.setCell ⟨b11, 2, none⟩ v2) := by
  obtain ⟨l1, l2⟩ := h.lo
  have hb : Below w2.heap.size w2 W2 := (h.bel.alloc h.bel.size o).grown hg (by have := h.bel.size; simp; omega) (fun q hq => by have := own_base h.row q hq; omega)
  have hne : ∀ k, k ≤ b11 → some k ≠ v.ownBlock := fun k hk e => by have := own_base h.row k e.symm; omega
  have x9 := blk_grown (blk_alloc h.box o) hg (hne b9 (by omega))
  have x11 := blk_grown (blk_alloc h.xb o) hg (hne b11 (Nat.le_refl _))
  refine ⟨hb.setCell (p := ⟨b11, 2, none⟩) (by simp; omega) v2, h.lo, blk_far x9 (p := ⟨b11, 2, none⟩) (by simp; omega) v2, ?_, ?_⟩
  · have := blk_set x11 2 v2
    exact this
  · rw [List.length_append, List.length_singleton, cells40_snoc]
    exact own_move hr (fun q hq => Below.heap_setCell _ _ _ _ (fun e => by
      have h1 := own_base hr q hq
      have h2 : q = b11 := e
      omega))
theorem part_calls (p : S25) (w : World) : Calls Tryz.prog 31 #[.agg #[.int .i64 p.f0, .string p.f1]] w fun e w' => e = .returned (.bool (mayB p)) ∧ Below w.heap.size w w' :=
  cellarerref08_part.calls p.f0 p.f1 (mayB p) w (ref_part p)
theorem of_calls (s : ByteArray) (hs : s.size ≤ 1000000) (w : World) : Calls Tryz.prog 32 #[.string s] w fun e w' => e = .returned (.int .u32 (tagOf s)) ∧ Below w.heap.size w w' :=
  (cellarerref04_Of.calls (s.size + 10) s (tagOf s) w (ref_of s (by omega) _ (by omega))).mono fun _ _ h => ⟨h.1, outD h.2⟩
set_option maxHeartbeats 8000000 in
set_option maxRecDepth 100000 in
theorem ref_lay_no.walk (A : Option Addr) (c : Nat) (l : List S40) (id : Int) (p : S25) (u : S40) (e : Int) (w : World) (hr : Kd.C k40 w A l.length l) (hc : l.length ≤ c) (hF : findR l id = (u, e)) (r : Int) (hres : (e = 1 ∧ r = 1) ∨ (e ≠ 1 ∧ mayB p = false ∧ r = 1) ∨ (e ≠ 1 ∧ e ≠ 0 ∧ mayB p = true ∧ r = e)) :
    Calls Tryz.prog 8 #[.slice A l.length c, .int .u64 id, .agg #[.int .i64 p.f0, .string p.f1]] w (ListPost [] [.int .u32 0, .int .i64 r] w) := by
  have HF := Lib.hid (ref_find_calls A c _ l id (w.alloc (.cells #[.int .i64 p.f0, .string p.f1] 25)) u e hF rfl (Kd.C_below hr (below1 _ _)) hc)
  have HP := Lib.hid (fun W => part_calls p W)
  have FIN : Hid (∀ e w', Below w.heap.size w w' → ListPost [] [.int .u32 0, .int .i64 e] w (.returned (.tuple #[.slice none 0 0, .int .u32 0, .int .i64 e])) w') := fun e w' hb => ⟨none, 0, rfl, Nat.le_refl _, Kd.C_nil _ _, hb⟩
  clear hr hF
  go_enter Tryz.func8, Tryz.ntmps8
  go_upto_region 1 with fail
  go_cut [9, 10] from 16 to 21 (fun s9 s10 wx => ∃ b9, s9 = .pointer (some ⟨b9, 0, none⟩) ∧ s10 = .int .i64 e ∧ Hid (wx.heap[w.heap.size]? = some (.cells #[.int .i64 p.f0, .string p.f1] 25 (0, 0))) ∧ Hid (Below w.heap.size w wx))
  case first =>
    go_wp2_with (go_at_call 12; refine HF.out.mono ?_; rintro e w1 ⟨A1, c1, rfl, hc1, HC1, hb⟩; have HB1 := keepB (Lib.hid (below1 w _)) hb; have K0 := Lib.hid (blk_below (blk_new w _) hb); clear hb)
    go_meet
    exact ⟨_, rfl, rfl, blk_alloc K0.out _, HB1.out.alloc HB1.out.size _⟩
  case rest =>
  obtain ⟨b9, rfl, rfl, K0, HB1⟩ := hcut
  have v0 := (blk_cell K0.out 0).trans rfl
  have v1 := (blk_cell K0.out 1).trans rfl
  clear HF
  rcases hres with ⟨rfl, rfl⟩ | ⟨h1, hm, rfl⟩ | ⟨h1, h0, hm, rfl⟩
  · go_wp2_with fail
    go_ret3
    exact FIN.out _ _ HB1.out
  · have d1 : (e == 1) = false := beq_eq_false_iff_ne.2 h1
    rw [hm] at HP
    clear h1 hm
    go_wp2_with (go_at_call 31; refine (HP.out _).mono ?_; rintro e w2 ⟨rfl, hb⟩; have HB2 := keepB HB1 hb; clear hb)
    go_ret3
    exact FIN.out _ _ HB2.out
  · have d1 : (r == 1) = false := beq_eq_false_iff_ne.2 h1
    have d2 : (r != 0) = true := by simpa using h0
    rw [hm] at HP
    clear h1 hm h0
    go_wp2_with (go_at_call 31; refine (HP.out _).mono ?_; rintro e w2 ⟨rfl, hb⟩; have HB2 := keepB HB1 hb; clear hb)
    go_ret3
    exact FIN.out _ _ HB2.out
end Go.Proofs.YtgpmkbmobdbdoaaGreatDoor.Q

-- V6
namespace Go.Proofs.YtgpmkbmobdbdoaaGreatDoor.Q
open Go.RowKit Go.Proofs.YtgpmkbmobdbdoaaGreatDoorW.PrintWords Go.Proofs.YtgpmkbmobdbdoaaGreatDoorW.PrintLast Go.Proofs.YtgpmkbmobdbdoaaGreatDoorW.PrintMore
set_option linter.unusedVariables false
set_option linter.unusedSimpArgs false

theorem LaS.keepX {w2 : World} {b9 b11 : Nat} {u : S40} {A2 : Option Addr} {c2 : Nat} {id : Int} {v : Value} {acc : List S25} {W W2 : World} {o : Obj} (h : LaS w2 b9 b11 u A2 c2 id v acc W) (hg : (W.alloc o).grownBy W2 v.ownBlock) : W2.heap[b11]? = some (.cells #[.int .u64 id, .string u.f1, v] 40 (0, 0)) :=
  blk_grown (blk_alloc h.xb o) hg (fun e => by have := own_base h.row b11 e.symm; omega)
theorem LaS.drewN {w2 : World} {b9 b11 : Nat} {u : S40} {A2 : Option Addr} {c2 : Nat} {id : Int} {v : Value} {acc : List S25} {W : World} (h : LaS w2 b9 b11 u A2 c2 id v acc W) (n : Nat) : LaS w2 b9 b11 u A2 c2 id v acc (W.drewN n) :=
  ⟨h.bel.trans (below_drewN _ _ _), h.lo, h.box, h.xb, h.row⟩
theorem map_snoc {α β : Type} (f : α → β) (l : List α) (k : Nat) (h : k < l.length) : (l.take (k + 1)).map f = (l.take k).map f ++ [f l[k]] := by
  rw [List.take_succ_eq_append_getElem h, List.map_append]; rfl
theorem one25 (q : S25) : ∀ v ∈ ([.int .i64 q.f0, .string q.f1] : List Value), v.oneCell' = true := by intro v hv; simp at hv; rcases hv with rfl | rfl <;> rfl
set_option maxHeartbeats 16000000 in
set_option maxRecDepth 100000 in
theorem ref_lay_ok.walk (A : Option Addr) (c : Nat) (l : List S40) (id : Int) (p : S25) (u : S40) (w : World) (hr : Kd.C k40 w A l.length l) (hc : l.length ≤ c) (hF : findR l id = (u, 0)) (hm : mayB p = true) :
    Calls Tryz.prog 8 #[.slice A l.length c, .int .u64 id, .agg #[.int .i64 p.f0, .string p.f1]] w (ListPost (layR l id p).1 [.int .u32 (layR l id p).2.1, .int .i64 (layR l id p).2.2] w) := by
  have HF := Lib.hid (ref_find_calls A c _ l id (w.alloc (.cells #[.int .i64 p.f0, .string p.f1] 25)) u 0 hF rfl (Kd.C_below hr (below1 _ _)) hc)
  have HP := Lib.hid (fun W => part_calls p W)
  rw [hm] at HP
  obtain ⟨hlay, hl10, hu30⟩ := lay_ref l id p u hF hm
  have HLAY := Lib.hid hlay
  rw [hlay]
  have HR := Lib.hid hr
  have HSZ : Hid (p.f1.size ≤ 1000000) := by
    unfold mayB at hm
    simp only [Bool.and_eq_true, decide_eq_true_eq] at hm
    unfold Hid; omega
  clear hr hF hm hlay HLAY
  obtain ⟨i0, hi, hy0, hy1, hy2⟩ := info_parts info25
  obtain ⟨j0, hj, hx0, hx1, hx2⟩ := info_parts info40
  obtain ⟨r1, r2, r3, hres⟩ : ∃ r1 r2 r3, (if 30 < (insF u.f2 p).length then (([], 0, 6) : List S40 × Int × Int) else (l.map (fun y => if y.f0 = id then ⟨id, u.f1, insF u.f2 p⟩ else y), tagOf p.f1, 0)) = (r1, r2, r3) := ⟨_, _, _, rfl⟩
  rw [hres]
  have HRES := Lib.hid hres
  clear hres
  go_enter Tryz.func8, Tryz.ntmps8
  go_upto_region 1 with fail
  go_cut [9, 10] from 16 to 21 (fun s9 s10 wx => ∃ A2 c2 b9, s9 = .pointer (some ⟨b9, 0, none⟩) ∧ s10 = .int .i64 0 ∧ u.f2.length ≤ c2 ∧ b9 < wx.heap.size ∧ Hid (Kd.C k25 wx A2 u.f2.length u.f2) ∧ Hid (wx.heap[b9]? = some (.cells #[.int .u64 u.f0, .string u.f1, .slice A2 u.f2.length c2] 40 (0, 0))) ∧ Hid (wx.heap[w.heap.size]? = some (.cells #[.int .i64 p.f0, .string p.f1] 25 (0, 0))) ∧ Hid (Below w.heap.size w wx))
  case first =>
    go_wp2_with (go_at_call 12; refine HF.out.mono ?_; rintro e w1 ⟨A1, c1, rfl, hc1, HC1, hb⟩; have HB1 := keepB (Lib.hid (below1 w _)) hb; have K0 := Lib.hid (blk_below (blk_new w _) hb); clear hb)
    go_meet
    exact ⟨A1, c1, _, rfl, rfl, hc1, by simp, Kd.C_below HC1.out (below1 _ _), blk_new w1 _, blk_alloc K0.out _, HB1.out.alloc HB1.out.size _⟩
  case rest =>
  obtain ⟨A2, c2, b9, rfl, rfl, hc2, hb9, HC, K9, K0, HB1⟩ := hcut
  clear HF
  obtain ⟨w1, hw1⟩ : ∃ w1, w1 = wc := ⟨_, rfl⟩
  subst hw1
  go_upto_region 2 with fail
  go_cut [28] from 22 to 28 (fun s28 wx => s28 = .bool false ∧ Hid (Below w1.heap.size w1 wx))
  case first =>
    have v0 := (blk_cell K0.out 0).trans rfl
    have v1 := (blk_cell K0.out 1).trans rfl
    go_wp2_with (go_at_call 31; refine (HP.out _).mono ?_; rintro e w2 ⟨rfl, hb⟩; have HB2 := Lib.hid hb; clear hb)
    go_meet
    exact ⟨rfl, HB2⟩
  case rest =>
  obtain ⟨rfl, HB2⟩ := hcut
  have y1 := (blk_cell (blk_below K9.out HB2.out) 1).trans rfl
  go_wp2_with fail
  clear y1 HP
  have HL0 : Hid (LaS w1 b9 wc.heap.size u A2 c2 id (.slice none 0 0) [] (wc.alloc (.cells #[.int .u64 id, .string u.f1, .slice none 0 0] 40))) :=
    ⟨HB2.out.alloc HB2.out.size _, ⟨HB2.out.size, Nat.lt_of_lt_of_le hb9 HB2.out.size⟩, blk_alloc (blk_below K9.out HB2.out) _, blk_new wc _, rfl, Or.inl ⟨rfl, rfl⟩⟩
  generalize wc.heap.size = b11 at *
  clear HB2 K9 hb9
  go_loopw [12] (fun i wr => ∃ (k : Nat) (v : Value), i = .int .i64 k ∧ k ≤ u.f2.length ∧ Hid (LaS w1 b9 b11 u A2 c2 id v (loF (u.f2.take k) p.f0) wr)) (fun i _ => u.f2.length - (intOf i).toNat)
  case atStart => exact ⟨0, _, rfl, Nat.zero_le _, HL0⟩
  case round =>
    obtain ⟨k, v, rfl, hk, hL⟩ := hrel
    have bx := (blk_cell hL.out.box 2).trans rfl
    have q0 := (blk_cell (blk_below K0.out hL.out.bel) 0).trans rfl
    have x2 := (blk_cell hL.out.xb 2).trans rfl
    by_cases hlt : k < u.f2.length
    · obtain ⟨ad, e', hc0, hc1'⟩ := at40 HC.out hL.out.bel k hlt
      subst e'
      have d0 : (0 : Int) ≤ (k : Int) := by omega
      have d1 : (k : Int) < (u.f2.length : Int) := by omega
      have HS := Lib.hid (loF_snoc u.f2 p.f0 k hlt)
      have hll := loF_len u.f2 p.f0 k
      have HO := Lib.hid (one25 u.f2[k])
      by_cases hv : u.f2[k].f0 < p.f0
      · have d2 : decide (u.f2[k].f0 < p.f0) = true := decide_eq_true hv
        rw [if_pos hv] at HS
        clear hv
        go_wp2
        go_quiet (fail)
        have hLq := Lib.hid (hL.out.drewN nq)
        clear hL bx q0 x2 hc0 hc1'
        generalize wr.drewN nq = wq at *
        have bx := (blk_cell hLq.out.box 2).trans rfl
        have q0 := (blk_cell (blk_below K0.out hLq.out.bel) 0).trans rfl
        have x2 := (blk_cell hLq.out.xb 2).trans rfl
        obtain ⟨ad', e', hc0, hc1'⟩ := at40 HC.out hLq.out.bel k hlt
        obtain rfl : ad = ad' := by injection e'
        go_upto_region 11 with fail
        have n0 := World.new_ne _ _ hc0
        have n1 := World.new_ne _ _ bx
        have n2 := World.new_ne _ _ x2
        have hb11 := blk_lt hLq.out.xb
        go_region_law ((refine step_append_lies _ (by rfl) _ _ _ (by rfl) (b11 + 1) 25 i0 (.agg #[(.int .i64 0), (.string ⟨#[]⟩)]) 2 24 Tryz.underlying38 hi hy0 hy1 hy2 rfl (by decide) v _ _ (by rfl) (hLq.out.drew.row.alloc _) ⟨wq.heap.size, 0, none⟩ 1 1 [.int .i64 u.f2[k].f0, .string u.f2[k].f1] (by rfl) (by rfl) (World.news_of_block (blk_new wq.drew _)) HO.out (by decide) (by unfold maxLen; omega) (by omega) (by simp; omega) (wq.heap.size + 1) (by simp) ?_; intro g cap w5 hown5 hgrow5 _ _; have X5 := Lib.hid (hLq.out.drew.keepX hgrow5); have s2 := (blk_cell X5.out 2).trans rfl; have z2 := blk_frozen X5.out 2; have HN := Lib.hid (hLq.out.drew.push hgrow5 hown5); clear hgrow5 hown5))
        all_goals
          go_wp2
          go_roundw
          case rel => exact ⟨k + 1, _, by go_num, hlt, by rw [HS.out]; exact HN⟩
          case measure => simp [intOf]; omega
      · have d2 : decide (u.f2[k].f0 < p.f0) = false := decide_eq_false hv
        rw [if_neg hv] at HS
        clear hv
        go_wp2
        go_quiet (fail)
        go_wp2
        go_roundw
        case rel => exact ⟨k + 1, v, by go_num, hlt, by rw [HS.out]; exact ⟨hL.out.bel.trans (below_drewN _ _ _), hL.out.lo, hL.out.box, hL.out.xb, hL.out.row⟩⟩
        case measure => simp [intOf]; omega
    · obtain rfl : k = u.f2.length := by omega
      rw [List.take_length] at hL
      have q1 := (blk_cell (blk_below K0.out hL.out.bel) 1).trans rfl
      have z2 := blk_frozen hL.out.xb 2
      have hll := loF_len u.f2 p.f0 u.f2.length
      rw [List.take_length] at hll
      have hb11 := blk_lt hL.out.xb
      have HO := Lib.hid (one25 p)
      clear hlt hk HL0
      go_wp2_with (at_builtin; refine wpList_append_lies _ rfl _ _ 38 rfl (b11 + 1) 25 i0 (.agg #[(.int .i64 0), (.string ⟨#[]⟩)]) 2 24 Tryz.underlying38 hi hy0 hy1 hy2 rfl (by decide) _ _ _ rfl (hL.out.row.alloc _) ⟨wr.heap.size, 0, none⟩ 1 1 [.int .i64 p.f0, .string p.f1] rfl rfl ?c1 ?c2 (by decide) ?c3 ?c4 ?c5 _ rfl ?_)
      case c1 => exact World.news_of_block (blk_new wr _)
      case c2 => exact HO.out
      case c3 => unfold maxLen; omega
      case c4 => omega
      case c5 => simp; omega
      intro g cap w5 hown5 hgrow5 _ _
      have X5 := Lib.hid (hL.out.keepX hgrow5)
      have s2 := (blk_cell X5.out 2).trans rfl
      have zz2 := blk_frozen X5.out 2
      have HN := Lib.hid (hL.out.push hgrow5 hown5)
      clear hgrow5 hown5 bx q0 q1 x2 z2
      go_wp2
      clear s2 zz2
      have hlo := hll
      clear hll HO
      go_loopw [13] (fun i wr => ∃ (k : Nat) (v : Value), i = .int .i64 k ∧ k ≤ u.f2.length ∧ Hid (LaS w1 b9 b11 u A2 c2 id v (loF u.f2 p.f0 ++ [p] ++ hiF (u.f2.take k) p.f0) wr)) (fun i _ => u.f2.length - (intOf i).toNat)
      case atStart => exact ⟨0, _, rfl, Nat.zero_le _, by rw [List.take_zero]; show Hid (LaS _ _ _ _ _ _ _ _ (loF u.f2 p.f0 ++ [p] ++ []) _); rw [List.append_nil]; exact HN⟩
      case round =>
        clear HN X5 hL
        obtain ⟨k, v, rfl, hk, hL⟩ := hrel
        have bx := (blk_cell hL.out.box 2).trans rfl
        have q0 := (blk_cell (blk_below K0.out hL.out.bel) 0).trans rfl
        have x2 := (blk_cell hL.out.xb 2).trans rfl
        have hac : (loF u.f2 p.f0 ++ [p] ++ hiF (u.f2.take k) p.f0).length ≤ 100 := by
          have := hiF_len u.f2 p.f0 k
          rw [List.length_append, List.length_append, List.length_singleton]; omega
        obtain ⟨acc, hacc⟩ : ∃ acc, Hid (loF u.f2 p.f0 ++ [p] ++ hiF (u.f2.take k) p.f0 = acc) := ⟨_, Eq.refl (loF u.f2 p.f0 ++ [p] ++ hiF (u.f2.take k) p.f0)⟩
        rw [hacc.out] at hL hac
        by_cases hlt : k < u.f2.length
        · obtain ⟨ad, e', hc0, hc1'⟩ := at40 HC.out hL.out.bel k hlt
          subst e'
          have d0 : (0 : Int) ≤ (k : Int) := by omega
          have d1 : (k : Int) < (u.f2.length : Int) := by omega
          have HS := Lib.hid (hiF_snoc u.f2 p.f0 k hlt)
          have hll := hiF_len u.f2 p.f0 k
          have HO := Lib.hid (one25 u.f2[k])
          by_cases hv : p.f0 < u.f2[k].f0
          · have d2 : decide (p.f0 < u.f2[k].f0) = true := decide_eq_true hv
            rw [if_pos hv] at HS
            clear hv
            go_wp2
            go_quiet (fail)
            have hLq := Lib.hid (hL.out.drewN nq)
            clear hL bx q0 x2 hc0 hc1'
            generalize wr.drewN nq = wq at *
            have bx := (blk_cell hLq.out.box 2).trans rfl
            have q0 := (blk_cell (blk_below K0.out hLq.out.bel) 0).trans rfl
            have x2 := (blk_cell hLq.out.xb 2).trans rfl
            obtain ⟨ad', e', hc0, hc1'⟩ := at40 HC.out hLq.out.bel k hlt
            obtain rfl : ad = ad' := by injection e'
            go_upto_region 17 with fail
            have n0 := World.new_ne _ _ hc0
            have n1 := World.new_ne _ _ bx
            have n2 := World.new_ne _ _ x2
            have hb11 := blk_lt hLq.out.xb
            go_region_law ((refine step_append_lies _ (by rfl) _ _ _ (by rfl) (b11 + 1) 25 i0 (.agg #[(.int .i64 0), (.string ⟨#[]⟩)]) 2 24 Tryz.underlying38 hi hy0 hy1 hy2 rfl (by decide) v _ _ (by rfl) (hLq.out.drew.row.alloc _) ⟨wq.heap.size, 0, none⟩ 1 1 [.int .i64 u.f2[k].f0, .string u.f2[k].f1] (by rfl) (by rfl) (World.news_of_block (blk_new wq.drew _)) HO.out (by decide) (by unfold maxLen; omega) (by omega) (by simp; omega) (wq.heap.size + 1) (by simp) ?_; intro g cap w5 hown5 hgrow5 _ _; have X5 := Lib.hid (hLq.out.drew.keepX hgrow5); have s2 := (blk_cell X5.out 2).trans rfl; have z2 := blk_frozen X5.out 2; have HN := Lib.hid (hLq.out.drew.push hgrow5 hown5); clear hgrow5 hown5))
            all_goals
              go_wp2
              go_roundw
              case rel => exact ⟨k + 1, _, by go_num, hlt, by rw [HS.out, ← List.append_assoc, hacc.out]; exact HN⟩
              case measure => simp [intOf]; omega
          · have d2 : decide (p.f0 < u.f2[k].f0) = false := decide_eq_false hv
            rw [if_neg hv] at HS
            clear hv
            go_wp2
            go_quiet (fail)
            go_wp2
            go_roundw
            case rel => exact ⟨k + 1, v, by go_num, hlt, by rw [HS.out, hacc.out]; exact ⟨hL.out.bel.trans (below_drewN _ _ _), hL.out.lo, hL.out.box, hL.out.xb, hL.out.row⟩⟩
            case measure => simp [intOf]; omega
        · obtain rfl : k = u.f2.length := by omega
          rw [List.take_length] at hacc
          have hins : Hid (insF u.f2 p = acc) := hacc.out
          obtain ⟨Av, cv, rfl, hcv, hCv⟩ := own40 hL.out.row
          have HCV := Lib.hid hCv
          clear hacc hCv hlt hk
          rw [hins.out] at HRES
          by_cases h30 : 30 < acc.length
          · have HRES2 := Lib.hid HRES.out
            rw [if_pos h30] at HRES2
            have hr := HRES2.out
            injection hr with e1 e2
            injection e2 with e2 e3
            subst e1 e2 e3
            have dd : decide ((30 : Int) < (acc.length : Int)) = true := by simp; omega
            clear HRES HRES2 h30
            go_wp2_with fail
            go_ret3
            exact ⟨none, 0, rfl, Nat.le_refl _, Kd.C_nil _ _, HB1.out.trans (hL.out.bel.mono HB1.out.size)⟩
          · have HRES2 := Lib.hid HRES.out
            rw [if_neg h30] at HRES2
            have hr := HRES2.out
            injection hr with e1 e2
            injection e2 with e2 e3
            subst e2 e3
            have HR1 := Lib.hid e1
            have dd : decide ((30 : Int) < (acc.length : Int)) = false := by simp; omega
            clear HRES HRES2 h30 e1
            have HBW : Hid (Below w.heap.size w wr) := HB1.out.trans (hL.out.bel.mono HB1.out.size)
            have HRW : Hid (Kd.C k40 wr A l.length l) := Kd.C_below HR.out HBW.out
            have HKX : Hid (k40.K wr ⟨id, u.f1, acc⟩ [.int .u64 id, .string u.f1, .slice Av acc.length cv]) := k40_mk wr ⟨id, u.f1, acc⟩ hcv HCV.out
            have XB : Hid (wr.heap[b11]? = some (.cells #[.int .u64 id, .string u.f1, .slice Av acc.length cv] 40 (0, 0))) := hL.out.xb
            have PB : Hid (wr.heap[w.heap.size]? = some (.cells #[.int .i64 p.f0, .string p.f1] 25 (0, 0))) := blk_below K0.out hL.out.bel
            have HOF := Lib.hid (fun (W : World) => of_calls p.f1 HSZ.out W)
            obtain ⟨F, hF⟩ : ∃ F : S40 → S40, Hid (F = fun y => if y.f0 = id then ⟨id, u.f1, acc⟩ else y) := ⟨_, Eq.refl (fun y : S40 => if y.f0 = id then (⟨id, u.f1, acc⟩ : S40) else y)⟩
            have HR2 : Hid (l.map F = r1) := by unfold Hid; rw [hF.out]; exact HR1.out
            go_wp2_with fail
            clear hL HCV HR1 HSZ HB1 HR K0 HC bx q0 x2 hins
            obtain ⟨w3, hw3⟩ : ∃ w3, w3 = wr := ⟨_, rfl⟩
            subst hw3
            have HU0 : Hid (RowU w3 (.slice none 0 0) ((l.take 0).map F) w3) := RowU.nil _ _ (Below.refl _ _)
            go_loopw [14, 15] (fun o i wr => ∃ (k : Nat), i = .int .i64 k ∧ k ≤ l.length ∧ Hid (RowU w3 o ((l.take k).map F) wr)) (fun _ i _ => l.length - (intOf i).toNat)
            case atStart => exact ⟨0, rfl, Nat.zero_le _, HU0⟩
            case round =>
              clear HU0
              obtain ⟨k, rfl, hk, hU⟩ := hrel
              by_cases hlt : k < l.length
              · obtain ⟨ad, A5, c5, e', g0, g1, g2, g3, g4⟩ := at25 HRW.out (Below.refl _ _) k hlt
                subst e'
                have h0 := keepc hU.out.bel g0
                have h1 := keepc hU.out.bel g1
                have h2 := keepc hU.out.bel g2
                have x0 := (blk_cell (blk_below XB.out hU.out.bel) 0).trans rfl
                have x1 := (blk_cell (blk_below XB.out hU.out.bel) 1).trans rfl
                have x2 := (blk_cell (blk_below XB.out hU.out.bel) 2).trans rfl
                have p0 : (0 : Int) ≤ (k : Int) := by omega
                have p1 : (k : Int) < (l.length : Int) := by omega
                have HS := Lib.hid (map_snoc F l k hlt)
                have HKK := Lib.hid (k40_mk w3 l[k] g3 g4)
                clear g0 g1 g2 g4
                obtain ⟨rows, hr1, hr2⟩ := hU.out.row
                have HX1 := Lib.hid hr1
                have HX2 := Lib.hid hr2
                clear hr1 hr2
                have hsl : ((l.take k).map F).length ≤ 20 := by rw [List.length_map, List.length_take]; omega
                have hsz := hU.out.bel.size
                have HLK : Hid (((l.take k).map F).length = k) := by unfold Hid; rw [List.length_map, List.length_take]; omega
                have hFk : Hid (F l[k] = if l[k].f0 = id then ⟨id, u.f1, acc⟩ else l[k]) := by unfold Hid; rw [hF.out]
                by_cases hv : l[k].f0 = id
                · have hd : (l[k].f0 == id) = true := beq_iff_eq.2 hv
                  have HFK := Lib.hid hFk.out
                  rw [if_pos hv] at HFK
                  clear hv
                  go_wp2_with (at_builtin; refine wpList_append_lies _ rfl _ _ 22 rfl w3.heap.size 40 j0 (.agg #[(.int .u64 0), (.string ⟨#[]⟩), (.slice none 0 0)]) 3 48 Tryz.underlying22 hj hx0 hx1 hx2 rfl (by decide) _ _ _ rfl (HX2.out.alloc _) ⟨wr.heap.size, 0, none⟩ 1 1 [.int .u64 id, .string u.f1, .slice Av acc.length cv] rfl rfl ?c1 ?c2 (by decide) ?c3 ?c4 ?c5 _ rfl ?_)
                  case c1 => exact World.news_of_block (blk_new wr _)
                  case c2 => exact (by intro u hu; simp at hu; rcases hu with rfl | rfl | rfl <;> rfl)
                  case c3 => unfold maxLen; omega
                  case c4 => omega
                  case c5 => simp; omega
                  intro g cap w6 hown' hgrow _ _
                  have hU6 := Lib.hid (hU.out.push HX1.out HX2.out HKX.out hgrow (by rw [HLK.out]; exact hown'))
                  clear hown' hgrow
                  go_wp2
                  go_roundw
                  case rel => exact ⟨k + 1, by go_num, hlt, by rw [HS.out, HFK.out]; exact hU6⟩
                  case measure => simp [intOf]; omega
                · have hd : (l[k].f0 == id) = false := beq_eq_false_iff_ne.2 hv
                  have HFK := Lib.hid hFk.out
                  rw [if_neg hv] at HFK
                  clear hv
                  go_wp2_with (at_builtin; refine wpList_append_lies _ rfl _ _ 22 rfl w3.heap.size 40 j0 (.agg #[(.int .u64 0), (.string ⟨#[]⟩), (.slice none 0 0)]) 3 48 Tryz.underlying22 hj hx0 hx1 hx2 rfl (by decide) _ _ _ rfl (HX2.out.alloc _) ⟨wr.heap.size, 0, none⟩ 1 1 [.int .u64 l[k].f0, .string l[k].f1, .slice A5 l[k].f2.length c5] rfl rfl ?c1 ?c2 (by decide) ?c3 ?c4 ?c5 _ rfl ?_)
                  case c1 => exact World.news_of_block (blk_new wr _)
                  case c2 => exact (by intro u hu; simp at hu; rcases hu with rfl | rfl | rfl <;> rfl)
                  case c3 => unfold maxLen; omega
                  case c4 => omega
                  case c5 => simp; omega
                  intro g cap w6 hown' hgrow _ _
                  have hU6 := Lib.hid (hU.out.push HX1.out HX2.out HKK.out hgrow (by rw [HLK.out]; exact hown'))
                  clear hown' hgrow
                  go_wp2
                  go_roundw
                  case rel => exact ⟨k + 1, by go_num, hlt, by rw [HS.out, HFK.out]; exact hU6⟩
                  case measure => simp [intOf]; omega
              · obtain rfl : k = l.length := by omega
                rw [List.take_length] at hU
                rw [HR2.out] at hU
                have q1 := (blk_cell (blk_below PB.out hU.out.bel) 1).trans rfl
                have hr1l : r1.length ≤ 1000000 := by rw [← HR2.out, List.length_map]; omega
                go_wp2_with (go_at_call 32; refine (HOF.out _).mono ?_; rintro x w5 ⟨rfl, hb⟩; have hU5 := Lib.hid (hU.out.below hb); clear hb)
                obtain ⟨A6, c6, rfl, h3, h4⟩ := hU5.out.list hr1l
                go_ret3
                exact ⟨A6, c6, rfl, h3, h4, HBW.out.trans (hU5.out.bel.mono HBW.out.size)⟩
theorem ref_lay.walk (A : Option Addr) (c : Nat) (l : List S40) (id : Int) (p : S25) (w : World) (hr : Kd.C k40 w A l.length l) (hc : l.length ≤ c) :
    Calls Tryz.prog 8 #[.slice A l.length c, .int .u64 id, .agg #[.int .i64 p.f0, .string p.f1]] w (ListPost (layR l id p).1 [.int .u32 (layR l id p).2.1, .int .i64 (layR l id p).2.2] w) := by
  obtain ⟨u, e, hF⟩ : ∃ u e, findR l id = (u, e) := ⟨_, _, rfl⟩
  by_cases h : mayB p = false ∨ e ≠ 0
  · rw [lay_ref_err l id p u e hF h]
    refine ref_lay_no.walk A c l id p u e w hr hc hF _ ?_
    by_cases h1 : e = 1
    · exact Or.inl ⟨h1, by rw [if_pos (Or.inl h1)]⟩
    · by_cases h2 : mayB p = false
      · exact Or.inr (Or.inl ⟨h1, h2, by rw [if_pos (Or.inr h2)]⟩)
      · refine Or.inr (Or.inr ⟨h1, ?_, by cases h : mayB p <;> simp_all, by rw [if_neg (by rintro (h3 | h3); exact h1 h3; exact h2 h3)]⟩)
        rcases h with h | h
        · exact absurd h h2
        · exact h
  · have he : e = 0 := Decidable.byContradiction (fun h2 => h (Or.inr h2))
    subst he
    exact ref_lay_ok.walk A c l id p u w hr hc hF (by cases h2 : mayB p <;> simp_all)
end Go.Proofs.YtgpmkbmobdbdoaaGreatDoor.Q

-- V0
namespace Go.Proofs.YtgpmkbmobdbdoaaGreatDoor.Q
open Go.RowKit Go.Proofs.YtgpmkbmobdbdoaaGreatDoorW.PrintWords Go.Proofs.YtgpmkbmobdbdoaaGreatDoorW.PrintLast Go.Proofs.YtgpmkbmobdbdoaaGreatDoorW.PrintMore
set_option linter.unusedVariables false
set_option linter.unusedSimpArgs false

/-! Few of Few; facts that stay, in one bundle. -/
theorem fewKey_size (s : ByteArray) : (fewKey s).size ≤ 80 := by
  unfold fewKey
  split
  · rw [ByteArray.size_extract]; omega
  · omega
theorem fewKey_idem (s : ByteArray) : fewKey (fewKey s) = fewKey s := by
  have := fewKey_size s
  generalize fewKey s = y at *
  unfold fewKey
  rw [if_neg (by omega)]
theorem onePart_idem (p : S25) : onePart (onePart p) = onePart p := by
  have h : (onePart p).f1.size ≤ 2001 := by
    unfold onePart
    simp only
    split
    · rw [ByteArray.size_extract]; omega
    · omega
  generalize onePart p = y at *
  unfold onePart
  rw [if_neg (by omega)]
theorem fewU_idem (u : S40) : fewU (fewU u) = fewU u := by
  have h1 : (fewU u).f2 = (u.f2.take 31).map onePart := rfl
  have h2 : ((fewU u).f2.take 31).map onePart = (fewU u).f2 := by
    rw [h1, List.take_of_length_le (by rw [List.length_map, List.length_take]; omega), List.map_map]
    apply List.map_congr_left
    intro p _
    exact onePart_idem p
  show (⟨(fewU u).f0, fewKey (fewU u).f1, ((fewU u).f2.take 31).map onePart⟩ : S40) = fewU u
  rw [h2, show (fewU u).f1 = fewKey u.f1 from rfl, fewKey_idem]
  rfl
theorem fewL_idem (l : List S40) : fewL (fewL l) = fewL l := by
  unfold fewL
  rw [List.take_of_length_le (l := (l.take 11).map fewU) (by rw [List.length_map, List.length_take]; omega), List.map_map]
  apply List.map_congr_left
  intro u _
  exact fewU_idem u
structure Bun where
  P : World → Prop
  stay : ∀ {W W2 : World}, P W → Below W.heap.size W W2 → P W2
def Bun.bel (w : World) : Bun := ⟨fun W => Below w.heap.size w W, fun h hb => h.trans (hb.mono h.size)⟩
def Bun.C {α : Type} (d : Kd α) (A : Option Addr) (n : Nat) (l : List α) : Bun := ⟨fun W => Kd.C d W A n l, fun h hb => Kd.C_below h hb⟩
def Bun.blk (g : Nat) (o : Obj) : Bun := ⟨fun W => W.heap[g]? = some o, fun h hb => blk_below h hb⟩
def Bun.and (a b : Bun) : Bun := ⟨fun W => a.P W ∧ b.P W, fun h hb => ⟨a.stay h.1 hb, b.stay h.2 hb⟩⟩
theorem keepQ {B : Bun} {W W2 : World} (h : Hid (B.P W)) (hb : Below W.heap.size W W2) : Hid (B.P W2) := B.stay h.out hb
theorem addC {B : Bun} {W W2 : World} {α : Type} {d : Kd α} {A : Option Addr} {n : Nat} {l : List α} (h : Hid (B.P W)) (hb : Below W.heap.size W W2) (hc : Hid (Kd.C d W2 A n l)) : Hid ((B.and (Bun.C d A n l)).P W2) := ⟨B.stay h.out hb, hc.out⟩
theorem addB {B : Bun} {W : World} (h : Hid (B.P W)) (o : Obj) : Hid ((B.and (Bun.blk W.heap.size o)).P (W.alloc o)) := ⟨B.stay h.out (below1 W o), blk_new W o⟩
end Go.Proofs.YtgpmkbmobdbdoaaGreatDoor.Q

-- V7
namespace Go.Proofs.YtgpmkbmobdbdoaaGreatDoor.Q
open Go.RowKit Go.Proofs.YtgpmkbmobdbdoaaGreatDoorW.PrintWords Go.Proofs.YtgpmkbmobdbdoaaGreatDoorW.PrintLast Go.Proofs.YtgpmkbmobdbdoaaGreatDoorW.PrintMore
set_option linter.unusedVariables false
set_option linter.unusedSimpArgs false

theorem cell3a {w : World} {g : Nat} {a b c : Value} {t : TypeId} (h : w.heap[g]? = some (.cells #[a, b, c] t (0, 0))) : w.cell? ⟨g, 0, none⟩ = some a := (blk_cell h 0).trans rfl
theorem cell3b {w : World} {g : Nat} {a b c : Value} {t : TypeId} (h : w.heap[g]? = some (.cells #[a, b, c] t (0, 0))) : w.cell? ⟨g, 1, none⟩ = some b := (blk_cell h 1).trans rfl
theorem cell3c {w : World} {g : Nat} {a b c : Value} {t : TypeId} (h : w.heap[g]? = some (.cells #[a, b, c] t (0, 0))) : w.cell? ⟨g, 2, none⟩ = some c := (blk_cell h 2).trans rfl
theorem ref_lay_calls (A : Option Addr) (c n : Nat) (l : List S40) (id : Int) (p : S25) (w : World) (next : List S40) (t e : Int) (h : layR l id p = (next, t, e)) (hn : n = l.length) (hr : Hid (Kd.C k40 w A n l)) (hc : n ≤ c) :
    Calls Tryz.prog 8 #[.slice A n c, .int .u64 id, .agg #[.int .i64 p.f0, .string p.f1]] w fun e' w' => ∃ A c, e' = .returned (.tuple #[.slice A next.length c, .int .u32 t, .int .i64 e]) ∧ next.length ≤ c ∧ Hid (Kd.C k40 w' A next.length next) ∧ Below w.heap.size w w' := by
  subst hn
  have := ref_lay.walk A c l id p w hr.out hc
  rw [h] at this
  exact this
theorem ref_abort_calls (A : Option Addr) (c n : Nat) (l : List S40) (id : Int) (w : World) (next : List S40) (e : Int) (h : abortR l id = (next, e)) (hn : n = l.length) (hr : Hid (Kd.C k40 w A n l)) (hc : n ≤ c) :
    Calls Tryz.prog 10 #[.slice A n c, .int .u64 id] w fun e' w' => ∃ A c, e' = .returned (.tuple #[.slice A next.length c, .int .i64 e]) ∧ next.length ≤ c ∧ Hid (Kd.C k40 w' A next.length next) ∧ Below w.heap.size w w' := by
  subst hn
  have := ref_abort.walk A c l id w hr.out hc
  rw [h] at this
  exact this
theorem few_same (l1 : List S40) (hid : fewL l1 = l1) (A : Option Addr) (c : Nat) (w : World) (hr : Hid (Kd.C k40 w A l1.length l1)) (hc : l1.length ≤ c) :
    Calls Tryz.prog 5 #[.slice A l1.length c] w fun e w' => ∃ A' c', e = .returned (.slice A' l1.length c') ∧ l1.length ≤ c' ∧ Hid (Kd.C k40 w' A' l1.length l1) ∧ Below w.heap.size w w' := by
  have := few.walk A c l1 w hr.out hc
  rw [hid] at this
  exact this
theorem same_two {w : World} {A0 A1 : Option Addr} {c0 c1 : Nat} {l : List S40} (hr0 : Hid (Kd.C k40 w A0 l.length l)) (hc0 : l.length ≤ c0) (hr1 : Hid (Kd.C k40 w A1 l.length l)) (hc1 : l.length ≤ c1) :
    Calls Tryz.prog 13 #[.slice A0 l.length c0, .slice A1 l.length c1] w fun e w' => e = .returned (.bool true) ∧ Below w.heap.size w w' :=
  (same_calls hr0.out hc0 hr1.out hc1).mono fun _ _ h => ⟨h.1, outD h.2⟩
set_option maxHeartbeats 16000000 in
set_option maxRecDepth 100000 in
theorem lays.walk (A : Option Addr) (c : Nat) (l : List S40) (id : Int) (p : S25) (w : World) (hr : Kd.C k40 w A l.length l) (hc : l.length ≤ c) :
    Calls Tryz.prog 3 #[.slice A l.length c, .int .u64 id, .agg #[.int .i64 p.f0, .string p.f1]] w fun e w' => e = .returned (.bool true) ∧ Below w.heap.size w w' := by
  have HFEW := Lib.hid (fun (W : World) (hb : Below w.heap.size w W) => fewX.walk A c l W (Kd.C_below hr hb) hc)
  have HONE := Lib.hid (one_calls p)
  have HAW : Hid (∀ W, Calls Tryz.prog 16 #[] W fun e w' => e = .returned (.bool true) ∧ Below W.heap.size W w') := fun W => awake.walk W
  have HIDEM := Lib.hid (fewL_idem l)
  clear hr
  go_enter Tryz.func3, Tryz.ntmps3
  go_upto_region 1 with fail
  go_cut [0] from 22 to 25 (fun s0 wx => ∃ A1 c1, s0 = .slice A1 (fewL l).length c1 ∧ (fewL l).length ≤ c1 ∧ Hid (Kd.C k40 wx A1 (fewL l).length (fewL l)) ∧ Hid (wx.heap[w.heap.size]? = some (.cells #[.int .i64 (onePart p).f0, .string (onePart p).f1] 25 (0, 0))) ∧ Hid (Below w.heap.size w wx))
  case first =>
    have HA0 : Hid (Below w.heap.size w (w.alloc (.cells #[.int .i64 p.f0, .string p.f1] 25)).drew) := (below1 w _).drew
    have BK0 : Hid ((w.alloc (.cells #[.int .i64 p.f0, .string p.f1] 25)).drew.heap[w.heap.size]? = some (.cells #[.int .i64 p.f0, .string p.f1] 25 (0, 0))) := blk_new w _
    go_region_with (first
      | (go_at_call 5; refine (HFEW.out _ (by first | exact HAB.out | exact HA0.out)).mono ?_; rintro e w1 ⟨A1, c1, rfl, hc1, hC1, hb1⟩; (first | (have HC1 := Lib.hid (hC1.mono (blk_lt BK1.out)); have HAB := keepB HAB hb1; have BK1 := Lib.hid (blk_below BK1.out hb1)) | (have HC1 := Lib.hid (hC1.mono (blk_lt BK0.out)); have HAB := keepB HA0 hb1; have BK1 := Lib.hid (blk_below BK0.out hb1))); have u0 := (blk_cell BK1.out 0).trans rfl; have u1 := (blk_cell BK1.out 1).trans rfl; have z0 := blk_frozen BK1.out 0; have z1 := blk_frozen BK1.out 1; clear hC1 hb1)
      | (go_at_call 6; refine (HONE.out _).mono ?_; rintro e w2 ⟨rfl, hb2⟩; (first | (have HAB := keepB HAB hb2; have BK1 := Lib.hid (blk_below BK1.out hb2); have HC1 := keepF HC1 hb2) | (have HAB := keepB HA0 hb2; have BK1 := Lib.hid (blk_below BK0.out hb2))); have u0 := (blk_cell BK1.out 0).trans rfl; have u1 := (blk_cell BK1.out 1).trans rfl; have z0 := blk_frozen BK1.out 0; have z1 := blk_frozen BK1.out 1; clear hb2))
    all_goals (go_wp2_with fail; go_meet; exact ⟨A1, c1, rfl, hc1, HC1.out.set2 (Nat.lt_succ_self _), blk_two BK1.out, (HAB.out.setCell (p := ⟨w.heap.size, 0, none⟩) (Nat.le_refl _) _).setCell (p := ⟨w.heap.size, 1, none⟩) (Nat.le_refl _) _⟩)
  case rest =>
  obtain ⟨A1, c1, rfl, hc1, HC1, BK1, HB1⟩ := hcut
  clear HFEW HONE
  generalize fewL l = l1 at *
  generalize onePart p = p1 at *
  obtain ⟨next, t, e, hE⟩ : ∃ next t e, layR l1 id p1 = (next, t, e) := ⟨_, _, _, rfl⟩
  obtain ⟨dl, f, hA⟩ : ∃ dl f, abortR l1 id = (dl, f) := ⟨_, _, rfl⟩
  obtain ⟨u, g, hF⟩ : ∃ u g, findR l1 id = (u, g) := ⟨_, _, rfl⟩
  obtain ⟨ce, cb, hce, hcb, hcc⟩ : ∃ (ce : Int) (cb : Bool), Hid (errOf (checkB l1) = ce) ∧ Hid (checkB l1 = cb) ∧ ((ce == 0) = cb) := by
    refine ⟨_, _, Eq.refl (errOf (checkB l1)), Eq.refl (checkB l1), ?_⟩
    cases checkB l1 <;> rfl
  have HLAY := Lib.hid hE
  have HABO := Lib.hid hA
  have HFIN := Lib.hid hF
  clear hE hA hF
  have HCK : Hid (∀ W A c, Hid (Kd.C k40 W A l1.length l1) → l1.length ≤ c → Calls Tryz.prog 14 #[.slice A l1.length c] W fun e w' => e = .returned (.int .i64 ce) ∧ Below W.heap.size W w') := fun W A c h hc => by
    have := check_calls h.out hc
    rw [hce.out] at this
    exact this
  have HMY : Hid (∀ W A c, Hid (Kd.C k40 W A l1.length l1) → l1.length ≤ c → Calls Tryz.prog 15 #[.slice A l1.length c] W fun e w' => e = .returned (.bool cb) ∧ Below W.heap.size W w') := fun W A c h hc => by
    have := ref_may_calls h.out hc
    rw [hcb.out] at this
    exact this
  clear hce hcb
  have Q1 : Hid ((((Bun.bel w).and (Bun.blk w.heap.size (.cells #[.int .i64 p1.f0, .string p1.f1] 25))).and (Bun.C k40 A1 l1.length l1)).P wc) := ⟨⟨HB1.out, BK1.out⟩, HC1.out⟩
  clear HC1 BK1 HB1
  have v0 := (blk_cell Q1.out.1.2 0).trans rfl
  have v1 := (blk_cell Q1.out.1.2 1).trans rfl
  have T0 : Hid True := trivial
  have T1 : Hid True := trivial
  have T2 : Hid True := trivial
  go_wp2_with (first
    | (go_at_call 5; refine (few_same l1 HIDEM.out A1 c1 _ Q1.out.2 hc1).mono ?_; rintro e2 w2 ⟨A7, c7, rfl, hc7, HC7, hb⟩; have Q2 := addC Q1 hb HC7; have v0 := (blk_cell Q2.out.1.1.2 0).trans rfl; have v1 := (blk_cell Q2.out.1.1.2 1).trans rfl; clear hb HC7)
    | (go_at_call 7; refine (lay_calls A1 c1 _ l1 id p1 _ next t e HLAY.out rfl Q2.out.1.2 hc1).mono ?_; rintro e2 w3 ⟨A8, c8, rfl, hc8, HC8, hb⟩; have Q3 := addC Q2 hb HC8; have v0 := (blk_cell Q3.out.1.1.1.2 0).trans rfl; have v1 := (blk_cell Q3.out.1.1.1.2 1).trans rfl; clear hb HC8)
    | (go_at_call 8; refine (ref_lay_calls A1 c1 _ l1 id p1 _ next t e HLAY.out rfl Q3.out.1.1.2 hc1).mono ?_; rintro e2 w4 ⟨A11, c11, rfl, hc11, HC11, hb⟩; have Q4 := addC Q3 hb HC11; clear hb HC11)
    | (go_at_call 9; refine (abort_calls A1 c1 _ l1 id _ dl f HABO.out rfl Q4.out.1.1.1.2 hc1).mono ?_; rintro e2 w5 ⟨A14, c14, rfl, hc14, HC14, hb⟩; have Q5 := addC Q4 hb HC14; clear hb HC14)
    | (go_at_call 10; refine (ref_abort_calls A1 c1 _ l1 id _ dl f HABO.out rfl Q5.out.1.1.1.1.2 hc1).mono ?_; rintro e2 w6 ⟨A16, c16, rfl, hc16, HC16, hb⟩; have Q6 := addC Q5 hb HC16; clear hb HC16)
    | (go_at_call 11; refine (find_calls A1 c1 _ l1 id _ u g HFIN.out rfl Q6.out.1.1.1.1.1.2 hc1).mono ?_; rintro e2 w7 ⟨A18, c18, rfl, hc18, HC18, hb⟩; have Q7 := addB (addC Q6 hb HC18) (.cells #[.int .u64 u.f0, .string u.f1, .slice A18 u.f2.length c18] 40); clear hb HC18)
    | (go_at_call 12; refine (ref_find_calls A1 c1 _ l1 id _ u g HFIN.out rfl Q7.out.1.1.1.1.1.1.1.2 hc1).mono ?_; rintro e2 w8 ⟨A20, c20, rfl, hc20, HC20, hb⟩; have Q8 := addB (addC Q7 hb HC20) (.cells #[.int .u64 u.f0, .string u.f1, .slice A20 u.f2.length c20] 40); clear hb HC20)
    | (go_at_call 13; have _t := T0; refine (same_two Q8.out.1.1.1.1.1.1.1.2 hc8 Q8.out.1.1.1.1.1.1.2 hc11).mono ?_; rintro e2 w9 ⟨rfl, hb⟩; have Q9 := keepQ Q8 hb; clear hb _t T0)
    | (go_at_call 13; have _t := T1; refine (same_two Q9.out.1.1.1.1.1.2 hc14 Q9.out.1.1.1.1.2 hc16).mono ?_; rintro e2 w10 ⟨rfl, hb⟩; have Q10 := keepQ Q9 hb; have x0 := cell3a Q10.out.1.1.2; have x1 := cell3b Q10.out.1.1.2; have x2 := cell3c Q10.out.1.1.2; have y0 := cell3a Q10.out.2; have y1 := cell3b Q10.out.2; have y2 := cell3c Q10.out.2; have nx := World.new_ne _ _ x0; have ny := World.new_ne _ _ y0; have lx := blk_lt Q10.out.1.1.2; have ly := blk_lt Q10.out.2; have nx2 := Ne.symm nx; have ny2 := Ne.symm ny; have a0 := cell3a (blk_alloc Q10.out.2 (.cells #[.int .u64 u.f0, .string u.f1, .slice A18 u.f2.length c18] 40)); have a1 := cell3b (blk_alloc Q10.out.2 (.cells #[.int .u64 u.f0, .string u.f1, .slice A18 u.f2.length c18] 40)); have a2 := cell3c (blk_alloc Q10.out.2 (.cells #[.int .u64 u.f0, .string u.f1, .slice A18 u.f2.length c18] 40)); clear hb _t T1)
    | (go_at_call 13; have _t := T2; refine (same_one (u := u) (A5 := A18) (c5 := c18) (A2 := A20) (c2 := c20) (blk_1 rfl) (blk_2 rfl) (Kd.C_below Q10.out.1.1.1.2 (below2 w10 _ _)) (Kd.C_below Q10.out.1.2 (below2 w10 _ _)) hc18 hc20).mono ?_; rintro e2 w11 ⟨rfl, hb⟩; have Q11 := keepQ (keepQ Q10 (below2 w10 _ _)) (outD hb); clear hb _t T2)
    | (go_at_call 14; refine (HCK.out _ A1 c1 Q11.out.1.1.1.1.1.1.1.1.1.2 hc1).mono ?_; rintro e2 w12 ⟨rfl, hb⟩; have Q12 := keepQ Q11 hb; clear hb)
    | (go_at_call 15; refine (HMY.out _ A1 c1 Q12.out.1.1.1.1.1.1.1.1.1.2 hc1).mono ?_; rintro e2 w13 ⟨rfl, hb⟩; have Q13 := keepQ Q12 hb; clear hb)
    | (go_at_call 13; refine (same_two Q13.out.1.1.1.1.1.1.1.1.1.2 hc1 Q13.out.1.1.1.1.1.1.1.1.2 hc7).mono ?_; rintro e2 w14 ⟨rfl, hb⟩; have Q14 := keepQ Q13 hb; clear hb)
    | (go_at_call 16; refine (HAW.out _).mono ?_; rintro e2 w15 ⟨rfl, hb⟩; have Q15 := keepQ Q14 hb; clear hb))
  go_ret
  exact ⟨rfl, Q15.out.1.1.1.1.1.1.1.1.1.1.1⟩
end Go.Proofs.YtgpmkbmobdbdoaaGreatDoor.Q

-- U3
namespace Go.Proofs.YtgpmkbmobdbdoaaGreatDoor.Q
open Go.RowKit Go.Proofs.YtgpmkbmobdbdoaaGreatDoorW.PrintWords Go.Proofs.YtgpmkbmobdbdoaaGreatDoorW.PrintLast Go.Proofs.YtgpmkbmobdbdoaaGreatDoorW.PrintMore
set_option linter.unusedVariables false
set_option linter.unusedSimpArgs false

/-! What an argument's reading gives: the kinds' own relation. -/
def Opens {α : Type} (P : Program) (d : Kd α) (t : TypeId) : Prop :=
  ∀ (H : Type) (enc : TypeId × Value → H) (W : World) (n : Nat) (cs : List Value) (x : DataW H × List MemPlace), DataW.trod enc P W 0 (fun _ => true) true n t cs = some x → ∃ y : α, d.K W y cs
set_option maxRecDepth 100000 in
theorem opens_C {α : Type} {P : Program} {d : Kd α} {t e : TypeId} (ht : P.underlying t = some (.slice e)) (hs : P.cellsOf e = d.sz) (he : Opens P d e) (z : α) (H : Type) (enc : TypeId × Value → H) (W : World) (n : Nat) (cs : List Value) (x : DataW H × List MemPlace)
    (h : DataW.trod enc P W 0 (fun _ => true) true n t cs = some x) : ∃ (l : List α) (A : Option Addr) (c : Nat), cs = [.slice A l.length c] ∧ l.length ≤ c ∧ d.C W A l.length l := by
  rcases DataW.trod_slice ht h with ⟨rfl, _⟩ | ⟨a, len, cap, elems, rest, m, _, rfl, _, _, hl, hm, hlen, hel, _, _⟩
  · exact ⟨[], none, 0, rfl, Nat.le_refl _, rfl, by simp, fun h0 => by simp at h0⟩
  have each : ∀ i : Nat, ∃ p : α, i < len → ∃ c : List Value, c.length = d.sz ∧ d.K W p c ∧ ∀ j u, c[j]? = some u → W.cell? (a.add (i * d.sz + j)) = some u := by
    intro i
    by_cases hi : i < len
    · have h1 := hel i hi
      rw [List.getElem?_eq_getElem (by omega), Option.bind_eq_some_iff] at h1
      obtain ⟨c, hc, ht'⟩ := h1
      obtain ⟨y, hy⟩ := he H enc W m c _ ht'
      refine ⟨y, fun _ => ⟨c, d.K_len hy, hy, fun j u hu => ?_⟩⟩
      obtain ⟨_, hcl, hcell⟩ := World.cells?_some hc
      have := hcell j (by have := (List.getElem?_eq_some_iff.1 hu).1; omega)
      rw [hs, add_add] at this
      rw [this, hu]
    · exact ⟨z, fun h => absurd h hi⟩
  obtain ⟨f, hf⟩ := Classical.skolem.1 each
  refine ⟨(List.range len).map f, some a, cap, by simp, by simpa using hl, by simp, by simp [maxLen] at hm ⊢; omega, fun _ => ⟨a, rfl, fun j p hj => ?_⟩⟩
  rw [List.getElem?_map] at hj
  have hjl : j < len := by
    rcases Nat.lt_or_ge j len with h | h
    · exact h
    · rw [List.getElem?_eq_none (by simpa using h)] at hj; cases hj
  rw [List.getElem?_range hjl] at hj
  injection hj with hj
  subst hj
  exact hf j hjl
theorem cells3 : Tryz.prog.cellsOf 3 = 1 := by kernel_rfl
theorem cells9 : Tryz.prog.cellsOf 9 = 1 := by kernel_rfl
theorem cells22 : Tryz.prog.cellsOf 23 = 1 := by kernel_rfl
theorem cells23 : Tryz.prog.cellsOf 38 = 1 := by kernel_rfl
theorem cellsN25 : Tryz.prog.cellsOf 40 = 3 := by kernel_rfl
theorem cellsN40 : Tryz.prog.cellsOf 25 = 2 := by kernel_rfl
set_option maxRecDepth 100000 in
theorem opens40 : Opens Tryz.prog k25 25 := by
  intro H enc W n cs x h
  obtain ⟨y0, y1, m, rfl, hl, t0, t1⟩ := Go.ChangeShapes.trod_struct2 Tryz.underlying25 h
  rw [cellsN40] at hl
  match cs, hl with
  | [a, b], _ =>
    simp only [cells3, cells9, List.drop, List.take] at t0 t1
    obtain ⟨i, e0, _, _⟩ := DataW.trod_int Tryz.underlying3 t0
    obtain ⟨s, e1, _, _⟩ := DataW.trod_string Tryz.underlying9 t1
    injection e0 with e0; injection e1 with e1
    subst e0 e1
    exact ⟨⟨i, s⟩, k25_mk W ⟨i, s⟩⟩
set_option maxRecDepth 100000 in
theorem opens25 : Opens Tryz.prog k40 40 := by
  intro H enc W n cs x h
  obtain ⟨y0, y1, y2, m, rfl, hl, t0, t1, t2⟩ := Go.Deep.trod_struct3 Tryz.underlying40 h
  rw [cellsN25] at hl
  match cs, hl with
  | [a, b, c], _ =>
    simp only [cells22, cells9, cells23, List.drop, List.take] at t0 t1 t2
    obtain ⟨i, e0, _, _⟩ := DataW.trod_int Tryz.underlying23 t0
    obtain ⟨s, e1, _, _⟩ := DataW.trod_string Tryz.underlying9 t1
    obtain ⟨l, A, c', e2, hle, hC⟩ := opens_C Tryz.underlying38 cellsN40 opens40 z25 _ _ _ _ _ _ t2
    injection e0 with e0; injection e1 with e1; injection e2 with e2
    subst e0 e1 e2
    exact ⟨⟨i, s, l⟩, k40_mk W ⟨i, s, l⟩ hle hC⟩
set_option maxRecDepth 100000 in
theorem open_part {H : Type} {enc : TypeId × Value → H} {W : World} {base : Nat} {v : Value} {d : DataW H} {p : List MemPlace} (hv : Value.okWide Tryz.prog W .any base 25 v) (h : DataW.Trod enc Tryz.prog W 0 (fun _ => true) true 25 v d p) :
    ∃ (u : S25), v = .agg #[.int .i64 u.f0, .string u.f1] := by
  obtain ⟨cs, rfl, hsz⟩ := Go.WideShapes.okWide_struct Tryz.underlying25 hv
  obtain ⟨n, hn⟩ := h
  obtain ⟨u, hu⟩ := opens40 H enc W n _ _ hn
  refine ⟨u, ?_⟩
  have e2 : cs.toList = [.int .i64 u.f0, .string u.f1] := by simpa [Value.cells] using k25_open hu
  rw [← Array.toArray_toList (xs := cs), e2]
set_option maxRecDepth 100000 in
theorem open_row {α : Type} {d : Kd α} {t e : TypeId} (ht : Tryz.prog.underlying t = some (.slice e)) (hs : Tryz.prog.cellsOf e = d.sz) (he : Opens Tryz.prog d e) (z : α) {H : Type} {enc : TypeId × Value → H} {W : World} {base : Nat} {v : Value} {x : DataW H} {p : List MemPlace} (hv : Value.okWide Tryz.prog W .any base t v) (h : DataW.Trod enc Tryz.prog W 0 (fun _ => true) true t v x p) :
    ∃ (l : List α) (A : Option Addr) (c : Nat), v = .slice A l.length c ∧ l.length ≤ c ∧ d.C W A l.length l := by
  obtain ⟨a, n, c, rfl⟩ := Go.WideShapes.okWide_slice ht hv
  obtain ⟨m, hm⟩ := h
  obtain ⟨l, A, c', e, hle, hC⟩ := opens_C ht hs he z H enc W m _ _ hm
  refine ⟨l, A, c', ?_, hle, hC⟩
  simpa [Value.cells] using e
set_option maxRecDepth 100000 in
theorem open_uploads {H : Type} {enc : TypeId × Value → H} {W : World} {base : Nat} {v : Value} {x : DataW H} {p : List MemPlace} (hv : Value.okWide Tryz.prog W .any base 22 v) (h : DataW.Trod enc Tryz.prog W 0 (fun _ => true) true 22 v x p) :
    ∃ (l : List S40) (A : Option Addr) (c : Nat), v = .slice A l.length c ∧ l.length ≤ c ∧ Kd.C k40 W A l.length l := open_row Tryz.underlying22 cellsN25 opens25 z40 hv h
end Go.Proofs.YtgpmkbmobdbdoaaGreatDoor.Q

-- U4
namespace Go.Proofs.YtgpmkbmobdbdoaaGreatDoor.Q
open Go.ChangeShapes Go.WideShapes Go.ChangeAt Go.WideMaps Go.WideElems Go.RowKit
set_option linter.unusedVariables false

theorem own : ownKnob Tryz.prog.godebug = none := by kernel_rfl
theorem laidOut : laidOutB Tryz.prog = true := by kernel_rfl
noncomputable abbrev laid3 := Rows.partsLaysRow.laid
/-- The door's own heap meets the condition. -/
theorem door_met (os : Os) (args : Array Value) : laidMetH Tryz.prog laid3 ((World.doorLaid Tryz.prog 400 os).forCall (fun _ _ => 0) ⟨#[], args, []⟩).memory :=
  laidMetH_of_parts3 (fuel := 8) (laidMet_of_run' 8 (by kernel_rfl) (by kernel_rfl)) (by kernel_rfl) (by kernel_rfl)
end Go.Proofs.YtgpmkbmobdbdoaaGreatDoor.Q

-- LawLays
namespace Go.Proofs.YtgpmkbmobdbdoaaGreatDoor.partsLays
open Go.ChangeShapes Go.WideShapes Go.ChangeAt Go.RowKit
open Go.ChangeMaps (open_string shut_string)
set_option linter.unusedVariables false

set_option maxRecDepth 100000 in
theorem lifted (os : Os) (started : os.Started) (H : Type) (enc : TypeId × Value → H) :
    ReturnsInHanded {} Tryz.checked os 3 .any (fun w args => (Rows.partsLaysSpec.pre enc Tryz.prog Tryz.f3 [] false w args ∧ laidMetH Tryz.prog Q.laid3 w) ∧ sizedMet enc Tryz.prog Tryz.f3 (OpenSpec.ofChange Rows.partsLaysSpec) false w args)
      (Rows.partsLaysSpec.post enc Tryz.prog Tryz.f3 false true false false) := by
  refine returnsInHanded_of_change_and (C := Tryz.checked) (X := fun w _ => laidMetH Tryz.prog Q.laid3 w) (fun _ _ _ hh h => h.of_heap hh) Q.own started (by kernel_rfl) Tryz.func3
    (ChangeSpec.witness_shaped (enc := enc) (C := Tryz.checked) (os := os) (X := fun w _ => laidMetH Tryz.prog Q.laid3 w) false (World.doorLaid Tryz.prog 400 os) #[.slice none 0 0, .int .u64 0, .agg #[.int .i64 0, .string ByteArray.empty]] 8 rfl (World.shaped_of_RefB (by kernel_rfl) (by kernel_rfl)) (by kernel_rfl) (by kernel_rfl) (by kernel_rfl) (Q.door_met os _)) ?_
  intro W base args ds gs before hval0 hW _ _ hL _
  have hval : ∀ (j : Nat) t v, Tryz.f3.params[j]? = some t → args[j]? = some v → Value.okWide Tryz.prog W .any base t v := hval0
  have hW' := hW
  obtain ⟨p, q, hA0, hV, rfl, hfz, hnd⟩ := hW
  have hA : DataW.TrodAll enc Tryz.prog W 0 (fun _ => true) true Tryz.f3.params.toList args.toList ds p := hA0
  rw [Tryz.params3] at hA hval
  obtain ⟨v0, vs0, d0, ds0, p0, q0, hargs, rfl, rfl, h0, r0⟩ := trodAll_cons hA
  obtain ⟨v1, vs1, d1, ds1, p1, q1, rfl, rfl, rfl, h1, r1⟩ := trodAll_cons r0
  obtain ⟨v2, vs2, d2, ds2, p2, q2, rfl, rfl, rfl, h2, r2⟩ := trodAll_cons r1
  obtain ⟨rfl, rfl, rfl⟩ := trodAll_nil r2
  obtain rfl : args = #[v0, v1, v2] := by cases args; simp_all
  obtain ⟨rfl, rfl⟩ := trodVars_none hV
  have k0 := h0
  have lt0 : ∀ x ∈ p0, x.block < W.heap.size := by obtain ⟨m, hm⟩ := k0; exact DataW.trod_lt m _ _ _ hm
  have k2 := h2
  have lt2 : ∀ x ∈ p2, x.block < W.heap.size := by obtain ⟨m, hm⟩ := k2; exact DataW.trod_lt m _ _ _ hm
  obtain ⟨l_0, A_0, c_0, rfl, hl_0, hC_0⟩ := Q.open_uploads (hval 0 22 v0 rfl rfl) h0
  obtain ⟨a_1, rfl, rfl, rfl, w_1⟩ := open_int Tryz.underlying23 (hval 1 23 v1 rfl rfl) h1
  obtain ⟨p_2, rfl⟩ := Q.open_part (hval 2 25 v2 rfl rfl) h2
  clear hA0 hval0
  refine (Q.lays.walk A_0 c_0 l_0 a_1 p_2 W hC_0 hl_0).mono fun e W' ⟨he, bel⟩ => ?_
  subst he
  exact ⟨_, rfl, _, _, _, [], _, [], hW', trodAll_mk1 (shut_bool Tryz.underlying4 _), (trodAll_cons_mk (Below.trod Q.laidOut (by kernel_rfl) (of_decide_eq_true (by kernel_rfl)) k0 bel lt0) (trodAll_cons_mk (shut_int Tryz.underlying23 w_1) (trodAll_cons_mk (Below.trod Q.laidOut (by kernel_rfl) (of_decide_eq_true (by kernel_rfl)) k2 bel lt2) trodAll_mk0))), rfl, bel.frame _, fun h => by cases h⟩
theorem over : Rows.partsLaysRow.holds Tryz.pinned (OpenSpec.ofChange Rows.partsLaysSpec) :=
  OpenClaim.holds_of_wide 3 Tryz.f3 rfl rfl rfl rfl rfl rfl rfl ⟨rfl, rfl, rfl, rfl, rfl⟩ rfl rfl rfl rfl rfl (by kernel_rfl) Tryz.func3 (by kernel_rfl)
    (of_decide_eq_true (by kernel_rfl)) (by unfold Func.isWrapper; first | (rw [if_pos (by decide +kernel)]; kernel_rfl) | (rw [if_neg (by decide +kernel)]; exact ⟨rfl, rfl⟩))
    (fun os started H enc _ => lifted os started H enc)
end Go.Proofs.YtgpmkbmobdbdoaaGreatDoor.partsLays
namespace Go.Proofs.YtgpmkbmobdbdoaaGreatDoor
open Go
/-- The row. -/
theorem partsLays_holds : Rows.PartsLaysSaid := partsLays.over
/-- The tied card. -/
theorem partsLays_card : Rows.PartsLaysCardSaid :=
  Claim7.holds_tied_plain_at .later [] [.data, .data, .data] true (true, "9d1f5ff4b9913068176fbba7bc82e56eba8f2a0ded052c962934c76ab2a3e7e8") false
    partsLays_holds (fun _ h => by cases h) (by kernel_rfl) (fun _ h => by cases h) partsLays_row_tie rfl ⟨rfl, rfl⟩ (by kernel_rfl) rfl
    (fun f fn hf hfn => by
      obtain rfl : f = 3 := Option.some.inj ((show Tryz.prog.funcNamed "cellarer/cellarerlaw08.PartsLays" = some 3 by kernel_rfl).symm.trans hf) |>.symm
      obtain rfl : fn = Tryz.f3 := (Option.some.inj (Tryz.func3.symm.trans hfn)).symm
      exact ⟨by kernel_rfl, fun j t ht => by
        rw [Tryz.params3] at ht
        rcases j with _ | _ | _ | j
        · obtain rfl : t = 22 := by simpa using ht.symm
          exact (show Tryz.prog.wantsStandIn 22 = false by kernel_rfl)
        · obtain rfl : t = 23 := by simpa using ht.symm
          exact (show Tryz.prog.wantsStandIn 23 = false by kernel_rfl)
        · obtain rfl : t = 25 := by simpa using ht.symm
          exact (show Tryz.prog.wantsStandIn 25 = false by kernel_rfl)
        · simp at ht⟩)
    (by kernel_rfl)
#print axioms partsLays_card
end Go.Proofs.YtgpmkbmobdbdoaaGreatDoor
