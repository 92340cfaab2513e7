/- The law ItemsGoes of the seat: a depot's items, turned by the changes between two depots, go to the other's. Part 25 of 26. -/
import Derived.Test.YtafeepdlcilicaaGreatCg3
import Derived.Laws.Bits64b
import Derived.Deep.DeepMust
import Derived.Deep.RegionHeld3
import Derived.Test.YtafeepdlcilicaaGreatCg2
-- C4
namespace Go.Proofs.YtafeepdlcilicaaGreat.Q
open Go.WideMaps Go.RowKit Go.Proofs.YtafeepdlcilicaaGreatW.PrintWords Go.Proofs.YtafeepdlcilicaaGreatW.PrintLast Go.Proofs.YtafeepdlcilicaaGreatW.PrintMore Go.Maps
set_option linter.unusedVariables false
set_option linter.unusedSimpArgs false

/-! ### items.With -/
/-- What was met of the map so far. -/
def CollS (F : ByteArray → Option ByteArray) (left : Lit → Bool) (ys : List S43) : Prop :=
 (∀ y ∈ ys, F y.f0 = some y.f1 ∧ left (.string y.f0.data.toList) = false) ∧ (∀ it : S43, F it.f0 = some it.f1 → left (.string it.f0.data.toList) = false → it ∈ ys) ∧ ys.Pairwise (fun a b => a.f0 ≠ b.f0)
theorem collS_start {D : DataW Unit} {F : ByteArray → Option ByteArray} (h : HasS D F) : CollS F (Maps.has D) [] :=
 ⟨fun y hy => by simp at hy, fun n hn hl => by rw [(h.2 n.f0).1, hn] at hl; exact absurd hl (by simp), List.Pairwise.nil⟩
theorem hasS_some {D : DataW Unit} {F : ByteArray → Option ByteArray} (h : HasS D F) {s v : ByteArray} (hat : ∀ z, D.atKey (.string s.data.toList) z = .lit (.string v.data.toList)) : F s = some v := by
 have h1 : Maps.has D (.string s.data.toList) = true := has_true_of_atKey hat
 obtain ⟨m, hm⟩ : ∃ m, F s = some m := by
  rw [(h.2 s).1] at h1
  exact Option.isSome_iff_exists.1 h1
 have := strD_inj (((h.2 s).2 m hm (.map [])).symm.trans (hat _))
 rw [hm, this]
theorem collS_step {F : ByteArray → Option ByteArray} {ys : List S43} {left : Lit → Bool} {s v : ByteArray} (hC : CollS F left ys) (hl : left (.string s.data.toList) = true) (hF : F s = some v) :
  CollS F (fun z => left z && !z.sameKey (.string s.data.toList)) (ys ++ [⟨s, v⟩]) := by
 refine ⟨fun y hy => ?_, fun x hx hlx => ?_, ?_⟩
 ·rcases List.mem_append.1 hy with hy | hy
  ·obtain ⟨a1, a2⟩ := hC.1 y hy
   exact ⟨a1, by show (left _ && _) = false; rw [a2]; rfl⟩
  ·obtain rfl := List.mem_singleton.1 hy
   refine ⟨hF, ?_⟩
   simp only [lit_self, Bool.not_true, Bool.and_false]
 ·simp only [Bool.and_eq_false_iff, Bool.not_eq_false'] at hlx
  rcases hlx with hlx | hlx
  ·exact List.mem_append_left _ (hC.2.1 x hx hlx)
  ·have e := lit_same hlx
   rw [e, hF] at hx
   injection hx with hx
   obtain ⟨x0, x1⟩ := x
   simp only at e hx
   rw [e, ← hx]
   exact List.mem_append_right _ (List.mem_singleton.2 rfl)
 ·rw [List.pairwise_append]
  refine ⟨hC.2.2, List.pairwise_singleton _ _, fun a ha b hb e => ?_⟩
  obtain rfl := List.mem_singleton.1 hb
  have h2 := (hC.1 a ha).2
  simp only at e
  rw [e, hl] at h2
  cases h2
theorem collS_end {F : ByteArray → Option ByteArray} {ys zs : List S43} {left : Lit → Bool} (hC : CollS F left ys) (hl : ∀ z, left z = false) (hp : zs.Perm ys) (hs : zs.Pairwise (fun a b => ¬ ltN b.f0 a.f0)) : SI zs ∧ RepF zs F := by
 refine ⟨?_, fun n => ⟨fun hn => (hC.1 n (hp.mem_iff.1 hn)).1, fun hn => hp.mem_iff.2 (hC.2.1 n hn (hl _))⟩⟩
 have h1 : zs.Pairwise (fun a b => a.f0 ≠ b.f0) := (hp.pairwise_iff (fun {_ _} h => Ne.symm h)).2 hC.2.2
 exact (h1.and hs).imp (fun {a b} h => ltN_of h.1 h.2)
theorem chgF_snoc (f : ByteArray → Option ByteArray) (C : List S66) (c : S66) : chgF f (C ++ [c]) = stepF (chgF f C) c := by unfold chgF; rw [List.foldl_append]; rfl
theorem turned_below {w w1 : World} {b B : Nat} (h : w.mapTurned w1 b) (hB : B ≤ b) : Below B w w1 := by
 obtain ⟨es, clock, es', clock', hb, rfl⟩ := h
 refine ⟨rfl, rfl, rfl, ?_, fun k hk => ?_⟩
 ·simp [ChangeMaps.setBlock]
 ·simp [ChangeMaps.setBlock, Array.getElem?_modify, show b ≠ k by omega]
set_option maxHeartbeats 4000000 in
set_option maxRecDepth 100000 in
theorem with.walk (A0 : Option Addr) (c0 : Nat) (l0 : List S43) (A1 : Option Addr) (c1 : Nat) (l1 : List S66) (w : World) (hr0 : Kd.C k43 w A0 l0.length l0) (hr1 : Kd.C k66 w A1 l1.length l1) (hn : l0.length + l1.length ≤ 1000000) (hs0 : ∀ n ∈ l0, n.f0.size ≤ maxLen) (hs1 : ∀ n ∈ l1, n.f0.size ≤ maxLen) :
  Calls Tryz.prog 10 #[.slice A0 l0.length c0, .slice A1 l1.length c1] w fun e w' => ∃ v zs, e = .returned v ∧ NRow35 w' w.heap.size v zs ∧ SI zs ∧ RepF zs (chgF (valL l0) l1) ∧ Below w.heap.size w w' := by
 have HC := Lib.hid (gathered.walk A0 c0 l0 w hr0 (by omega) hs0)
 have HR1 := Lib.hid hr1
 have HS1 := Lib.hid hs1
 obtain ⟨i0, hi, hy0, hy1, hy2⟩ := info_parts info43
 clear hr0 hr1 hs0 hs1
 go_enter Tryz.func10, Tryz.ntmps10
 go_wp2_with (go_at_call 22; go_must (refine HC.out.mono ?_; rintro e w1 ⟨D, rfl, hm, hH, hb⟩; have HM := Lib.hid hm; have HH := Lib.hid hH; have HB := Lib.hid hb; clear hm hH hb))
 go_loopw [15] (fun i wr => ∃ (k : Nat) (D : DataW Unit), i = .int .i64 k ∧ k ≤ l1.length ∧ Hid (HasS D (chgF (valL l0) (l1.take k))) ∧ Hid (wr.ownsMap Tryz.prog 9 strR w.heap.size (l0.length + k) D) ∧ Hid (Below w.heap.size w wr)) (fun i _ => l1.length - (intOf i).toNat)
 case atStart => exact ⟨0, D, rfl, Nat.zero_le _, HH, HM, HB⟩
 case round =>
  clear HM HH HB D
  obtain ⟨k, D, rfl, hk, hH, hM, hB⟩ := hrel
  by_cases hlt : k < l1.length
  ·obtain ⟨ad, e', c0, c1, c2⟩ := at37 HR1.out hB.out k hlt
   subst e'
   have p0 : (0 : Int) ≤ (k : Int) := by omega
   have p1 : (k : Int) < (l1.length : Int) := by omega
   have hsz : Hid (l1[k].f0.size ≤ maxLen) := HS1.out _ (List.getElem_mem hlt)
   have hnx := Lib.hid (take_snoc l1 k hlt)
   have hBs : Hid (w.heap.size < wr.heap.size) := hM.out.lt
   generalize l1[k] = n at *
   have HSN := Lib.hid (chgF_snoc (valL l0) (l1.take k) n)
   cases hf : n.f2
   ·have HH := Lib.hid (hasS_put hH.out n.f0 n.f1)
    have HST : Hid (stepF (chgF (valL l0) (l1.take k)) n = putF (chgF (valL l0) (l1.take k)) n.f0 n.f1) := by unfold Hid stepF; rw [hf]; rfl
    rw [hf] at c2
    have HF := Lib.hid hf
    clear hf
    go_wp2_with (first | ((with_reducible refine gate_dst (N := 7) rfl ?_); refine box_event ?hg (N := 7) ?hd (cs := #[.string (⟨#[]⟩ : ByteArray), .string (⟨#[]⟩ : ByteArray), .bool false]) (t := 66) ?hr ?_; (case hd => rfl); (case hg => rfl); (case hr => first | (go_simp; done) | (go_simp; rfl)); intro g5 hg5 w5 hb5 hbel5; have HM5 := Lib.hid (owns_below hM.out hbel5); have HB5 := keepB hB hbel5; have G5 := Lib.hid (hg5 ▸ hBs.out : w.heap.size < g5); have K5 := Lib.hid hb5; clear hg5 hb5 hbel5) | ((with_reducible refine gate_ (.store 66 (.tmp 7) (.tmp 18)) rfl ?_); go_must (refine store37_law rfl rfl (.tmp 7) (.tmp 18) rfl g5 _ _ _ ⟨n.f0, n.f1, false⟩ rfl rfl K5.out ?_; intro w6 hk6 hb6; have K6 := Lib.hid hk6; have HM6 := Lib.hid (owns_blk HM5.out ((hb6 (w.heap.size + 1) G5.out).block _ (Nat.lt_succ_self _))); have HB6 := Lib.hid (HB5.out.trans (hb6 w.heap.size (Nat.le_of_lt G5.out))); have d0 := (blk_cell K6.out 0).trans (rfl : _ = some (Value.string n.f0)); have d1 := (blk_cell K6.out 1).trans (rfl : _ = some (Value.string n.f1)); have d2 := (blk_cell K6.out 2).trans (rfl : _ = some (Value.bool false)); have z0 := blk_frozen K6.out 0; have z1 := blk_frozen K6.out 1; have z2 := blk_frozen K6.out 2; clear hk6 hb6)) | (at_mapUpdate; go_must (refine wpList_mapUpdate_own _ rfl _ _ _ 62 rfl 9 9 slaw Tryz.underlying62 strR w.heap.size (l0.length + k) D rfl HM6.out (by unfold maxLen; omega) _ _ _ rfl rfl (skey hsz.out) _ [] (strR_mk n.f1) ?_; intro w7 hM7 hg7; have HM7 := Lib.hid hM7; have HB7 := Lib.hid (HB6.out.grown hg7 HB6.out.size (fun j hj => by cases hj; exact Nat.le_refl _)); clear hM7 hg7)))
    go_roundw
    case rel => exact ⟨k + 1, _, by go_num, hlt, by unfold Hid; rw [hnx.out, HSN.out, HST.out]; exact HH, HM7, HB7⟩
    case measure => simp [intOf]; omega
   ·have HH := Lib.hid (hasS_del hH.out n.f0)
    have HST : Hid (stepF (chgF (valL l0) (l1.take k)) n = delF (chgF (valL l0) (l1.take k)) n.f0) := by unfold Hid stepF; rw [hf]; rfl
    rw [hf] at c2
    have HF := Lib.hid hf
    clear hf
    go_wp2_with (first | ((with_reducible refine gate_dst (N := 7) rfl ?_); refine box_event ?hg (N := 7) ?hd (cs := #[.string (⟨#[]⟩ : ByteArray), .string (⟨#[]⟩ : ByteArray), .bool false]) (t := 66) ?hr ?_; (case hd => rfl); (case hg => rfl); (case hr => first | (go_simp; done) | (go_simp; rfl)); intro g5 hg5 w5 hb5 hbel5; have HM5 := Lib.hid (owns_below hM.out hbel5); have HB5 := keepB hB hbel5; have G5 := Lib.hid (hg5 ▸ hBs.out : w.heap.size < g5); have K5 := Lib.hid hb5; clear hg5 hb5 hbel5) | ((with_reducible refine gate_ (.store 66 (.tmp 7) (.tmp 18)) rfl ?_); go_must (refine store37_law rfl rfl (.tmp 7) (.tmp 18) rfl g5 _ _ _ ⟨n.f0, n.f1, true⟩ rfl rfl K5.out ?_; intro w6 hk6 hb6; have K6 := Lib.hid hk6; have HM6 := Lib.hid (owns_blk HM5.out ((hb6 (w.heap.size + 1) G5.out).block _ (Nat.lt_succ_self _))); have HB6 := Lib.hid (HB5.out.trans (hb6 w.heap.size (Nat.le_of_lt G5.out))); have d0 := (blk_cell K6.out 0).trans (rfl : _ = some (Value.string n.f0)); have d1 := (blk_cell K6.out 1).trans (rfl : _ = some (Value.string n.f1)); have d2 := (blk_cell K6.out 2).trans (rfl : _ = some (Value.bool true)); have z0 := blk_frozen K6.out 0; have z1 := blk_frozen K6.out 1; have z2 := blk_frozen K6.out 2; clear hk6 hb6)) | (at_delete; go_must (refine wpList_delete_own _ rfl _ _ 62 9 rfl 9 slaw Tryz.underlying62 strR w.heap.size (l0.length + k) D rfl HM6.out _ _ rfl (skey hsz.out) ?_; intro w7 hM7 ht7; have HM7 := Lib.hid hM7; have HB7 := Lib.hid (HB6.out.trans (turned_below ht7 (Nat.le_refl _))); clear hM7 ht7)))
    go_roundw
    case rel => exact ⟨k + 1, _, by go_num, hlt, by unfold Hid; rw [hnx.out, HSN.out, HST.out]; exact HH, HM7.out.mono (by omega), HB7⟩
    case measure => simp [intOf]; omega
  ·obtain rfl : k = l1.length := by omega
   rw [List.take_length] at hH
   go_wp2_with (at_range; go_must (refine wpList_range_own _ rfl _ 62 rfl 9 9 slaw Tryz.underlying62 strR w.heap.size (l0.length + l1.length) D rfl hM.out ?_; intro w0 hrg0 hg0 hs0))
   go_frame
   have HR0 := Lib.hid hrg0
   have HB0 : Hid (Below w.heap.size w w0) := hB.out.grown hg0 hB.out.size (fun j hj => by cases hj)
   have HSz := Lib.hid hM.out.size_le
   have HRr : Hid (w.heap.size ≤ wr.heap.size) := hB.out.size
   clear hrg0 hg0 hs0
   generalize wr.heap.size = r at *
   have hH' := Lib.hid hH.out
   generalize hFe : chgF (valL l0) l1 = F at *
   have HFE := Lib.hid hFe
   clear hFe
   go_loopw [8] (fun v8 wz => ∃ (left : Lit → Bool) (cn : Nat) (ys : List S43), Hid (wz.ranges Tryz.prog 9 strR w.heap.size r (l0.length + l1.length) D left cn) ∧ Hid (NRow35 wz (w.heap.size + 1) v8 ys) ∧ Hid (CollS F left ys) ∧ ys.length + cn ≤ l0.length + l1.length ∧ Hid (Below w.heap.size w wz)) (fun _ wz => wz.rangeLeft w.heap.size r)
   case atStart => exact ⟨_, _, [], HR0, NRow35.nil _ _, collS_start hH'.out, by have := HSz.out; simpa using this, HB0⟩
   case round =>
    clear HR0 HB0
    obtain ⟨left, cn, ys, HR, HN, HL, hcn, hB2⟩ := hrel
    go_wp2_with (at_next; go_must (refine wpList_next_ranges _ rfl _ rfl 9 slaw strR Value.string Value.string (fun key kl hk => by obtain ⟨s, e, _⟩ := skey_inv hk; exact ⟨s, e⟩) (fun v y hv => by obtain ⟨n, e, _⟩ := strR_inv hv; exact ⟨n, e⟩) w.heap.size r (l0.length + l1.length) D left cn rfl HR.out ?_ ?_))
    ·intro h0 hl0
     have HL0 := Lib.hid hl0
     clear h0 hl0
     go_wp2_with (go_at_call 18; go_must (refine (sort_notes35 (w.heap.size + 1) _ ys _ HN.out (by omega)).mono ?_; rintro e w8 ⟨rfl, zs, hz, hp, hs8, hg8⟩))
     go_ret
     have hend := collS_end HL.out HL0.out hp hs8
     exact ⟨_, zs, rfl, hz.mono (Nat.le_succ _), hend.1, by rw [HFE.out]; exact hend.2, hB2.out.grown hg8 hB2.out.size (fun j hj => Nat.le_trans (Nat.le_succ _) (own_base HN.out j hj))⟩
    ·intro x v kl yd yp w2 cn2 hkey hlk hv hat hrg2 hlt hg2 hs2 hen
     obtain ⟨s, es, rfl, hss⟩ := skey_inv hkey
     injection es with es
     subst es
     have hv' := (strR_mk v).symm.trans hv
     injection hv' with hv'
     have hyd : (DataW.lit (.string v.data.toList) : DataW Unit) = yd := congrArg Prod.fst hv'
     subst hyd
     have hFx := hasS_some hH'.out hat
     have HL2 := Lib.hid (collS_step HL.out hlk hFx)
     have HR2 := Lib.hid hrg2
     have HN2 := Lib.hid (HN.out.grown hg2 (fun g hg e => HN.out.ne_iter HR.out (by rw [hg]; exact e.symm)))
     have hlt' := Lib.hid hlt
     have HBW : Hid (Below w.heap.size w w2) := hB2.out.grown hg2 hB2.out.size (fun j hj => by cases hj; exact HRr.out)
     have HRW : Hid (w.heap.size + 1 ≤ w2.heap.size) := HR2.out.owns.lt
     clear hg2 hs2 hv hv' hkey hat hlk hFx
     go_wp2_with ((with_reducible refine gate_builtin (b := .append) (xs := #[.tmp 37, .tmp 41]) rfl ?_); at_builtin; go_must (refine wpList_append_own _ rfl _ _ 26 rfl (w.heap.size + 1) 43 i0 (.agg #[(.string ⟨#[]⟩), (.string ⟨#[]⟩)]) 2 32 Tryz.underlying26 hi hy0 hy1 hy2 rfl (by decide) _ ys.length (fl35 ys) rfl (HN2.out.below (belowA w2 _)) _ 1 1 [.string x, .string v] rfl rfl (raw_new _ _ _ _ rfl) (enc35_one ⟨x, v⟩) (by unfold maxLen; omega) (by omega) (by have := HRW.out; simp; omega) ?_; intro v' w7 hown' hgrow hnil; have HN7 := Lib.hid (NRow35.snoc (n := ⟨x, v⟩) hown'); have HR7 := Lib.hid ((HR2.out.kept (below_grown (belowA w2 (.cells #[.string x, .string v] 43))) (by simp) (by simp)).kept hgrow (HN2.out.ne_low (Nat.lt_succ_self _)) (HN2.out.ne_iter HR2.out)); have HB7 := Lib.hid ((HBW.out.trans ((belowA w2 (.cells #[.string x, .string v] 43)).mono HBW.out.size)).grown hgrow (by have := HRW.out; simp; omega) (fun j hj => Nat.le_trans (Nat.le_succ _) (own_base HN2.out j hj))); clear hown' hgrow hnil))
     go_roundw
     case rel => exact ⟨_, cn2, ys ++ [⟨x, v⟩], HR7, HN7, HL2, by have := hlt'.out; simp; omega, HB7⟩
     case measure => rw [HR7.out.left_eq, HR.out.left_eq]; exact hlt'.out
/-! in the print's form -/
def okI (l : List S43) : Bool := decide (l.length ≤ 400000) && l.all (fun n => decide (n.f0.size ≤ maxLen))
def okC (l : List S66) : Bool := decide (l.length ≤ 400000) && l.all (fun n => decide (n.f0.size ≤ maxLen))
theorem okI_len {l : List S43} (h : okI l = true) : l.length ≤ 400000 := by unfold okI at h; simp only [Bool.and_eq_true, decide_eq_true_eq] at h; exact h.1
theorem okI_size {l : List S43} (h : okI l = true) : ∀ n ∈ l, n.f0.size ≤ maxLen := by
 unfold okI at h
 simp only [Bool.and_eq_true, decide_eq_true_eq, List.all_eq_true] at h
 exact h.2
theorem okC_len {l : List S66} (h : okC l = true) : l.length ≤ 400000 := by unfold okC at h; simp only [Bool.and_eq_true, decide_eq_true_eq] at h; exact h.1
theorem okC_size {l : List S66} (h : okC l = true) : ∀ n ∈ l, n.f0.size ≤ maxLen := by
 unfold okC at h
 simp only [Bool.and_eq_true, decide_eq_true_eq, List.all_eq_true] at h
 exact h.2
def items_With.f (l0 : List S43) (l1 : List S66) : Option (List S43) := if okI l0 = true then (if okC l1 = true then some (withL (normL l0) l1) else none) else none
theorem items_With.calls (A0 : Option Addr) (c0 : Nat) (l0 : List S43) (A1 : Option Addr) (c1 : Nat) (l1 : List S66) (r : List S43) (w : World) (hr0 : Kd.C k43 w A0 l0.length l0) (hc0 : l0.length ≤ c0) (hr1 : Kd.C k66 w A1 l1.length l1) (hc1 : l1.length ≤ c1) (h : items_With.f l0 l1 = some r) :
  Calls Tryz.prog 10 #[.slice A0 l0.length c0, .slice A1 l1.length c1] w fun e w' => ∃ v0_ : Value, e = .returned (v0_) ∧ Kd.R k43 43 w' w.heap.size (fun _ => True) v0_ r ∧ Below w.heap.size w w' := by
 unfold items_With.f at h
 split at h
 ·rename_i h0
  split at h
  ·rename_i h1
   injection h with h
   subst h
   refine (with.walk A0 c0 l0 A1 c1 l1 w hr0 hr1 (by have := okI_len h0; have := okC_len h1; omega) (okI_size h0) (okC_size h1)).mono ?_
   rintro e w' ⟨v, zs, rfl, hn, hs, hf, hb⟩
   obtain ⟨n1, n2⟩ := normL_ok l0
   obtain ⟨m1, m2⟩ := withL_ok l1 (normL l0) _ n1 n2
   rw [← repF_unique hs m1 hf m2]
   exact ⟨v, rfl, hn.R, hb⟩
  ·cases h
 ·cases h
end Go.Proofs.YtafeepdlcilicaaGreat.Q

-- C5
namespace Go.Proofs.YtafeepdlcilicaaGreat.Q
open Go.WideMaps Go.RowKit Go.Proofs.YtafeepdlcilicaaGreatW.PrintWords Go.Proofs.YtafeepdlcilicaaGreatW.PrintLast Go.Proofs.YtafeepdlcilicaaGreatW.PrintMore Go.Maps
set_option linter.unusedVariables false
set_option linter.unusedSimpArgs false

/-! ### items.Diff -/
/-- What was found so far: done names' changes. -/
def CollD (fa fb : ByteArray → Option ByteArray) (done : ByteArray → Bool) (ys : List S66) : Prop :=
 (∀ y ∈ ys, diffF fa fb y.f0 = some y ∧ done y.f0 = true) ∧ (∀ c : S66, diffF fa fb c.f0 = some c → done c.f0 = true → c ∈ ys) ∧ ys.Pairwise (fun a b => a.f0 ≠ b.f0)
theorem collD_start (fa fb : ByteArray → Option ByteArray) {done : ByteArray → Bool} (h : ∀ nm, done nm = false) : CollD fa fb done [] :=
 ⟨fun y hy => by simp at hy, fun c _ hd => (by rw [h] at hd; cases hd), List.Pairwise.nil⟩
theorem collD_cong {fa fb : ByteArray → Option ByteArray} {done done' : ByteArray → Bool} {ys : List S66} (h : CollD fa fb done ys) (e : ∀ nm, done' nm = done nm) : CollD fa fb done' ys := by
 have : done' = done := funext e
 rw [this]; exact h
theorem collD_add {fa fb : ByteArray → Option ByteArray} {done done' : ByteArray → Bool} {ys : List S66} {s : ByteArray} {c : S66} (h : CollD fa fb done ys) (h0 : done s = false) (hc : diffF fa fb s = some c) (e : ∀ nm, done' nm = (done nm || decide (nm = s))) : CollD fa fb done' (ys ++ [c]) := by
 have hn := diffF_name hc
 refine ⟨fun y hy => ?_, fun x hx hd => ?_, ?_⟩
 ·rcases List.mem_append.1 hy with hy | hy
  ·obtain ⟨a1, a2⟩ := h.1 y hy
   exact ⟨a1, by rw [e, a2]; rfl⟩
  ·obtain rfl := List.mem_singleton.1 hy
   exact ⟨by rw [hn]; exact hc, by rw [e, hn]; simp⟩
 ·rw [e] at hd
  rcases Bool.or_eq_true_iff.1 hd with hd | hd
  ·exact List.mem_append_left _ (h.2.1 x hx hd)
  ·have e2 : x.f0 = s := of_decide_eq_true hd
   rw [e2, hc] at hx
   injection hx with hx
   rw [← hx]
   exact List.mem_append_right _ (List.mem_singleton.2 rfl)
 ·rw [List.pairwise_append]
  refine ⟨h.2.2, List.pairwise_singleton _ _, fun a ha b hb e2 => ?_⟩
  obtain rfl := List.mem_singleton.1 hb
  have h2 := (h.1 a ha).2
  rw [e2, hn, h0] at h2
  cases h2
theorem collD_skip {fa fb : ByteArray → Option ByteArray} {done done' : ByteArray → Bool} {ys : List S66} {s : ByteArray} (h : CollD fa fb done ys) (hc : diffF fa fb s = none) (e : ∀ nm, done' nm = (done nm || decide (nm = s))) : CollD fa fb done' ys := by
 refine ⟨fun y hy => ?_, fun x hx hd => ?_, h.2.2⟩
 ·obtain ⟨a1, a2⟩ := h.1 y hy
  exact ⟨a1, by rw [e, a2]; rfl⟩
 ·rw [e] at hd
  rcases Bool.or_eq_true_iff.1 hd with hd | hd
  ·exact h.2.1 x hx hd
  ·have e2 : x.f0 = s := of_decide_eq_true hd
   rw [e2, hc] at hx
   cases hx
theorem collD_end {fa fb : ByteArray → Option ByteArray} {done : ByteArray → Bool} {ys zs : List S66} (hC : CollD fa fb done ys) (hd : ∀ nm, done nm = ((fb nm).isSome || (fa nm).isSome)) (hp : zs.Perm ys) (hs : zs.Pairwise (fun a b => ¬ ltN b.f0 a.f0)) : SC zs ∧ ∀ c : S66, c ∈ zs ↔ diffF fa fb c.f0 = some c := by
 refine ⟨?_, fun c => ⟨fun hn => (hC.1 c (hp.mem_iff.1 hn)).1, fun hn => hp.mem_iff.2 (hC.2.1 c hn ?_)⟩⟩
 ·have h1 : zs.Pairwise (fun a b => a.f0 ≠ b.f0) := (hp.pairwise_iff (fun {_ _} h => Ne.symm h)).2 hC.2.2
  exact (h1.and hs).imp (fun {a b} h => ltN_of h.1 h.2)
 ·rw [hd]
  cases h1 : fb c.f0 with
  | some _ => rfl
  | none =>
   cases h2 : fa c.f0 with
   | some _ => rfl
   | none =>
    rw [diffF_none.2 (by rw [h1, h2])] at hn
    cases hn
theorem lit_dec (a b : ByteArray) : (Lit.string a.data.toList).sameKey (.string b.data.toList) = decide (a = b) := by
 by_cases e : a = b
 ·subst e; rw [lit_self]; simp
 ·rw [decide_eq_false e]
  exact Bool.eq_false_iff.2 (fun h => e (lit_same h))
def done1 (fb : ByteArray → Option ByteArray) (left : Lit → Bool) (nm : ByteArray) : Bool := (fb nm).isSome && !left (.string nm.data.toList)
def done2 (fa fb : ByteArray → Option ByteArray) (left : Lit → Bool) (nm : ByteArray) : Bool := (fb nm).isSome || ((fa nm).isSome && !left (.string nm.data.toList))
theorem done1_step {fb : ByteArray → Option ByteArray} {left : Lit → Bool} {s : ByteArray} (h : (fb s).isSome = true) (nm : ByteArray) : done1 fb (fun z => left z && !z.sameKey (.string s.data.toList)) nm = (done1 fb left nm || decide (nm = s)) := by
 unfold done1
 simp only [lit_dec]
 by_cases e : nm = s
 ·subst e; rw [h]; simp
 ·simp [e]
theorem done2_step {fa fb : ByteArray → Option ByteArray} {left : Lit → Bool} {s : ByteArray} (h : (fa s).isSome = true) (nm : ByteArray) : done2 fa fb (fun z => left z && !z.sameKey (.string s.data.toList)) nm = (done2 fa fb left nm || decide (nm = s)) := by
 unfold done2
 simp only [lit_dec]
 by_cases e : nm = s
 ·subst e; rw [h]; simp
 ·simp [e]
set_option maxHeartbeats 8000000 in
set_option maxRecDepth 100000 in
theorem diff.walk (A0 : Option Addr) (c0 : Nat) (l0 : List S43) (A1 : Option Addr) (c1 : Nat) (l1 : List S43) (w : World) (hr0 : Kd.C k43 w A0 l0.length l0) (hr1 : Kd.C k43 w A1 l1.length l1) (hn : l0.length + l1.length ≤ 1000000) (hs0 : ∀ n ∈ l0, n.f0.size ≤ maxLen) (hs1 : ∀ n ∈ l1, n.f0.size ≤ maxLen) :
  Calls Tryz.prog 8 #[.slice A0 l0.length c0, .slice A1 l1.length c1] w fun e w' => ∃ v zs, e = .returned v ∧ NRow33 w' w.heap.size v zs ∧ SC zs ∧ (∀ c : S66, c ∈ zs ↔ diffF (valL l0) (valL l1) c.f0 = some c) ∧ Below w.heap.size w w' := by
 have HC := Lib.hid (gathered.walk A0 c0 l0 w hr0 (by omega) hs0)
 have HR1 := Lib.hid hr1
 have HS1 := Lib.hid hs1
 obtain ⟨i0, hi, hy0, hy1, hy2⟩ := info_parts info66
 clear hr0 hr1 hs0 hs1
 have T1 : True := trivial
 go_enter Tryz.func8, Tryz.ntmps8
 go_wp2_with (first | (go_at_call 22; have _t := T1; go_must (refine HC.out.mono ?_; rintro e w1 ⟨Da, rfl, hm, hH, hb⟩; have HMa1 := Lib.hid hm; have HHa := Lib.hid hH; have HB1 := Lib.hid hb; clear hm hH hb T1 _t)) | (go_at_call 22; go_must (refine (gathered.walk A1 c1 l1 w1 (Kd.C_below HR1.out HB1.out) (by omega) HS1.out).mono ?_; rintro e w2 ⟨Db, rfl, hm, hH, hb⟩; have HMb := Lib.hid hm; have HHb := Lib.hid hH; have HMa := Lib.hid (owns_below HMa1.out hb); have HB2 := keepB HB1 hb; clear hm hH hb)) | (at_range; go_must (refine wpList_range_own _ rfl _ 62 rfl 9 9 slaw Tryz.underlying62 strR w1.heap.size l1.length Db rfl HMb.out ?_; intro w0 hrg0 hg0 hs0)))
 go_frame
 have HR0 := Lib.hid hrg0
 have HB0 : Hid (Below w.heap.size w w0) := HB2.out.grown hg0 HB2.out.size (fun j hj => by cases hj)
 have HM0 : Hid (w0.ownsMap Tryz.prog 9 strR w.heap.size l0.length Da) := owns_blk HMa.out (hg0.block _ HMa.out.lt (by simp))
 have HSz := Lib.hid HMb.out.size_le
 have HSa := Lib.hid HMa.out.size_le
 have HS1w : Hid (w.heap.size ≤ w1.heap.size) := HB1.out.size
 have HS1x : Hid (w.heap.size < w1.heap.size) := HMa1.out.lt
 have HRr : Hid (w1.heap.size < w2.heap.size) := HMb.out.lt
 have HRz : Hid (w2.heap.size < w0.heap.size) := by unfold Hid; omega
 clear hrg0 hg0 hs0 HMa1 HMa HMb HB1 HB2
 generalize w2.heap.size = r at *
 go_loopw [7] (fun v7 wz => ∃ (left : Lit → Bool) (cn : Nat) (ys : List S66), Hid (wz.ranges Tryz.prog 9 strR w1.heap.size r l1.length Db left cn) ∧ Hid (NRow33 wz (w1.heap.size + 1) v7 ys) ∧ Hid (CollD (valL l0) (valL l1) (done1 (valL l1) left) ys) ∧ ys.length + cn ≤ l1.length ∧ Hid (wz.ownsMap Tryz.prog 9 strR w.heap.size l0.length Da) ∧ Hid (Below w.heap.size w wz)) (fun _ wz => wz.rangeLeft w1.heap.size r)
 case atStart => exact ⟨_, _, [], HR0, NRow33.nil _ _, collD_start _ _ (fun nm => by unfold done1; rw [(HHb.out.2 nm).1]; cases (valL l1 nm).isSome <;> rfl), by have := HSz.out; simpa using this, HM0, HB0⟩
 case round =>
  clear HR0 HB0 HM0
  obtain ⟨left, cn, ys, HR, HN, HL, hcn, HM, hB2⟩ := hrel
  go_wp2_with (at_next; go_must (refine wpList_next_ranges _ rfl _ rfl 9 slaw strR Value.string Value.string (fun key kl hk => by obtain ⟨s, e, _⟩ := skey_inv hk; exact ⟨s, e⟩) (fun v y hv => by obtain ⟨n, e, _⟩ := strR_inv hv; exact ⟨n, e⟩) w1.heap.size r l1.length Db left cn rfl HR.out ?_ ?_))
  ·intro h0 hl0
   have HL0 := Lib.hid hl0
   have HMb2 := Lib.hid HR.out.owns
   have HLx : Hid (CollD (valL l0) (valL l1) (done2 (valL l0) (valL l1) (Maps.has Da)) ys) := collD_cong HL.out (fun nm => by unfold done2 done1; rw [HL0.out, (HHa.out.2 nm).1]; cases (valL l1 nm).isSome <;> cases (valL l0 nm).isSome <;> rfl)
   clear h0 hl0 HL
   go_wp2_with (at_range; go_must (refine wpList_range_own _ rfl _ 62 rfl 9 9 slaw Tryz.underlying62 strR w.heap.size l0.length Da rfl HM.out ?_; intro w4 hrg0 hg0 hs0))
   go_frame
   have HR0 := Lib.hid hrg0
   have HBx : Hid (Below w.heap.size w w4) := hB2.out.grown hg0 hB2.out.size (fun j hj => by cases hj)
   have HMx : Hid (w4.ownsMap Tryz.prog 9 strR w1.heap.size l1.length Db) := owns_blk HMb2.out (hg0.block _ HMb2.out.lt (by simp))
   have HNx : Hid (NRow33 w4 (w1.heap.size + 1) _ ys) := HN.out.grown hg0 (fun g hg e => by cases e)
   have HRr2 : Hid (w1.heap.size < wr.heap.size) := HMb2.out.lt
   have HRr3 : Hid (w.heap.size ≤ wr.heap.size) := hB2.out.size
   have hys : ys.length ≤ l1.length := by omega
   clear hrg0 hg0 hs0 HR HN HM hB2 HMb2
   generalize wr.heap.size = r2 at *
   go_loopw [7] (fun v7 wz => ∃ (left : Lit → Bool) (cn : Nat) (ys : List S66), Hid (wz.ranges Tryz.prog 9 strR w.heap.size r2 l0.length Da left cn) ∧ Hid (NRow33 wz (w1.heap.size + 1) v7 ys) ∧ Hid (CollD (valL l0) (valL l1) (done2 (valL l0) (valL l1) left) ys) ∧ ys.length + cn ≤ l0.length + l1.length ∧ Hid (wz.ownsMap Tryz.prog 9 strR w1.heap.size l1.length Db) ∧ Hid (Below w.heap.size w wz)) (fun _ wz => wz.rangeLeft w.heap.size r2)
   case atStart => exact ⟨_, _, ys, HR0, HNx, HLx, by have := HSa.out; omega, HMx, HBx⟩
   case round =>
    clear HR0 HBx HMx HNx HLx hys hcn cn ys
    obtain ⟨left, cn, ys, HR, HN, HL, hcn, HM, hB2⟩ := hrel
    go_wp2_with (at_next; go_must (refine wpList_next_ranges _ rfl _ rfl 9 slaw strR Value.string Value.string (fun key kl hk => by obtain ⟨s, e, _⟩ := skey_inv hk; exact ⟨s, e⟩) (fun v y hv => by obtain ⟨n, e, _⟩ := strR_inv hv; exact ⟨n, e⟩) w.heap.size r2 l0.length Da left cn rfl HR.out ?_ ?_))
    ·intro h0 hl0
     have HL0 := Lib.hid hl0
     clear h0 hl0
     go_wp2_with (go_at_call 23; go_must (refine (sort_notes33 (w1.heap.size + 1) _ ys _ HN.out (by omega)).mono ?_; rintro e w8 ⟨rfl, zs, hz, hp, hs8, hg8⟩))
     go_ret
     have hend := collD_end HL.out (fun nm => by unfold done2; rw [HL0.out]; cases (valL l1 nm).isSome <;> cases (valL l0 nm).isSome <;> rfl) hp hs8
     exact ⟨_, zs, rfl, hz.mono (by have := HS1w.out; omega), hend.1, hend.2, hB2.out.grown hg8 hB2.out.size (fun j hj => Nat.le_trans (by have := HS1w.out; omega) (own_base HN.out j hj))⟩
    ·intro x v kl yd yp w3 cn2 hkey hlk hv hat hrg2 hlt hg2 hs2 hen
     obtain ⟨s, es, rfl, hsz⟩ := skey_inv hkey
     injection es with es
     subst es
     have hv' := (strR_mk v).symm.trans hv
     injection hv' with hv'
     have hyd : (DataW.lit (.string v.data.toList) : DataW Unit) = yd := congrArg Prod.fst hv'
     subst hyd
     have hFx := hasS_some HHa.out hat
     have hss := Lib.hid hsz
     have HR2 := Lib.hid hrg2
     have HN2 := Lib.hid (HN.out.grown hg2 (fun g hg e => HN.out.ne_iter HR.out (by rw [hg]; exact e.symm)))
     have hlt' := Lib.hid hlt
     have HM2 := Lib.hid (owns_blk HM.out (hg2.block _ HM.out.lt (fun e => by cases e; exact absurd (HRr2.out) (Nat.lt_irrefl _))))
     have HBW : Hid (Below w.heap.size w w3) := hB2.out.grown hg2 hB2.out.size (fun j hj => by cases hj; exact HRr3.out)
     have HRW : Hid (w1.heap.size + 1 ≤ w3.heap.size) := HM2.out.lt
     have hFi : (valL l0 x).isSome = true := by rw [hFx]; rfl
     have hdn := done2_step (fa := valL l0) (fb := valL l1) (left := left) hFi
     have hRb : w.heap.size < w1.heap.size + 1 := by have := HS1w.out; omega
     cases hfb : valL l1 x with
     | none =>
      have h0 : done2 (valL l0) (valL l1) left x = false := by unfold done2; rw [hfb, hFi, hlk]; rfl
      have hc : diffF (valL l0) (valL l1) x = some ⟨x, ⟨#[]⟩, true⟩ := by unfold diffF; rw [hfb, hFx]
      have HL2 := Lib.hid (collD_add HL.out h0 hc hdn)
      clear hg2 hs2 hv hv' hkey hat hlk hFx hFi hdn h0 hc
      go_wp2_with (first | (at_lookup; go_must (refine wpList_looks_ok _ rfl _ _ rfl w1.heap.size l1.length Db (valL l1) rfl HM2.out HHb.out x rfl hss.out none hfb ⟨#[]⟩ false rfl rfl ?_)) | ((with_reducible refine gate_builtin (b := .append) (xs := #[.tmp 59, .tmp 62]) rfl ?_); at_builtin; go_must (refine wpList_append_own _ rfl _ _ 45 rfl (w1.heap.size + 1) 66 i0 (.agg #[(.string ⟨#[]⟩), (.string ⟨#[]⟩), (.bool false)]) 3 40 Tryz.underlying45 hi hy0 hy1 hy2 rfl (by decide) _ ys.length (fl33 ys) rfl (HN2.out.below (belowA w3 _)) _ 1 1 [.string x, .string ⟨#[]⟩, .bool true] rfl rfl (raw_new _ _ _ _ rfl) (enc33_one (⟨x, ⟨#[]⟩, true⟩ : S66)) (by unfold maxLen; omega) (by omega) (by have := HRW.out; simp; omega) ?_; intro v' w7 hown' hgrow hnil; have HN7 := Lib.hid (NRow33.snoc (n := (⟨x, ⟨#[]⟩, true⟩ : S66)) hown'); have HR7 := Lib.hid ((HR2.out.kept (below_grown (belowA w3 (.cells #[.string x, .string ⟨#[]⟩, .bool true] 66))) (by simp) (by simp)).kept hgrow (HN2.out.ne_low hRb) (HN2.out.ne_iter HR2.out)); have HM7 := Lib.hid (owns_blk (owns_below HM2.out (belowA w3 (.cells #[.string x, .string ⟨#[]⟩, .bool true] 66))) (hgrow.block _ (owns_below HM2.out (belowA w3 (.cells #[.string x, .string ⟨#[]⟩, .bool true] 66))).lt (HN2.out.ne_low (Nat.lt_succ_self _)))); have HB7 := Lib.hid ((HBW.out.trans ((belowA w3 (.cells #[.string x, .string ⟨#[]⟩, .bool true] 66)).mono HBW.out.size)).grown hgrow (by have := HRW.out; have := HBW.out.size; simp; omega) (fun j hj => Nat.le_trans (by have := HS1w.out; omega) (own_base HN2.out j hj))); clear hown' hgrow hnil)))
      go_roundw
      case rel => exact ⟨_, cn2, ys ++ [⟨x, ⟨#[]⟩, true⟩], HR7, HN7, HL2, by have := hlt'.out; simp; omega, HM7, HB7⟩
      case measure => rw [HR7.out.left_eq, HR.out.left_eq]; exact hlt'.out
     | some t =>
      have h0 : ∀ nm, done2 (valL l0) (valL l1) (fun z => left z && !z.sameKey (.string x.data.toList)) nm = done2 (valL l0) (valL l1) left nm := by
       intro nm
       rw [hdn]
       by_cases e : nm = x
       ·subst e
        have : done2 (valL l0) (valL l1) left nm = true := by unfold done2; rw [hfb]; rfl
        rw [this]; rfl
       ·simp [e]
      have HL2 := Lib.hid (collD_cong HL.out h0)
      clear hg2 hs2 hv hv' hkey hat hlk hFx hFi hdn h0
      go_wp2_with (at_lookup; go_must (refine wpList_looks_ok _ rfl _ _ rfl w1.heap.size l1.length Db (valL l1) rfl HM2.out HHb.out x rfl hss.out (some t) hfb t true rfl rfl ?_))
      go_roundw
      case rel => exact ⟨_, cn2, ys, HR2, HN2, HL2, by have := hlt'.out; omega, HM2, HBW⟩
      case measure => rw [HR2.out.left_eq, HR.out.left_eq]; exact hlt'.out
  ·intro x v kl yd yp w3 cn2 hkey hlk hv hat hrg2 hlt hg2 hs2 hen
   obtain ⟨s, es, rfl, hsz⟩ := skey_inv hkey
   injection es with es
   subst es
   have hv' := (strR_mk v).symm.trans hv
   injection hv' with hv'
   have hyd : (DataW.lit (.string v.data.toList) : DataW Unit) = yd := congrArg Prod.fst hv'
   subst hyd
   have hFx := hasS_some HHb.out hat
   have hss := Lib.hid hsz
   have HR2 := Lib.hid hrg2
   have HN2 := Lib.hid (HN.out.grown hg2 (fun g hg e => HN.out.ne_iter HR.out (by rw [hg]; exact e.symm)))
   have hlt' := Lib.hid hlt
   have HM2 := Lib.hid (owns_blk HM.out (hg2.block _ HM.out.lt (fun e => by cases e; exact absurd (Nat.lt_trans HS1x.out HRr.out) (Nat.lt_irrefl _))))
   have HBW : Hid (Below w.heap.size w w3) := hB2.out.grown hg2 hB2.out.size (fun j hj => by cases hj; exact (Nat.le_of_lt (Nat.lt_of_le_of_lt HS1w.out HRr.out)))
   have HRW : Hid (w1.heap.size + 1 ≤ w3.heap.size) := HR2.out.owns.lt
   have hFi : (valL l1 x).isSome = true := by rw [hFx]; rfl
   have hdn := done1_step (fb := valL l1) (left := left) hFi
   have h0 : done1 (valL l1) left x = false := by unfold done1; rw [hFi, hlk]; rfl
   have hRb : w.heap.size < w1.heap.size + 1 := by have := HS1w.out; omega
   cases hfa : valL l0 x with
   | none =>
    have hc : diffF (valL l0) (valL l1) x = some ⟨x, v, false⟩ := by unfold diffF; rw [hfa, hFx]
    have HL2 := Lib.hid (collD_add HL.out h0 hc hdn)
    clear hg2 hs2 hv hv' hkey hat hlk hFx hFi hdn h0 hc
    go_wp2_with (first | (at_lookup; go_must (refine wpList_looks_ok _ rfl _ _ rfl w.heap.size l0.length Da (valL l0) rfl HM2.out HHa.out x rfl hss.out none hfa ⟨#[]⟩ false rfl rfl ?_)) | ((with_reducible refine gate_builtin (b := .append) (xs := #[.tmp 39, .tmp 43]) rfl ?_); at_builtin; go_must (refine wpList_append_own _ rfl _ _ 45 rfl (w1.heap.size + 1) 66 i0 (.agg #[(.string ⟨#[]⟩), (.string ⟨#[]⟩), (.bool false)]) 3 40 Tryz.underlying45 hi hy0 hy1 hy2 rfl (by decide) _ ys.length (fl33 ys) rfl (HN2.out.below (belowA w3 _)) _ 1 1 [.string x, .string v, .bool false] rfl rfl (raw_new _ _ _ _ rfl) (enc33_one (⟨x, v, false⟩ : S66)) (by unfold maxLen; omega) (by omega) (by have := HRW.out; simp; omega) ?_; intro v' w7 hown' hgrow hnil; have HN7 := Lib.hid (NRow33.snoc (n := (⟨x, v, false⟩ : S66)) hown'); have HR7 := Lib.hid ((HR2.out.kept (below_grown (belowA w3 (.cells #[.string x, .string v, .bool false] 66))) (by simp) (by simp)).kept hgrow (HN2.out.ne_low (Nat.lt_succ_self _)) (HN2.out.ne_iter HR2.out)); have HM7 := Lib.hid (owns_blk (owns_below HM2.out (belowA w3 (.cells #[.string x, .string v, .bool false] 66))) (hgrow.block _ (owns_below HM2.out (belowA w3 (.cells #[.string x, .string v, .bool false] 66))).lt (HN2.out.ne_low hRb))); have HB7 := Lib.hid ((HBW.out.trans ((belowA w3 (.cells #[.string x, .string v, .bool false] 66)).mono HBW.out.size)).grown hgrow (by have := HRW.out; have := HBW.out.size; simp; omega) (fun j hj => Nat.le_trans (by have := HS1w.out; omega) (own_base HN2.out j hj))); clear hown' hgrow hnil)))
    go_roundw
    case rel => exact ⟨_, cn2, ys ++ [⟨x, v, false⟩], HR7, HN7, HL2, by have := hlt'.out; simp; omega, HM7, HB7⟩
    case measure => rw [HR7.out.left_eq, HR.out.left_eq]; exact hlt'.out
   | some t =>
    by_cases htv : t = v
    ·subst htv
     have hc : diffF (valL l0) (valL l1) x = none := by unfold diffF; rw [hfa, hFx]; simp
     have HL2 := Lib.hid (collD_skip HL.out hc hdn)
     clear hg2 hs2 hv hv' hkey hat hlk hFx hFi hdn h0 hc
     go_wp2_with (at_lookup; go_must (refine wpList_looks_ok _ rfl _ _ rfl w.heap.size l0.length Da (valL l0) rfl HM2.out HHa.out x rfl hss.out (some t) hfa t true rfl rfl ?_))
     go_roundw
     case rel => exact ⟨_, cn2, ys, HR2, HN2, HL2, by have := hlt'.out; omega, HM2, HBW⟩
     case measure => rw [HR2.out.left_eq, HR.out.left_eq]; exact hlt'.out
    ·have hc : diffF (valL l0) (valL l1) x = some ⟨x, v, false⟩ := by unfold diffF; rw [hfa, hFx]; simp [htv]
     have HL2 := Lib.hid (collD_add HL.out h0 hc hdn)
     have hne : (t.toList == v.toList) = false := beq_eq_false_iff_ne.2 (fun e => htv (bytes_eq e))
     clear hg2 hs2 hv hv' hkey hat hlk hFx hFi hdn h0 hc
     go_wp2_with (first | (at_lookup; go_must (refine wpList_looks_ok _ rfl _ _ rfl w.heap.size l0.length Da (valL l0) rfl HM2.out HHa.out x rfl hss.out (some t) hfa t true rfl rfl ?_)) | ((with_reducible refine gate_builtin (b := .append) (xs := #[.tmp 39, .tmp 43]) rfl ?_); at_builtin; go_must (refine wpList_append_own _ rfl _ _ 45 rfl (w1.heap.size + 1) 66 i0 (.agg #[(.string ⟨#[]⟩), (.string ⟨#[]⟩), (.bool false)]) 3 40 Tryz.underlying45 hi hy0 hy1 hy2 rfl (by decide) _ ys.length (fl33 ys) rfl (HN2.out.below (belowA w3 _)) _ 1 1 [.string x, .string v, .bool false] rfl rfl (raw_new _ _ _ _ rfl) (enc33_one (⟨x, v, false⟩ : S66)) (by unfold maxLen; omega) (by omega) (by have := HRW.out; simp; omega) ?_; intro v' w7 hown' hgrow hnil; have HN7 := Lib.hid (NRow33.snoc (n := (⟨x, v, false⟩ : S66)) hown'); have HR7 := Lib.hid ((HR2.out.kept (below_grown (belowA w3 (.cells #[.string x, .string v, .bool false] 66))) (by simp) (by simp)).kept hgrow (HN2.out.ne_low (Nat.lt_succ_self _)) (HN2.out.ne_iter HR2.out)); have HM7 := Lib.hid (owns_blk (owns_below HM2.out (belowA w3 (.cells #[.string x, .string v, .bool false] 66))) (hgrow.block _ (owns_below HM2.out (belowA w3 (.cells #[.string x, .string v, .bool false] 66))).lt (HN2.out.ne_low hRb))); have HB7 := Lib.hid ((HBW.out.trans ((belowA w3 (.cells #[.string x, .string v, .bool false] 66)).mono HBW.out.size)).grown hgrow (by have := HRW.out; have := HBW.out.size; simp; omega) (fun j hj => Nat.le_trans (by have := HS1w.out; omega) (own_base HN2.out j hj))); clear hown' hgrow hnil)))
     go_roundw
     case rel => exact ⟨_, cn2, ys ++ [⟨x, v, false⟩], HR7, HN7, HL2, by have := hlt'.out; simp; omega, HM7, HB7⟩
     case measure => rw [HR7.out.left_eq, HR.out.left_eq]; exact hlt'.out
end Go.Proofs.YtafeepdlcilicaaGreat.Q

-- C6
namespace Go.Proofs.YtafeepdlcilicaaGreat.Q
open Go.WideMaps Go.RowKit Go.Proofs.YtafeepdlcilicaaGreatW.PrintWords Go.Proofs.YtafeepdlcilicaaGreatW.PrintLast Go.Proofs.YtafeepdlcilicaaGreatW.PrintMore Go.Maps
set_option linter.unusedVariables false
set_option linter.unusedSimpArgs false

/-! ### items.Diff in the print's form -/
def items_Diff.f (l0 : List S43) (l1 : List S43) : Option (List S66) := if okI l0 = true then (if okI l1 = true then some (diffL l0 l1) else none) else none
theorem items_Diff.calls (A0 : Option Addr) (c0 : Nat) (l0 : List S43) (A1 : Option Addr) (c1 : Nat) (l1 : List S43) (r : List S66) (w : World) (hr0 : Kd.C k43 w A0 l0.length l0) (hc0 : l0.length ≤ c0) (hr1 : Kd.C k43 w A1 l1.length l1) (hc1 : l1.length ≤ c1) (h : items_Diff.f l0 l1 = some r) :
  Calls Tryz.prog 8 #[.slice A0 l0.length c0, .slice A1 l1.length c1] w fun e w' => ∃ v0_ : Value, e = .returned (v0_) ∧ Kd.R k66 66 w' w.heap.size (fun _ => True) v0_ r ∧ Below w.heap.size w w' := by
 unfold items_Diff.f at h
 split at h
 ·rename_i h0
  split at h
  ·rename_i h1
   injection h with h
   subst h
   refine (diff.walk A0 c0 l0 A1 c1 l1 w hr0 hr1 (by have := okI_len h0; have := okI_len h1; omega) (okI_size h0) (okI_size h1)).mono ?_
   rintro e w' ⟨v, zs, rfl, hn, hs, hf, hb⟩
   rw [← sortedC_ext hs (diffL_SC l0 l1) (fun c => (hf c).trans (diffL_mem l0 l1 c).symm)]
   exact ⟨v, rfl, hn.R, hb⟩
  ·cases h
 ·cases h
end Go.Proofs.YtafeepdlcilicaaGreat.Q

-- F0
namespace Go.Proofs.YtafeepdlcilicaaGreat.Q
open Go.RowKit Go.Proofs.YtafeepdlcilicaaGreatW.PrintWords Go.Proofs.YtafeepdlcilicaaGreatW.PrintLast Go.Proofs.YtafeepdlcilicaaGreatW.PrintMore
set_option linter.unusedVariables false
set_option linter.unusedSimpArgs false

/-! ### wire.read: octets as a number, the least first -/
def leN : List UInt8 → Nat
 | [] => 0
 | b :: r => b.toNat + 256 * leN r
theorem leN_snoc : ∀ (l : List UInt8) (b : UInt8), leN (l ++ [b]) = leN l + 256 ^ l.length * b.toNat
 | [], b => by simp [leN]
 | a :: l, b => by
  rw [List.cons_append, leN, leN, leN_snoc l b, List.length_cons, Nat.pow_succ, Nat.mul_add]
  rw [show 256 ^ l.length * 256 * b.toNat = 256 * (256 ^ l.length * b.toNat) by rw [Nat.mul_comm (256 ^ l.length) 256, Nat.mul_assoc]]
  omega
theorem leN_lt : ∀ l : List UInt8, leN l < 256 ^ l.length
 | [] => by simp [leN]
 | b :: l => by
  have h := leN_lt l
  have hb := b.toNat_lt
  rw [leN, List.length_cons, Nat.pow_succ]
  omega
theorem bt_val (s : ByteArray) (i : Nat) (h : i < s.size) : bt s (i : Int) = ((s.data.toList[i]'(by simpa using h)).toNat : Int) := by
 unfold bt
 rw [Int.toNat_natCast, dif_pos h]
 rfl
theorem read_step (x b i : Nat) (hi : i < 8) (hx : x < 256 ^ i) (hb : b < 256) : Go.bits .or .u64 (x : Int) (shl .u64 (IntKind.u64.wrap (b : Int)) (wrap64 (8 * (i : Int)))) = ((x + 256 ^ i * b : Nat) : Int) := by
 have e1 : IntKind.u64.wrap (b : Int) = b := by rw [IntKind.wrap_u64]; omega
 have e2 : wrap64 (8 * (i : Int)) = ((8 * i : Nat) : Int) := by unfold wrap64; omega
 have hp : 256 ^ i = 2 ^ (8 * i) := by rw [show (256 : Nat) = 2 ^ 8 from rfl, ← Nat.pow_mul]
 have hp8 : 256 ^ i * 256 ≤ 256 ^ 8 := by rw [← Nat.pow_succ]; exact Nat.pow_le_pow_right (by decide) (by omega)
 have hlt : b * 256 ^ i < 256 ^ i * 256 := by rw [Nat.mul_comm]; exact Nat.mul_lt_mul_of_pos_left hb (Nat.pow_pos (by decide))
 have h64 : (256 : Nat) ^ 8 = 18446744073709551616 := by decide
 have e3 : shl .u64 (b : Int) ((8 * i : Nat) : Int) = ((b * 256 ^ i : Nat) : Int) := by
  unfold shl
  rw [Int.toNat_natCast, show IntKind.u64.bits = 64 from rfl, Nat.min_eq_left (by omega), show ((b : Int) * 2 ^ (8 * i)) = ((b * 2 ^ (8 * i) : Nat) : Int) by push_cast; rfl, ← hp, IntKind.wrap_u64]
  omega
 rw [e1, e2, e3, bits_or_u64_nat x (b * 256 ^ i) (by omega) (by omega)]
 have h2 : b * 256 ^ i = 2 ^ (8 * i) * b := by rw [hp, Nat.mul_comm]
 rw [h2, Nat.or_comm, ← Nat.two_pow_add_eq_or_of_lt (by rw [← hp]; exact hx) b, hp]
 congr 1
 omega
theorem read_from (s : ByteArray) (hs : s.size ≤ 8) : ∀ (n i K : Nat), i + n = s.size → wire_read.l0 (K + n + 1) s (leN (s.data.toList.take i) : Int) (s.size : Int) (i : Int) = some (leN s.data.toList : Int)
 | 0, i, K, e => by
  unfold wire_read.l0
  rw [if_neg (by omega), List.take_of_length_le (by rw [Array.length_toList]; show s.size ≤ i; omega)]
 | n + 1, i, K, e => by
  have hi : i < s.size := by omega
  have hil : i < s.data.toList.length := by rw [Array.length_toList]; exact hi
  unfold wire_read.l0
  have e2 : wrap64 (8 * (i : Int)) = ((8 * i : Nat) : Int) := by unfold wrap64; omega
  rw [if_pos (by omega), if_pos (by omega), if_pos (by omega), if_pos (by rw [e2]; omega), bt_val s i hi, read_step _ _ i (by omega) (Nat.lt_of_lt_of_le (leN_lt _) (Nat.pow_le_pow_right (by decide) (by rw [List.length_take]; omega))) (UInt8.toNat_lt _), show wrap64 ((i : Int) + 1) = ((i + 1 : Nat) : Int) by unfold wrap64; omega]
  have h3 : leN (s.data.toList.take i) + 256 ^ i * (s.data.toList[i]'hil).toNat = leN (s.data.toList.take (i + 1)) := by
   rw [List.take_succ_eq_append_getElem hil, leN_snoc, List.length_take, Nat.min_eq_left (by omega)]
  rw [h3]
  exact read_from s hs n (i + 1) K (by omega)
theorem read_f (s : ByteArray) (hs : s.size ≤ 8) (k : Nat) (hk : s.size + 1 ≤ k) : wire_read.f k s = some (leN s.data.toList : Int) := by
 obtain ⟨K, rfl⟩ : ∃ K, k = K + s.size + 1 := ⟨k - (s.size + 1), by omega⟩
 unfold wire_read.f
 have := read_from s hs s.size 0 K (by omega)
 rw [List.take_zero] at this
 exact this
end Go.Proofs.YtafeepdlcilicaaGreat.Q

-- F1
namespace Go.Proofs.YtafeepdlcilicaaGreat.Q
open Go.WideMaps Go.RowKit Go.Proofs.YtafeepdlcilicaaGreatW.PrintWords Go.Proofs.YtafeepdlcilicaaGreatW.PrintLast Go.Proofs.YtafeepdlcilicaaGreatW.PrintMore Go.Maps
set_option linter.unusedVariables false
set_option linter.unusedSimpArgs false

/-! ### wire.count, wire.TakeText -/
/-- What a length's two octets say: (length, rest, error). -/
def countW (s : ByteArray) : Int × ByteArray × Int :=
 if s.size < 2 then (0, ⟨#[]⟩, 3) else if 4000 < leN (s.extract 0 2).data.toList then (0, ⟨#[]⟩, 2) else ((leN (s.extract 0 2).data.toList : Int), s.extract 2 s.size, 0)
theorem size_two (s : ByteArray) (h : 2 ≤ s.size) : (s.extract 0 2).size = 2 := by rw [ByteArray.size_extract]; omega
theorem leN_two (s : ByteArray) : leN (s.extract 0 2).data.toList < 65536 := by
 have h := leN_lt (s.extract 0 2).data.toList
 have h2 : (s.extract 0 2).data.toList.length ≤ 2 := by
  rw [Array.length_toList]
  show (s.extract 0 2).size ≤ 2
  rw [ByteArray.size_extract]
  omega
 exact Nat.lt_of_lt_of_le h (Nat.le_trans (Nat.pow_le_pow_right (by decide) h2) (by decide))
theorem count_w (s : ByteArray) (k : Nat) (hk : 9 ≤ k) : wire_count.f k s = some (countW s) := by
 unfold wire_count.f wire_cut.f countW
 by_cases h : s.size < 2
 ·rw [if_pos (by omega), if_pos h, Option.bind_some]
  simp only
  rw [read_f ⟨#[]⟩ (by decide) k (by show 0 + 1 ≤ k; omega), Option.bind_some, if_neg (by decide)]
 ·rw [if_neg (by omega), if_pos (by omega), if_pos (by omega), if_neg h, Option.bind_some]
  simp only
  have h2 := leN_two s
  have hs := size_two s (by omega)
  have e : wrap64 ((leN (s.extract 0 2).data.toList : Nat) : Int) = (leN (s.extract 0 2).data.toList : Int) := by unfold wrap64; omega
  rw [show ((2 : Int)).toNat = 2 from rfl, read_f _ (by omega) k (by omega), Option.bind_some, if_pos trivial, e]
  by_cases h3 : 4000 < leN (s.extract 0 2).data.toList
  ·rw [if_pos (by omega), if_pos h3]
  ·rw [if_neg (by omega), if_neg h3]
def cutW (s : ByteArray) (n : Int) : ByteArray × ByteArray × Int := if (s.size : Int) < n then (⟨#[]⟩, ⟨#[]⟩, 3) else (s.extract 0 n.toNat, s.extract n.toNat s.size, 0)
/-- A text taken: (text, rest, error). -/
def takeW (s : ByteArray) : ByteArray × ByteArray × Int :=
 if (countW s).2.2 = 0 then cutW (countW s).2.1 (countW s).1 else (⟨#[]⟩, ⟨#[]⟩, (countW s).2.2)
theorem countW_pos (s : ByteArray) : 0 ≤ (countW s).1 := by
 unfold countW
 split
 ·exact Int.le_refl _
 ·split
  ·exact Int.le_refl _
  ·exact Int.natCast_nonneg _
theorem cut_w (s : ByteArray) (n : Int) (h : 0 ≤ n) : wire_cut.f s n = some (cutW s n) := by
 unfold wire_cut.f cutW
 by_cases h1 : (s.size : Int) < n
 ·rw [if_pos h1, if_pos h1]
 ·rw [if_neg h1, if_neg h1, if_pos h, if_pos (by omega)]
set_option maxHeartbeats 2000000 in
set_option maxRecDepth 100000 in
theorem takeText.walk (s : ByteArray) (w : World) : Calls Tryz.prog 146 #[.string s] w fun e w' => e = .returned (.tuple #[.string (takeW s).1, .string (takeW s).2.1, .int .i64 (takeW s).2.2]) ∧ Below w.heap.size w w' := by
 have HC1 := fun W => wire_count.calls 9 s (countW s).1 (countW s).2.1 (countW s).2.2 W (count_w s 9 (Nat.le_refl _))
 have HB0 : Hid (Below w.heap.size w w) := Below.refl _ _
 have hp := countW_pos s
 unfold takeW
 generalize countW s = c at *
 obtain ⟨n, r, e⟩ := c
 simp only at hp HC1 ⊢
 have HC2 := fun W => wire_cut.calls r n (cutW r n).1 (cutW r n).2.1 (cutW r n).2.2 W (cut_w r n hp)
 generalize hq : cutW r n = q at *
 obtain ⟨q1, q2, q3⟩ := q
 simp only at HC2
 clear hq hp
 by_cases he : e = 0
 ·subst he
  rw [if_pos rfl]
  go_enter Tryz.func146, Tryz.ntmps146
  go_wp2_with (first | (go_at_call 144; go_must (refine (HC1 _).mono ?_; rintro e w1 ⟨rfl, hd⟩; have HB1 := keepB HB0 hd.below; clear hd)) | (go_at_call 120; go_must (refine (HC2 _).mono ?_; rintro e w2 ⟨rfl, hd⟩; have HB2 := keepB HB1 hd.below; clear hd)))
  go_ret3
  exact ⟨rfl, HB2.out⟩
 ·rw [if_neg he]
  go_enter Tryz.func146, Tryz.ntmps146
  go_wp2_with (go_at_call 144; go_must (refine (HC1 _).mono ?_; rintro e w1 ⟨rfl, hd⟩; have HB1 := keepB HB0 hd.below; clear hd))
  go_ret3
  exact ⟨rfl, HB1.out⟩
end Go.Proofs.YtafeepdlcilicaaGreat.Q

-- F2
namespace Go.Proofs.YtafeepdlcilicaaGreat.Q
open Go.WideMaps Go.RowKit Go.Proofs.YtafeepdlcilicaaGreatW.PrintWords Go.Proofs.YtafeepdlcilicaaGreatW.PrintLast Go.Proofs.YtafeepdlcilicaaGreatW.PrintMore Go.Maps
set_option linter.unusedVariables false
set_option linter.unusedSimpArgs false

/-! ### the closure of wire.TakeList -/
theorem info_size27 : (Tryz.prog.info? 27).map (·.size) = some 1 := by kernel_rfl
theorem info_size95 : (Tryz.prog.info? 75).map (·.size) = some 1 := by kernel_rfl
theorem storeC {t : TypeId} (hsz : (Tryz.prog.info? t).map (·.size) = some 1) {ops : Array Oper} {rest : List Oper} {o : Oper} {a : Act} {Q : Exit → Act → World → Prop} {W : World} (hN : o.dst = none) (hgd : o.guard = none) (p x : Operand) (ho : o.op = .store t p x) (g : Nat) (c0 v : Value)
  (haddr : a.eval p = .pointer (some ⟨g, 0, none⟩)) (hx : a.eval x = v) (hv : v.cells.toList = [v]) (hv1 : v.oneCell' = true) (hb : W.heap[g]? = some (.cells #[c0] t (0, 0)))
  (h : ∀ w1, w1.heap[g]? = some (.cells #[v] t (0, 0)) → (∀ k, k ≠ g → w1.heap[k]? = W.heap[k]?) → w1.heap.size = W.heap.size → (∀ B, B ≤ g → Below B W w1) → wpList Tryz.prog ops Q rest a w1) : wpList Tryz.prog ops Q (o :: rest) a W := by
 refine wpList_plain hgd fun K hK => ?_
 have hrun := run_store_run (P := Tryz.prog) (w := W) (g := g) (o := 0) (e := t) (cur := #[c0]) t v [v] hb hv hsz (by show 0 + 1 ≤ 1; decide) (by intro u hu; simp at hu; subst hu; exact hv1)
 unfold Oper.wp execOp
 simp only [ho, haddr, hx, Sem.run_bind, Sem.run_pure, Result.andThen_ok, hrun]
 show K (a.put o.dst undef) _
 rw [hN]
 exact hK _ _ (h _ (blk_set hb 0 v) (fun k hk => RowKit.Below.heap_setCell _ _ _ _ hk) (World.size_setCell _ _ _) (fun B hB => (Below.refl B W).setCell (p := ⟨g, 0, none⟩) hB _))
theorem Kd.R_cells {α : Type} {d : Kd α} {e : TypeId} {W : World} {base : Nat} {ok : Nat → Prop} {v : Value} {xs : List α} (h : Kd.R d e W base ok v xs) : v.cells.toList = [v] := by
 obtain ⟨A, c, rfl⟩ := Kd.R_slice h
 rfl
theorem Kd.R_one {α : Type} {d : Kd α} {e : TypeId} {W : World} {base : Nat} {ok : Nat → Prop} {v : Value} {xs : List α} (h : Kd.R d e W base ok v xs) : v.oneCell' = true := by
 obtain ⟨A, c, rfl⟩ := Kd.R_slice h
 rfl
set_option maxHeartbeats 2000000 in
set_option maxRecDepth 100000 in
theorem closure69.walk (gr ge go B : Nat) (rest : ByteArray) (e0 : Int) (v : Value) (out : List ByteArray) (W : World) (h12 : gr < ge) (h23 : ge < go) (h3 : go < B) (hBW : B ≤ W.heap.size)
  (hr : W.heap[gr]? = some (.cells #[.string rest] 9 (0, 0))) (he : W.heap[ge]? = some (.cells #[.int .i64 e0] 27 (0, 0))) (ho : W.heap[go]? = some (.cells #[v] 75 (0, 0))) (hR : Kd.R Kd.string 9 W B (fun k => B ≤ k) v out) (hl : out.length ≤ 100000) :
  Calls Tryz.prog 145 #[.pointer (some ⟨gr, 0, none⟩), .pointer (some ⟨ge, 0, none⟩), .pointer (some ⟨go, 0, none⟩)] W fun e w' => ∃ v', e = .returned (.tuple #[]) ∧ w'.heap[gr]? = some (.cells #[.string (takeW rest).2.1] 9 (0, 0)) ∧ w'.heap[ge]? = some (.cells #[.int .i64 (takeW rest).2.2] 27 (0, 0)) ∧
   w'.heap[go]? = some (.cells #[v'] 75 (0, 0)) ∧ Kd.R Kd.string 9 w' B (fun k => B ≤ k) v' (if (takeW rest).2.2 = 0 then out ++ [(takeW rest).1] else out) ∧ (∀ B', B' ≤ gr → Below B' W w') := by
 have KR := Lib.hid hr
 have KE := Lib.hid he
 have KO := Lib.hid ho
 have HR := Lib.hid hR
 have HL := Lib.hid hl
 have H12 := Lib.hid h12
 have H23 := Lib.hid h23
 have H3 := Lib.hid h3
 have HBW := Lib.hid hBW
 have x0 := (blk_cell hr 0).trans (rfl : _ = some (Value.string rest))
 clear hr he ho hR hl h12 h23 h3 hBW
 generalize hq : takeW rest = q
 have HQ := Lib.hid hq
 clear hq
 obtain ⟨q1, q2, q3⟩ := q
 simp only
 by_cases hz : q3 = 0
 ·subst hz
  rw [if_pos rfl]
  go_enter Tryz.func145, Tryz.ntmps145
  go_wp2_with (first | (go_at_call 146; go_must (refine (takeText.walk rest _).mono ?_; rintro e w1 ⟨rfl, hb⟩; have KR1 := Lib.hid (blk_below KR.out hb); have KE1 := Lib.hid (blk_below KE.out hb); have KO1 := Lib.hid (blk_below KO.out hb); have HR1 := Lib.hid (Kd.R_below HR.out hb); have HL1 := Lib.hid hb; have HS1 := Lib.hid (Nat.le_trans HBW.out hb.size); rw [HQ.out]; clear hb)) | ((with_reducible refine gate_ (.store 9 (.tmp 0) (.tmp 8)) rfl ?_); go_must (refine storeC info_size9 rfl rfl (.tmp 0) (.tmp 8) rfl gr _ (.string q2) rfl rfl rfl rfl KR1.out ?_; intro w2 hk ho hz hb; have KR2 := Lib.hid hk; have KE2 := Lib.hid ((ho _ (Nat.ne_of_gt H12.out)).trans KE1.out); have KO2 := Lib.hid ((ho _ (Nat.ne_of_gt (Nat.lt_trans H12.out H23.out))).trans KO1.out); have HR2 := Lib.hid (Kd.R_step HR1.out (fun k hk _ => ho k (by have := H12.out; have := H23.out; have := H3.out; omega))); have HL2 : Hid (∀ B', B' ≤ gr → Below B' W w2) := fun B' hB' => (HL1.out.mono (Nat.le_trans hB' (Nat.le_of_lt (Nat.lt_of_lt_of_le (Nat.lt_trans (Nat.lt_trans H12.out H23.out) H3.out) HBW.out)))).trans (hb B' hB'); have HS2 : Hid (B ≤ w2.heap.size) := (by unfold Hid; rw [hz]; exact HS1.out); clear hk ho hz hb)) | ((with_reducible refine gate_ (.store 27 (.tmp 1) (.tmp 9)) rfl ?_); go_must (refine storeC info_size27 rfl rfl (.tmp 1) (.tmp 9) rfl ge _ (.int .i64 0) rfl rfl rfl rfl KE2.out ?_; intro w3 hk ho hz hb; have KE3 := Lib.hid hk; have KR3 := Lib.hid ((ho _ (Nat.ne_of_lt H12.out)).trans KR2.out); have KO3 := Lib.hid ((ho _ (Nat.ne_of_gt H23.out)).trans KO2.out); have HR3 := Lib.hid (Kd.R_step HR2.out (fun k hk _ => ho k (by have := H23.out; have := H3.out; omega))); have HL3 : Hid (∀ B', B' ≤ gr → Below B' W w3) := fun B' hB' => (HL2.out B' hB').trans (hb B' (Nat.le_trans hB' (Nat.le_of_lt H12.out))); have HS3 : Hid (B ≤ w3.heap.size) := (by unfold Hid; rw [hz]; exact HS2.out); have x1 := (blk_cell KE3.out 0).trans (rfl : _ = some (Value.int .i64 0)); have x2 := (blk_cell KO3.out 0).trans (rfl : _ = some v); clear hk ho hz hb)) | ((with_reducible refine gate_builtin (b := .append) (xs := #[.tmp 12, .tmp 14]) rfl ?_); at_builtin; go_must (refine Kd.R_append Kd.string (w0 := w3) B rfl (.tmp 12) (.tmp 14) 75 9 (.string ⟨#[]⟩) 16 rfl Tryz.underlying75 info9 rfl (by decide) (by decide) v out q1 [.string q1] (fun k => B ≤ k) (fun _ => False) rfl rfl rfl (fun _ hk => hk.elim) (fun k hk => Nat.le_trans HS3.out hk) HR3.out (Below.refl _ _) HS3.out (by have := HL.out; omega) ?_; intro v4 w4 ho hb hg hat; have HR4 := Lib.hid ho; have KE4 := Lib.hid ((hb.block _ (Nat.lt_trans H23.out H3.out)).trans KE3.out); have KR4 := Lib.hid ((hb.block _ (Nat.lt_trans (Nat.lt_trans H12.out H23.out) H3.out)).trans KR3.out); have KO4 := Lib.hid ((hb.block _ H3.out).trans KO3.out); have HL4 : Hid (∀ B', B' ≤ gr → Below B' W w4) := fun B' hB' => (HL3.out B' hB').trans (hb.mono (Nat.le_trans hB' (Nat.le_of_lt (Nat.lt_trans (Nat.lt_trans H12.out H23.out) H3.out)))); clear ho hb hg hat)) | ((with_reducible refine gate_ (.store 75 (.tmp 2) (.tmp 15)) rfl ?_); go_must (refine storeC info_size95 rfl rfl (.tmp 2) (.tmp 15) rfl go _ v4 rfl rfl (Kd.R_cells HR4.out) (Kd.R_one HR4.out) KO4.out ?_; intro w5 hk ho hz hb; have KO5 := Lib.hid hk; have KR5 := Lib.hid ((ho _ (Nat.ne_of_lt (Nat.lt_trans H12.out H23.out))).trans KR4.out); have KE5 := Lib.hid ((ho _ (Nat.ne_of_lt H23.out)).trans KE4.out); have HR5 := Lib.hid (Kd.R_step HR4.out (fun k hk _ => ho k (by have := H3.out; omega))); have HL5 : Hid (∀ B', B' ≤ gr → Below B' W w5) := fun B' hB' => (HL4.out B' hB').trans (hb B' (Nat.le_trans hB' (Nat.le_of_lt (Nat.lt_trans H12.out H23.out)))); clear hk ho hz hb)))
  go_end0
  first | exact ⟨v4, rfl, KR5.out, KE5.out, KO5.out, HR5.out, HL5.out⟩ | exact ⟨rfl, KR5.out, KE5.out, v4, KO5.out, HR5.out, HL5.out⟩ | exact ⟨rfl, KR5.out, KE5.out, ⟨v4, KO5.out, HR5.out⟩, HL5.out⟩
 ·rw [if_neg hz]
  go_enter Tryz.func145, Tryz.ntmps145
  go_wp2_with (first | (go_at_call 146; go_must (refine (takeText.walk rest _).mono ?_; rintro e w1 ⟨rfl, hb⟩; have KR1 := Lib.hid (blk_below KR.out hb); have KE1 := Lib.hid (blk_below KE.out hb); have KO1 := Lib.hid (blk_below KO.out hb); have HR1 := Lib.hid (Kd.R_below HR.out hb); have HL1 := Lib.hid hb; have HS1 := Lib.hid (Nat.le_trans HBW.out hb.size); rw [HQ.out]; clear hb)) | ((with_reducible refine gate_ (.store 9 (.tmp 0) (.tmp 8)) rfl ?_); go_must (refine storeC info_size9 rfl rfl (.tmp 0) (.tmp 8) rfl gr _ (.string q2) rfl rfl rfl rfl KR1.out ?_; intro w2 hk ho hz hb; have KR2 := Lib.hid hk; have KE2 := Lib.hid ((ho _ (Nat.ne_of_gt H12.out)).trans KE1.out); have KO2 := Lib.hid ((ho _ (Nat.ne_of_gt (Nat.lt_trans H12.out H23.out))).trans KO1.out); have HR2 := Lib.hid (Kd.R_step HR1.out (fun k hk _ => ho k (by have := H12.out; have := H23.out; have := H3.out; omega))); have HL2 : Hid (∀ B', B' ≤ gr → Below B' W w2) := fun B' hB' => (HL1.out.mono (Nat.le_trans hB' (Nat.le_of_lt (Nat.lt_of_lt_of_le (Nat.lt_trans (Nat.lt_trans H12.out H23.out) H3.out) HBW.out)))).trans (hb B' hB'); have HS2 : Hid (B ≤ w2.heap.size) := (by unfold Hid; rw [hz]; exact HS1.out); clear hk ho hz hb)) | ((with_reducible refine gate_ (.store 27 (.tmp 1) (.tmp 9)) rfl ?_); go_must (refine storeC info_size27 rfl rfl (.tmp 1) (.tmp 9) rfl ge _ (.int .i64 q3) rfl rfl rfl rfl KE2.out ?_; intro w3 hk ho hz hb; have KE3 := Lib.hid hk; have KR3 := Lib.hid ((ho _ (Nat.ne_of_lt H12.out)).trans KR2.out); have KO3 := Lib.hid ((ho _ (Nat.ne_of_gt H23.out)).trans KO2.out); have HR3 := Lib.hid (Kd.R_step HR2.out (fun k hk _ => ho k (by have := H23.out; have := H3.out; omega))); have HL3 : Hid (∀ B', B' ≤ gr → Below B' W w3) := fun B' hB' => (HL2.out B' hB').trans (hb B' (Nat.le_trans hB' (Nat.le_of_lt H12.out))); have HS3 : Hid (B ≤ w3.heap.size) := (by unfold Hid; rw [hz]; exact HS2.out); have x1 := (blk_cell KE3.out 0).trans (rfl : _ = some (Value.int .i64 q3)); have x2 := (blk_cell KO3.out 0).trans (rfl : _ = some v); clear hk ho hz hb)))
  go_end0
  first | exact ⟨v, rfl, KR3.out, KE3.out, KO3.out, HR3.out, HL3.out⟩ | exact ⟨rfl, KR3.out, KE3.out, v, KO3.out, HR3.out, HL3.out⟩ | exact ⟨rfl, KR3.out, KE3.out, ⟨v, KO3.out, HR3.out⟩, HL3.out⟩
end Go.Proofs.YtafeepdlcilicaaGreat.Q

-- F3
namespace Go.Proofs.YtafeepdlcilicaaGreat.Q
open Go.WideMaps Go.RowKit Go.Proofs.YtafeepdlcilicaaGreatW.PrintWords Go.Proofs.YtafeepdlcilicaaGreatW.PrintLast Go.Proofs.YtafeepdlcilicaaGreatW.PrintMore Go.Maps
set_option linter.unusedVariables false
set_option linter.unusedSimpArgs false

/-! ### wire.TakeList -/
def takeLoop : Nat → ByteArray → List ByteArray → ByteArray × Int × List ByteArray
 | 0, rest, out => (rest, 0, out)
 | n + 1, rest, out => if (takeW rest).2.2 = 0 then takeLoop n (takeW rest).2.1 (out ++ [(takeW rest).1]) else ((takeW rest).2.1, (takeW rest).2.2, out)
def finT (n : Nat) (rest : ByteArray) (e : Int) (out : List ByteArray) : ByteArray × Int × List ByteArray := if e = 0 then takeLoop n rest out else (rest, e, out)
def outT (r : ByteArray × Int × List ByteArray) : List ByteArray × ByteArray × Int := if r.2.1 = 0 then (r.2.2, r.1, 0) else ([], ⟨#[]⟩, r.2.1)
def takeListW (s : ByteArray) : List ByteArray × ByteArray × Int := outT (finT (countW s).1.toNat (countW s).2.1 (countW s).2.2 [])
theorem countW_le (s : ByteArray) : (countW s).1 ≤ 4000 := by
 unfold countW
 split
 ·decide
 ·split
  ·decide
  ·simp only; omega
theorem finT_step (n : Nat) (rest : ByteArray) (out : List ByteArray) : finT (n + 1) rest 0 out = finT n (takeW rest).2.1 (takeW rest).2.2 (if (takeW rest).2.2 = 0 then out ++ [(takeW rest).1] else out) := by
 unfold finT
 rw [if_pos rfl, takeLoop]
 split <;> rfl
set_option maxHeartbeats 2000000 in
set_option maxRecDepth 100000 in
theorem takeList.walk (s : ByteArray) (w : World) : Calls Tryz.prog 122 #[.string s] w fun e w' => ∃ v, e = .returned (.tuple #[v, .string (takeListW s).2.1, .int .i64 (takeListW s).2.2]) ∧ Kd.R Kd.string 9 w' w.heap.size (fun _ => True) v (takeListW s).1 ∧ Below w.heap.size w w' := by
 have HC1 := fun W => wire_count.calls 9 s (countW s).1 (countW s).2.1 (countW s).2.2 W (count_w s 9 (Nat.le_refl _))
 have HB0 : Hid (Below w.heap.size w w) := Below.refl _ _
 have hp := countW_pos s
 have hl := countW_le s
 unfold takeListW
 generalize countW s = c at *
 obtain ⟨n0, r0, c0⟩ := c
 simp only at hp hl HC1 ⊢
 generalize hF : finT n0.toNat r0 c0 [] = F
 have HF := Lib.hid hF
 have HP := Lib.hid hp
 have HLn := Lib.hid hl
 clear hF hp hl
 go_enter Tryz.func122, Tryz.ntmps122
 go_wp2_with (first | (go_at_call 144; go_must (refine (HC1 _).mono ?_; rintro e w1 ⟨rfl, hd⟩; have HB1 := keepB HB0 hd.below; clear hd)) | ((with_reducible refine gate_dst (N := 6) rfl ?_); go_must (refine box_event ?hg (N := 6) ?hd (cs := #[.string (⟨#[]⟩ : ByteArray)]) (t := 9) ?hr ?_; (case hd => rfl); (case hg => rfl); (case hr => first | (go_simp; done) | (go_simp; rfl)); intro g6 e6 w2 hk hb; have K6 := Lib.hid hk; have HB2 := keepB HB1 hb; have G6 : Hid (w.heap.size ≤ g6) := (by unfold Hid; rw [e6]; exact HB1.out.size); clear e6 hk hb)) | ((with_reducible refine gate_dst (N := 7) rfl ?_); go_must (refine box_event ?hg (N := 7) ?hd (cs := #[.int .i64 0]) (t := 27) ?hr ?_; (case hd => rfl); (case hg => rfl); (case hr => first | (go_simp; done) | (go_simp; rfl)); intro g7 e7 w3 hk hb; have K7 := Lib.hid hk; have K6b := Lib.hid (blk_below K6.out hb); have G67 : Hid (g6 < g7) := (by unfold Hid; rw [e7]; exact blk_lt K6.out); have HB3 := keepB HB2 hb; clear e7 hk hb)) | ((with_reducible refine gate_ (.store 9 (.tmp 6) (.tmp 14)) rfl ?_); go_must (refine storeC info_size9 rfl rfl (.tmp 6) (.tmp 14) rfl g6 _ (.string r0) rfl rfl rfl rfl K6b.out ?_; intro w4 hk ho hz hb; have K6c := Lib.hid hk; have K7c := Lib.hid ((ho _ (Nat.ne_of_gt G67.out)).trans K7.out); have HB4 := Lib.hid (HB3.out.trans (hb _ G6.out)); clear hk ho hz hb)) | ((with_reducible refine gate_ (.store 27 (.tmp 7) (.tmp 15)) rfl ?_); go_must (refine storeC info_size27 rfl rfl (.tmp 7) (.tmp 15) rfl g7 _ (.int .i64 c0) rfl rfl rfl rfl K7c.out ?_; intro w5 hk ho hz hb; have K7d := Lib.hid hk; have K6d := Lib.hid ((ho _ (Nat.ne_of_lt G67.out)).trans K6c.out); have HB5 := Lib.hid (HB4.out.trans (hb _ (Nat.le_of_lt (Nat.lt_of_le_of_lt G6.out G67.out)))); clear hk ho hz hb)) | ((with_reducible refine gate_dst (N := 8) rfl ?_); go_must (refine box_event ?hg (N := 8) ?hd (cs := #[.slice none 0 0]) (t := 75) ?hr ?_; (case hd => rfl); (case hg => rfl); (case hr => first | (go_simp; done) | (go_simp; rfl)); intro g8 e8 w6 hk hb; have K8 := Lib.hid hk; have K6e := Lib.hid (blk_below K6d.out hb); have K7e := Lib.hid (blk_below K7d.out hb); have G78 : Hid (g7 < g8) := (by unfold Hid; rw [e8]; exact blk_lt K7d.out); have HB6 := keepB HB5 hb; have G8 := Lib.hid (blk_lt K8.out); clear e8 hk hb)))
 go_loopw [5] (fun v5 wr => ∃ (n : Nat) (rest : ByteArray) (er : Int) (v : Value) (out : List ByteArray), v5 = .int .i64 n ∧ n + out.length ≤ 4000 ∧ Hid (wr.heap[g6]? = some (.cells #[.string rest] 9 (0, 0))) ∧ Hid (wr.heap[g7]? = some (.cells #[.int .i64 er] 27 (0, 0))) ∧
  Hid (wr.heap[g8]? = some (.cells #[v] 75 (0, 0))) ∧ Hid (Kd.R Kd.string 9 wr w6.heap.size (fun k => w6.heap.size ≤ k) v out) ∧ Hid (Below w.heap.size w wr) ∧ Hid (finT n rest er out = F) ∧ Hid (w6.heap.size ≤ wr.heap.size)) (fun v5 _ => (intOf v5).toNat)
 case atStart => exact ⟨n0.toNat, r0, c0, .slice none 0 0, [], by have := HP.out; simp; omega, by have := HLn.out; have := HP.out; simp; omega, K6e, K7e, K8, Kd.R_nil _ _ _ _ _, HB6, HF, Nat.le_refl _⟩
 case round =>
  obtain ⟨n, rest, er, v, out, rfl, hn, KA, KB, KC, HR, HB, HFN, HSZ⟩ := hrel
  have d1 := (blk_cell KB.out 0).trans (rfl : _ = some (Value.int .i64 er))
  have d0 := (blk_cell KA.out 0).trans (rfl : _ = some (Value.string rest))
  have d2 := (blk_cell KC.out 0).trans (rfl : _ = some v)
  by_cases he : er = 0
  ·subst he
   cases n with
   | zero =>
    have HX : Hid ((rest, 0, out) = F) := by have := HFN.out; unfold Hid; unfold finT at this; rw [if_pos rfl] at this; exact this
    have hF := HX.out
    subst hF
    go_wp2
    go_region
    go_wp2
    go_ret3
    rw [show outT (rest, 0, out) = (out, rest, 0) from if_pos rfl]
    first
     | exact ⟨v, rfl, Kd.R_mono (Kd.R_lower (Kd.R_drew HR.out) (Nat.le_trans HB6.out.size (Nat.le_refl _))) (fun _ _ => trivial), below_drew1 HB.out⟩
     | exact ⟨v, rfl, Kd.R_mono (Kd.R_lower HR.out HB6.out.size) (fun _ _ => trivial), HB.out⟩
   | succ n =>
    have HX := Lib.hid (finT_step n rest out)
    have p0 : (0 : Int) < ((n + 1 : Nat) : Int) := by omega
    have hbig : ((n + 1 : Nat) : Int) ≤ 9223372036854775807 := by omega
    go_wp2_with (go_at_call 145; go_must (refine (closure69.walk g6 g7 g8 w6.heap.size rest 0 v out _ G67.out G78.out G8.out HSZ.out KA.out KB.out KC.out HR.out (by omega)).mono ?_; rintro e w7 ⟨v', rfl, ka, kb, kc, hr, hb⟩; have KA7 := Lib.hid ka; have KB7 := Lib.hid kb; have KC7 := Lib.hid kc; have HR7 := Lib.hid hr; have HB7 := Lib.hid (HB.out.trans (hb _ G6.out)); have HS7 := Lib.hid (Nat.le_trans HSZ.out (hb _ G6.out).size); clear ka kb kc hr hb))
    go_roundw
    case rel => exact ⟨n, _, _, v', _, by go_num, by split <;> (first | (rw [List.length_append, List.length_singleton]; omega) | omega), KA7, KB7, KC7, HR7, HB7, by unfold Hid; rw [← HX.out]; exact HFN.out, HS7⟩
    case measure => simp [intOf]
  ·have HX : Hid ((rest, er, out) = F) := by have := HFN.out; unfold Hid; unfold finT at this; rw [if_neg he] at this; exact this
   have hF := HX.out
   subst hF
   cases n with
   | zero =>
    go_wp2
    go_region
    go_wp2
    go_ret3
    rw [show outT (rest, er, out) = ([], ⟨#[]⟩, er) from if_neg he]
    first
     | exact ⟨_, rfl, Kd.R_nil _ _ _ _ _, below_drew1 HB.out⟩
     | exact ⟨_, rfl, Kd.R_nil _ _ _ _ _, HB.out⟩
   | succ n =>
    have p0 : (0 : Int) < ((n + 1 : Nat) : Int) := by omega
    go_wp2
    go_region
    go_wp2
    go_ret3
    rw [show outT (rest, er, out) = ([], ⟨#[]⟩, er) from if_neg he]
    first
     | exact ⟨_, rfl, Kd.R_nil _ _ _ _ _, below_drew1 HB.out⟩
     | exact ⟨_, rfl, Kd.R_nil _ _ _ _ _, HB.out⟩
end Go.Proofs.YtafeepdlcilicaaGreat.Q

-- F4
namespace Go.Proofs.YtafeepdlcilicaaGreat.Q
open Go.WideMaps Go.RowKit Go.Proofs.YtafeepdlcilicaaGreatW.PrintWords Go.Proofs.YtafeepdlcilicaaGreatW.PrintLast Go.Proofs.YtafeepdlcilicaaGreatW.PrintMore Go.Maps
set_option linter.unusedVariables false
set_option linter.unusedSimpArgs false

/-! ### wire.Whole -/
def wholeW (s : ByteArray) : List ByteArray × Int :=
 if (takeListW s).2.2 = 0 then (if (takeListW s).2.1.toList.isEmpty = true then ((takeListW s).1, 0) else ([], 2)) else ([], (takeListW s).2.2)
set_option maxHeartbeats 2000000 in
set_option maxRecDepth 100000 in
theorem whole.walk (s : ByteArray) (w : World) : Calls Tryz.prog 76 #[.string s] w fun e w' => ∃ v, e = .returned (.tuple #[v, .int .i64 (wholeW s).2]) ∧ Kd.R Kd.string 9 w' w.heap.size (fun _ => True) v (wholeW s).1 ∧ Below w.heap.size w w' := by
 have HC := Lib.hid (takeList.walk s)
 have HB0 : Hid (Below w.heap.size w w) := Below.refl _ _
 unfold wholeW
 generalize takeListW s = t at *
 obtain ⟨l, r, e⟩ := t
 simp only
 by_cases he : e = 0
 ·subst he
  rw [if_pos rfl]
  cases hr : r.toList.isEmpty
  ·rw [if_neg (by decide)]
   go_enter Tryz.func76, Tryz.ntmps76
   go_wp2_with (go_at_call 122; go_must (refine (HC.out _).mono ?_; rintro e w1 ⟨v, rfl, ho, hb⟩; have HO := Lib.hid ho; have HB := Lib.hid hb; clear ho hb))
   go_ret2
   exact ⟨_, rfl, Kd.R_nil _ _ _ _ _, HB.out⟩
  ·rw [if_pos rfl]
   go_enter Tryz.func76, Tryz.ntmps76
   go_wp2_with (go_at_call 122; go_must (refine (HC.out _).mono ?_; rintro e w1 ⟨v, rfl, ho, hb⟩; have HO := Lib.hid ho; have HB := Lib.hid hb; clear ho hb))
   go_ret2
   exact ⟨_, rfl, HO.out, HB.out⟩
 ·rw [if_neg he]
  go_enter Tryz.func76, Tryz.ntmps76
  go_wp2_with (go_at_call 122; go_must (refine (HC.out _).mono ?_; rintro e w1 ⟨v, rfl, ho, hb⟩; have HO := Lib.hid ho; have HB := Lib.hid hb; clear ho hb))
  go_ret2
  exact ⟨_, rfl, Kd.R_nil _ _ _ _ _, HB.out⟩
end Go.Proofs.YtafeepdlcilicaaGreat.Q

-- F5
namespace Go.Proofs.YtafeepdlcilicaaGreat.Q
open Go.RowKit Go.Proofs.YtafeepdlcilicaaGreatW.PrintWords Go.Proofs.YtafeepdlcilicaaGreatW.PrintLast Go.Proofs.YtafeepdlcilicaaGreatW.PrintMore
set_option linter.unusedVariables false
set_option linter.unusedSimpArgs false

/-! ### what was laid is taken -/
theorem lay2_le (n : Nat) (h : n < 65536) : leN (lay2B n).data.toList = n := by
 unfold lay2B strOfNums
 simp [leN, shr, show IntKind.u64.bits = 64 from rfl]
 omega
theorem dig_of (n d : Nat) (hd : 0 < d) : ((n : Int) / (d : Int) % 256).toNat % 256 = n / d % 256 := by
 rw [show ((n : Int) / (d : Int)) = ((n / d : Nat) : Int) from rfl]
 omega
theorem mod_step (n d : Nat) : n % d + d * (n / d % 256) = n % (d * 256) := (Nat.mod_mul (x := n) (a := d) (b := 256)).symm
theorem num8_le (n : Nat) (h : n < 18446744073709551616) : leN (num8 n).data.toList = n := by
 have e : leN (num8 n).data.toList = n % 256 + 256 * (n / 256 % 256) + 65536 * (n / 65536 % 256) + 16777216 * (n / 16777216 % 256) + 4294967296 * (n / 4294967296 % 256) + 1099511627776 * (n / 1099511627776 % 256) + 281474976710656 * (n / 281474976710656 % 256) + 72057594037927936 * (n / 72057594037927936 % 256) := by
  have d1 : ((n : Int) / 256 % 256).toNat % 256 = n / 256 % 256 := dig_of n 256 (by decide)
  have d2 : ((n : Int) / 65536 % 256).toNat % 256 = n / 65536 % 256 := dig_of n 65536 (by decide)
  have d3 : ((n : Int) / 16777216 % 256).toNat % 256 = n / 16777216 % 256 := dig_of n 16777216 (by decide)
  have d4 : ((n : Int) / 4294967296 % 256).toNat % 256 = n / 4294967296 % 256 := dig_of n 4294967296 (by decide)
  have d5 : ((n : Int) / 1099511627776 % 256).toNat % 256 = n / 1099511627776 % 256 := dig_of n 1099511627776 (by decide)
  have d6 : ((n : Int) / 281474976710656 % 256).toNat % 256 = n / 281474976710656 % 256 := dig_of n 281474976710656 (by decide)
  have d7 : ((n : Int) / 72057594037927936 % 256).toNat % 256 = n / 72057594037927936 % 256 := dig_of n 72057594037927936 (by decide)
  have d0 : ((n : Int) % 256).toNat % 256 = n % 256 := by omega
  unfold num8 strOfNums
  simp [leN, shr, show IntKind.u64.bits = 64 from rfl]
  generalize ((n : Int) % 256).toNat % 256 = x0 at *
  generalize ((n : Int) / 256 % 256).toNat % 256 = x1 at *
  generalize ((n : Int) / 65536 % 256).toNat % 256 = x2 at *
  generalize ((n : Int) / 16777216 % 256).toNat % 256 = x3 at *
  generalize ((n : Int) / 4294967296 % 256).toNat % 256 = x4 at *
  generalize ((n : Int) / 1099511627776 % 256).toNat % 256 = x5 at *
  generalize ((n : Int) / 281474976710656 % 256).toNat % 256 = x6 at *
  generalize ((n : Int) / 72057594037927936 % 256).toNat % 256 = x7 at *
  rw [← d0, ← d1, ← d2, ← d3, ← d4, ← d5, ← d6, ← d7]
  clear d0 d1 d2 d3 d4 d5 d6 d7 h
  omega
 have m1 := mod_step n 256
 have m2 := mod_step n 65536
 have m3 := mod_step n 16777216
 have m4 := mod_step n 4294967296
 have m5 := mod_step n 1099511627776
 have m6 := mod_step n 281474976710656
 have m7 := mod_step n 72057594037927936
 rw [e, m1, m2, m3, m4, m5, m6, m7]
 exact Nat.mod_eq_of_lt h
theorem ext_list (s : ByteArray) (a b : Nat) : (s.extract a b).data.toList = (s.data.toList.take b).drop a := by
 rw [ByteArray.data_extract, Array.toList_extract, List.extract_eq_take_drop, List.drop_take]
theorem lay2_len (n : Int) : (lay2B n).data.toList.length = 2 := by rw [Array.length_toList]; exact lay2B_size n
theorem size_list (s : ByteArray) : s.data.toList.length = s.size := by rw [Array.length_toList]; rfl
theorem count_laid (s r : ByteArray) (n : Nat) (hn : n ≤ 4000) (h : s.data.toList = (lay2B n).data.toList ++ r.data.toList) : countW s = ((n : Int), r, 0) := by
 have hl : s.size = 2 + r.size := by rw [← size_list, h, List.length_append, lay2_len, size_list]
 have h0 : (s.extract 0 2).data.toList = (lay2B n).data.toList := by
  rw [ext_list, h, List.drop_zero, List.take_left' (lay2_len n)]
 have h1 : s.extract 2 s.size = r := by
  apply bytes_inj
  rw [ext_list, List.take_of_length_le (by rw [size_list]; exact Nat.le_refl _), h, List.drop_left' (lay2_len n)]
 unfold countW
 rw [if_neg (by omega), h0, lay2_le n (by omega), if_neg (by omega), h1]
theorem take_laid (s t r : ByteArray) (ht : t.size ≤ 4000) (h : s.data.toList = textL t ++ r.data.toList) : takeW s = (t, r, 0) := by
 have ht2 : textL t = (lay2B t.size).data.toList ++ t.data.toList := by
  unfold textL textB
  rw [ByteArray.data_append, Array.toList_append]
 have hc : countW s = ((t.size : Int), t ++ r, 0) := count_laid s (t ++ r) t.size ht (by rw [h, ht2, ByteArray.data_append, Array.toList_append, List.append_assoc])
 unfold takeW
 rw [hc]
 simp only
 rw [if_pos trivial]
 unfold cutW
 rw [if_neg (by rw [ByteArray.size_append]; omega), Int.toNat_natCast]
 congr 1
 ·apply bytes_inj
  rw [ext_list, List.drop_zero, ByteArray.data_append, Array.toList_append, List.take_left' (size_list t)]
 ·congr 1
  apply bytes_inj
  rw [ext_list, List.take_of_length_le (by rw [size_list]; exact Nat.le_refl _), ByteArray.data_append, Array.toList_append, List.drop_left' (size_list t)]
theorem loop_laid : ∀ (ts : List ByteArray) (s : ByteArray) (out : List ByteArray), (∀ t ∈ ts, t.size ≤ 4000) → s.data.toList = ts.flatMap textL → takeLoop ts.length s out = (⟨#[]⟩, 0, out ++ ts)
 | [], s, out, _, h => by
  have : s = ⟨#[]⟩ := bytes_inj (by rw [h]; rfl)
  rw [this, List.append_nil]
  rfl
 | t :: ts, s, out, ht, h => by
  rw [List.flatMap_cons] at h
  have hk := take_laid s t ⟨(ts.flatMap textL).toArray⟩ (ht t List.mem_cons_self) (by rw [h])
  rw [List.length_cons, takeLoop, hk]
  simp only
  rw [if_pos trivial, loop_laid ts _ _ (fun x hx => ht x (List.mem_cons_of_mem _ hx)) rfl, List.append_assoc]
  rfl
theorem whole_laid (ts : List ByteArray) (hl : ts.length ≤ 4000) (ht : ∀ t ∈ ts, t.size ≤ 4000) : wholeW (listB ts) = (ts, 0) := by
 have hc : countW (listB ts) = ((ts.length : Int), ⟨(ts.flatMap textL).toArray⟩, 0) := count_laid _ _ _ hl rfl
 have hL : takeListW (listB ts) = (ts, ⟨#[]⟩, 0) := by
  unfold takeListW
  rw [hc]
  simp only
  unfold finT
  rw [if_pos rfl, Int.toNat_natCast, loop_laid ts _ [] ht rfl]
  unfold outT
  rw [if_pos rfl, List.nil_append]
 unfold wholeW
 rw [hL]
 simp only
 rw [if_pos trivial, if_pos (by rw [Lib.toList_data]; rfl)]
end Go.Proofs.YtafeepdlcilicaaGreat.Q

-- F8
namespace Go.Proofs.YtafeepdlcilicaaGreat.Q
open Go.RowKit Go.Proofs.YtafeepdlcilicaaGreatW.PrintWords Go.Proofs.YtafeepdlcilicaaGreatW.PrintLast Go.Proofs.YtafeepdlcilicaaGreatW.PrintMore
set_option linter.unusedVariables false
set_option linter.unusedSimpArgs false

/-! ### wire.TakeNum -/
/-- A number taken: (number, rest, error). -/
def numW (s : ByteArray) : Int × ByteArray × Int := if s.size < 8 then (0, ⟨#[]⟩, 3) else ((leN (s.extract 0 8).data.toList : Int), s.extract 8 s.size, 0)
theorem num_w (s : ByteArray) (k : Nat) (hk : 9 ≤ k) : wire_TakeNum.f k s = some (numW s) := by
 unfold wire_TakeNum.f wire_cut.f numW
 by_cases h : s.size < 8
 ·rw [if_pos (by omega), if_pos h, Option.bind_some]
  simp only
  rw [if_neg (by decide)]
 ·rw [if_neg (by omega), if_pos (by omega), if_pos (by omega), if_neg h, Option.bind_some]
  simp only
  have hs : (s.extract 0 8).size = 8 := by rw [ByteArray.size_extract]; omega
  rw [show ((8 : Int)).toNat = 8 from rfl, if_pos trivial, read_f _ (by omega) k (by omega), Option.bind_some]
theorem num_laid (n : Nat) (h : n < 18446744073709551616) : numW (num8 n) = ((n : Int), ⟨#[]⟩, 0) := by
 have hs : (num8 n).size = 8 := num8_size n
 have h0 : (num8 (n : Int)).extract 0 8 = num8 n := by
  apply bytes_inj
  rw [ext_list, List.drop_zero, List.take_of_length_le (by rw [size_list]; omega)]
 have h1 : (num8 (n : Int)).extract 8 (num8 (n : Int)).size = ⟨#[]⟩ := by
  apply bytes_inj
  rw [ext_list, List.drop_eq_nil_of_le (by rw [List.length_take, size_list]; omega)]
 unfold numW
 rw [if_neg (by omega), h0, num8_le n h, h1]
theorem takeNum.walk (s : ByteArray) (w : World) : Calls Tryz.prog 75 #[.string s] w fun e w' => e = .returned (.tuple #[.int .u64 (numW s).1, .string (numW s).2.1, .int .i64 (numW s).2.2]) ∧ Drawn0 w w' := wire_TakeNum.calls 9 s _ _ _ w (num_w s 9 (Nat.le_refl _))
end Go.Proofs.YtafeepdlcilicaaGreat.Q

-- O1
namespace Go.Proofs.YtafeepdlcilicaaGreat.Q
open Go.WideMaps Go.RowKit Go.Proofs.YtafeepdlcilicaaGreatW.PrintWords Go.Proofs.YtafeepdlcilicaaGreatW.PrintLast Go.Proofs.YtafeepdlcilicaaGreatW.PrintMore Go.Maps
set_option linter.unusedVariables false
set_option linter.unusedSimpArgs false

/-! ### the leaves of awake -/
theorem info_size4 : (Tryz.prog.info? 4).map (·.size) = some 1 := by kernel_rfl
theorem info_size24 : (Tryz.prog.info? 24).map (·.size) = some 2 := by kernel_rfl
theorem info_size86 : (Tryz.prog.info? 86).map (·.size) = some 1 := by kernel_rfl
theorem setCell_self {w : World} {g j : Nat} {cs : Array Value} {t : TypeId} {v : Value} (h : w.heap[g]? = some (.cells cs t (0, 0))) (hj : cs[j]? = some v) : w.setCell ⟨g, j, none⟩ v = w := by
 have e : (w.setCell ⟨g, j, none⟩ v).heap = w.heap := by
  apply Array.ext_getElem?
  intro k
  by_cases hk : k = g
  ·subst hk
   rw [blk_set h j v, h]
   congr 2
   apply Array.ext_getElem?
   intro i
   rw [Array.getElem?_setIfInBounds]
   split
   ·rename_i e
    subst e
    rw [hj]
    split
    ·rfl
    ·rename_i hn
     exact absurd (Array.getElem?_eq_some_iff.1 hj).1 hn
   ·rfl
  ·exact Below.heap_setCell _ _ _ _ hk
 cases w
 simp only [World.setCell] at e ⊢
 rw [e]
theorem store_self {t : TypeId} {ops : Array Oper} {rest : List Oper} {o : Oper} {a : Act} {Q : Exit → Act → World → Prop} {W : World} (hN : o.dst = none) (hgd : o.guard = none) (p x : Operand) (ho : o.op = .store t p x) (g j : Nat) (cs : Array Value) (e : TypeId) (v : Value)
  (haddr : a.eval p = .pointer (some ⟨g, j, none⟩)) (hx : a.eval x = v) (hv : v.cells.toList = [v]) (hv1 : v.oneCell' = true) (hsz : (Tryz.prog.info? t).map (·.size) = some 1) (hb : W.heap[g]? = some (.cells cs e (0, 0))) (hj : cs[j]? = some v)
  (h : wpList Tryz.prog ops Q rest a W) : wpList Tryz.prog ops Q (o :: rest) a W := by
 refine wpList_plain hgd fun K hK => ?_
 have hlt : j + 1 ≤ cs.size := (Array.getElem?_eq_some_iff.1 hj).1
 have hrun := run_store_run (P := Tryz.prog) (w := W) (g := g) (o := j) (e := e) (cur := cs) t v [v] hb hv hsz hlt (by intro u hu; simp at hu; subst hu; exact hv1)
 have hs : W.setCells g j [v] = W := setCell_self hb hj
 rw [hs] at hrun
 unfold Oper.wp execOp
 simp only [ho, haddr, hx, Sem.run_bind, Sem.run_pure, Result.andThen_ok, hrun]
 show K (a.put o.dst undef) _
 rw [hN]
 exact hK _ _ h
def lay0 : ByteArray := listB [num8 0]
def it0 : S43 := ⟨⟨#[116]⟩, lay0⟩
/-- The builder's block as it stays. -/
def Bd (g : Nat) (w : World) : Prop := w.heap[g]? = some (.cells #[.int .i64 0, .slice none 0 0, .bool false] 88 (0, 0))
set_option maxHeartbeats 2000000 in
set_option maxRecDepth 100000 in
theorem check0 (w : World) : Calls Tryz.prog 12 #[.agg #[.int .i64 0, .slice none 0 0]] w fun e w' => e = .returned (.int .i64 0) ∧ Below w.heap.size w w' := by
 have HB := Below.refl w.heap.size w
 go_enter Tryz.func12, Tryz.ntmps12
 go_wp2
 refine wp_loop_rounds 1 ?_
 rw [rounds_succ]
 go_wp2
 go_ret
 exact ⟨rfl, by repeat (first | (with_reducible first | exact HB | apply below_alloc | apply pw_below_drewN | apply below_drew1) | exact HB)⟩
set_option maxHeartbeats 2000000 in
set_option maxRecDepth 100000 in
theorem val0 (A : Option Addr) (c : Nat) (l : List ByteArray) (w : World) (hr : Kd.C Kd.string w A l.length l) (hn : l.length ≤ 4000) (hs : ∀ s ∈ l, s.size ≤ 4000) :
  Calls Tryz.prog 13 #[.slice A l.length c] w fun e w' => e = .returned (.string (listB l)) ∧ Below w.heap.size w w' := by
 have HC := Lib.hid (list.walk A c l w hr hn hs)
 clear hr hn hs
 go_enter Tryz.func13, Tryz.ntmps13
 go_wp2_with (go_at_call 31; refine HC.out.mono ?_; rintro e w1 ⟨rfl, hb⟩; have HB1 := Lib.hid hb; clear hb)
 go_ret
 exact ⟨rfl, HB1.out⟩
set_option maxHeartbeats 2000000 in
set_option maxRecDepth 100000 in
theorem number0 (g : Nat) (w : World) (hg : Bd g w) : Calls Tryz.prog 37 #[.pointer (some ⟨g, 0, none⟩), .string (num8 0)] w fun e w' => e = .returned (.int .u64 0) ∧ Below w.heap.size w w' := by
 have HC := takeNum.walk (num8 0)
 rw [show numW (num8 0) = (0, ⟨#[]⟩, 0) from num_laid 0 (by decide)] at HC
 have K := Lib.hid hg
 clear hg
 generalize num8 0 = s at *
 go_enter Tryz.func37, Tryz.ntmps37
 go_wp2_with (first
  | (go_at_call 75; refine (HC _).mono ?_; rintro e w1 ⟨rfl, hd⟩; have HB1 := Lib.hid hd.below; have K1 : Hid (Bd g w1) := Lib.hid (blk_below K.out hd.below); have p2 := (blk_cell K1.out 2).trans (rfl : _ = some (Value.bool false)); have z2 := blk_frozen K1.out 2; clear hd)
  | ((with_reducible refine gate_ (.store 4 (.tmp 28) (.tmp 26)) rfl ?_); go_must (refine store_self rfl rfl (.tmp 28) (.tmp 26) rfl g 2 _ 88 (.bool false) rfl rfl rfl rfl info_size4 K1.out rfl ?_)))
 go_ret
 exact ⟨rfl, HB1.out⟩
set_option maxHeartbeats 2000000 in
set_option maxRecDepth 100000 in
theorem texts0 (g : Nat) (w : World) : Calls Tryz.prog 38 #[.pointer (some ⟨g, 0, none⟩), .string lay0, .int .i64 1] w fun e w' => ∃ v, e = .returned v ∧ Kd.R Kd.string 9 w' w.heap.size (fun _ => True) v [num8 0] ∧ Below w.heap.size w w' := by
 have HC := whole.walk lay0
 rw [show wholeW lay0 = ([num8 0], 0) from whole_laid [num8 0] (by decide) (by intro t ht; simp at ht; subst ht; rw [num8_size]; decide)] at HC
 generalize lay0 = s at *
 generalize num8 0 = t at *
 go_enter Tryz.func38, Tryz.ntmps38
 go_wp2_with (go_at_call 76; refine (HC _).mono ?_; rintro e w1 ⟨v, rfl, hv, hb⟩; obtain ⟨A, c, rfl⟩ := Kd.R_slice hv; have HB1 := Lib.hid hb; have HV := Lib.hid hv; clear hb hv)
 go_ret
 exact ⟨_, rfl, HV.out, HB1.out⟩
end Go.Proofs.YtafeepdlcilicaaGreat.Q

-- O2
namespace Go.Proofs.YtafeepdlcilicaaGreat.Q
open Go.WideMaps Go.RowKit Go.Proofs.YtafeepdlcilicaaGreatW.PrintWords Go.Proofs.YtafeepdlcilicaaGreatW.PrintLast Go.Proofs.YtafeepdlcilicaaGreatW.PrintMore Go.Maps
set_option linter.unusedVariables false
set_option linter.unusedSimpArgs false

/-! ### the first closure of Build, at the one row -/
theorem keepBB {w w1 w2 : World} (hb : Below w1.heap.size w1 w2) (h : Hid (Below w.heap.size w w1)) : Hid (Below w.heap.size w w2) := keepB h hb
theorem blkB {w w1 : World} {g : Nat} {o : Obj} (hb : Below w.heap.size w w1) (h : Hid (w.heap[g]? = some o)) : Hid (w1.heap[g]? = some o) := blk_below h.out hb
theorem keep8D {w w1 : World} (h : Hid (Below w.heap.size w w1)) : Hid (Below w.heap.size w w1.drew) := h.out.trans ⟨rfl, rfl, rfl, Nat.le_refl _, fun _ _ => rfl⟩
theorem str_one {w : World} {base : Nat} {A : Option Addr} {c : Nat} {s : ByteArray} (h : Kd.R Kd.string 9 w base (fun _ => True) (.slice A [s].length c) [s]) : ∃ ad, A = some ad ∧ w.cell? ad = some (.string s) := by
 obtain ⟨ad, e, h⟩ := at_str (Kd.R_reads' h).2.2 (Below.refl _ _) 0 Nat.zero_lt_one
 refine ⟨ad, e, ?_⟩
 have e2 : ad.add 0 = ad := by cases ad; rfl
 rw [e2] at h
 exact h
attribute [local go_sem] Oper.semAt_some
theorem bdB {w w' : World} {g : Nat} (h : Below w.heap.size w w') (hb : Hid (Bd g w)) : Hid (Bd g w') := blk_below hb.out h
theorem bdS {w : World} {g : Nat} (hb : Hid (Bd g w)) : w.setCell ⟨g, 0, none⟩ (.int .i64 0) = w := setCell_self hb.out rfl
def SX (g gb : Nat) (w W : World) : Prop := Hid (Bd g W) ∧ Hid (W.heap[gb]? = some (.cells #[.pointer (some ⟨g, 0, none⟩)] 86 (0, 0))) ∧ Hid (Below w.heap.size w W)
theorem SX.step {g gb : Nat} {w W W' : World} (h : SX g gb w W) (hb : Below W.heap.size W W') : SX g gb w W' := ⟨bdB hb h.1, blkB hb h.2.1, keepBB hb h.2.2⟩
theorem SX.drew {g gb : Nat} {w W : World} (h : SX g gb w W) : SX g gb w W.drew := ⟨h.1, h.2.1, keep8D h.2.2⟩
theorem SX.set {g gb : Nat} {w W : World} (h : SX g gb w W) : SX g gb w (W.setCell ⟨g, 0, none⟩ (.int .i64 0)) := by rw [bdS h.1]; exact h
theorem SX.c0 {g gb : Nat} {w W : World} (h : Hid (SX g gb w W)) : W.cell? ⟨gb, 0, none⟩ = some (.pointer (some ⟨g, 0, none⟩)) := blk_cell h.out.2.1.out 0
theorem SX.c1 {g gb : Nat} {w W : World} (h : Hid (SX g gb w W)) : W.cell? ⟨g, 0, none⟩ = some (.int .i64 0) := blk_cell h.out.1.out 0
theorem SX.z {g gb : Nat} {w W : World} (h : Hid (SX g gb w W)) : W.frozen? ⟨g, 0, none⟩ = false := blk_frozen h.out.1.out 0
theorem SX.all {g gb : Nat} {w W : World} (h : Hid (SX g gb w W)) : W.cell? ⟨gb, 0, none⟩ = some (.pointer (some ⟨g, 0, none⟩)) ∧ W.cell? ⟨g, 0, none⟩ = some (.int .i64 0) ∧ W.frozen? ⟨g, 0, none⟩ = false ∧ Hid (SX g gb w W) := ⟨SX.c0 h, SX.c1 h, SX.z h, h⟩
set_option maxHeartbeats 4000000 in
set_option maxRecDepth 100000 in
theorem build1 (g gb : Nat) (w : World) (rest : ByteArray) (hg : Bd g w) (hb : w.heap[gb]? = some (.cells #[.pointer (some ⟨g, 0, none⟩)] 86 (0, 0))) :
  Calls Tryz.prog 36 #[.string rest, .string lay0, .pointer (some ⟨gb, 0, none⟩)] w fun e w' => e = .returned (.tuple #[]) ∧ Below w.heap.size w w' := by
 have HX : Hid (SX g gb w w) := ⟨hg, hb, Below.refl _ _⟩
 obtain ⟨x0, x1, x2, x3⟩ := SX.all HX
 have HT := Lib.hid (texts0 g)
 have HNM := Lib.hid (number0 g)
 clear hg hb HX
 generalize num8 0 = s at *
 generalize lay0 = t at *
 go_enter Tryz.func36, Tryz.ntmps36
 refine wp_region_held_drew (S := fun W => W.cell? ⟨gb, 0, none⟩ = some (.pointer (some ⟨g, 0, none⟩)) ∧ W.cell? ⟨g, 0, none⟩ = some (.int .i64 0) ∧ W.frozen? ⟨g, 0, none⟩ = false ∧ Hid (SX g gb w W)) (by kernel_rfl) ?_ (fun hHeld => ?_)
 ·exact SX.all (SX.drew (Hid.out (by assumption)))
 refine wpAnyH_take (i := 0) (oi := { dst := some 5, op := Op.load 86 (Operand.tmp 2), type := 86, pos := "items.go:197", after := #[], guard := none }) (v := ?v1) rfl (by kernel_rfl) (by kernel_rfl) (by kernel_rfl) (fun _ _ _ h => h) (Or.inl ⟨by rfl, ?y1⟩) (by assumption) ?r1
 case y1 => (intro w hSw; obtain ⟨s1, s2, s3, s4⟩ := hSw; go_simp; try with_reducible rfl)
 try simp only [Act.put, List.setIfInBounds_toArray, List.set_cons_zero, List.set_cons_succ]
 refine wpAnyH_take (i := 1) (oi := { dst := some 6, op := Op.load 86 (Operand.tmp 2), type := 86, pos := "items.go:197", after := #[], guard := none }) (v := ?v2) rfl (by kernel_rfl) (by kernel_rfl) (by kernel_rfl) (fun _ _ _ h => h) (Or.inl ⟨by rfl, ?y2⟩) (by assumption) ?r2
 case y2 => (intro w hSw; obtain ⟨s1, s2, s3, s4⟩ := hSw; go_simp; try with_reducible rfl)
 try simp only [Act.put, List.setIfInBounds_toArray, List.set_cons_zero, List.set_cons_succ]
 refine wpAnyH_take (i := 2) (oi := { dst := some 7, op := Op.load 86 (Operand.tmp 2), type := 86, pos := "items.go:197", after := #[], guard := none }) (v := ?v3) rfl (by kernel_rfl) (by kernel_rfl) (by kernel_rfl) (fun _ _ _ h => h) (Or.inl ⟨by rfl, ?y3⟩) (by assumption) ?r3
 case y3 => (intro w hSw; obtain ⟨s1, s2, s3, s4⟩ := hSw; go_simp; try with_reducible rfl)
 try simp only [Act.put, List.setIfInBounds_toArray, List.set_cons_zero, List.set_cons_succ]
 refine wpAnyH_take (i := 3) (oi := { dst := some 8, op := Op.move (Operand.tmp 1), type := 9, pos := "items.go:197", after := #[], guard := none }) (v := ?v4) rfl (by kernel_rfl) (by kernel_rfl) (by kernel_rfl) (fun _ _ _ h => h) (Or.inl ⟨by rfl, ?y4⟩) (by assumption) ?r4
 case y4 => (intro w hSw; obtain ⟨s1, s2, s3, s4⟩ := hSw; go_simp; try with_reducible rfl)
 try simp only [Act.put, List.setIfInBounds_toArray, List.set_cons_zero, List.set_cons_succ]
 refine wpAnyH_ready (rs := [4]) (by kernel_rfl) (by simp) ?_
 refine AllReadyH.cons (o := { dst := some 9, op := Op.call { callee := Callee.value (Operand.func 38), args := #[Operand.tmp 7, Operand.tmp 8, Operand.const (Value.int IntKind.i64 1)], argTypes := #[86, 9, 3] }, type := 75, pos := "items.go:197", after := #[{ on := 2, ground := Ground.data }, { on := 3, ground := Ground.data }], guard := none }) rfl (fun K hK => ?_) AllReadyH.nil
 rw [if_pos (by rfl)]
 go_simp
 refine (HT.out _).mono ?_
 rintro e8 w8 ⟨v, rfl, hv, hb8⟩
 obtain ⟨A, c, rfl⟩ := Kd.R_slice hv
 obtain ⟨ad, rfl, y0⟩ := str_one hv
 refine hK.out _ _ (SX.all (SX.step (Hid.out hHeld.2.2.2) hb8)) (fun hHeld => ?_)
 clear hK K hb8 hv
 try simp only [Act.put, List.setIfInBounds_toArray, List.set_cons_zero, List.set_cons_succ]
 refine wpAnyH_take (i := 5) (oi := { dst := some 10, op := Op.indexAddr 75 (Operand.tmp 9) (Operand.const (Value.int IntKind.i64 0)), type := 0, pos := "items.go:197", after := #[{ on := 4, ground := Ground.data }], guard := none }) (v := ?v5) rfl (by kernel_rfl) (by kernel_rfl) (by kernel_rfl) (fun _ _ _ h => h) (Or.inl ⟨by rfl, ?y5⟩) (by assumption) ?r5
 case y5 => (intro w hSw; obtain ⟨s1, s2, s3, s4⟩ := hSw; go_simp; try with_reducible rfl)
 try simp only [Act.put, List.setIfInBounds_toArray, List.set_cons_zero, List.set_cons_succ]
 refine wpAnyH_ready (rs := [6]) (by kernel_rfl) (by simp) ?_
 refine AllReadyH.cons (o := { dst := some 11, op := Op.load 9 (Operand.tmp 10), type := 9, pos := "items.go:197", after := #[{ on := 5, ground := Ground.data }], guard := none }) rfl (fun K hK => ?_) AllReadyH.nil
 rw [if_pos (by rfl)]
 go_simp
 refine hK.out _ _ hHeld (fun hHeld => ?_)
 clear hK K
 try simp only [Act.put, List.setIfInBounds_toArray, List.set_cons_zero, List.set_cons_succ]
 refine wpAnyH_ready (rs := [7]) (by kernel_rfl) (by simp) ?_
 refine AllReadyH.cons (o := { dst := some 12, op := Op.call { callee := Callee.value (Operand.func 37), args := #[Operand.tmp 6, Operand.tmp 11], argTypes := #[86, 9] }, type := 33, pos := "items.go:197", after := #[{ on := 1, ground := Ground.data }, { on := 6, ground := Ground.data }, { on := 4, ground := Ground.chain }], guard := none }) rfl (fun K hK => ?_) AllReadyH.nil
 rw [if_pos (by rfl)]
 go_simp
 refine (HNM.out _ (Hid.out (And.left (Hid.out hHeld.2.2.2)))).mono ?_
 rintro e9 w9 ⟨rfl, hb9⟩
 refine hK.out _ _ (SX.all (SX.step (Hid.out hHeld.2.2.2) hb9)) (fun hHeld => ?_)
 clear hK K hb9
 try simp only [Act.put, List.setIfInBounds_toArray, List.set_cons_zero, List.set_cons_succ]
 refine wpAnyH_take (i := 8) (oi := { dst := some 13, op := Op.convert 33 3 (Operand.tmp 12), type := 3, pos := "items.go:197", after := #[{ on := 7, ground := Ground.data }], guard := none }) (v := ?v6) rfl (by kernel_rfl) (by kernel_rfl) (by kernel_rfl) (fun _ _ _ h => h) (Or.inl ⟨by rfl, ?y6⟩) (by assumption) ?r6
 case y6 => (intro w hSw; obtain ⟨s1, s2, s3, s4⟩ := hSw; go_simp; try with_reducible rfl)
 try simp only [Act.put, List.setIfInBounds_toArray, List.set_cons_zero, List.set_cons_succ]
 refine wpAnyH_take (i := 9) (oi := { dst := some 14, op := Op.nilCheck (Operand.tmp 5), type := 0, pos := "items.go:197", after := #[{ on := 0, ground := Ground.data }, { on := 0, ground := Ground.phase }, { on := 1, ground := Ground.phase }, { on := 2, ground := Ground.phase }, { on := 3, ground := Ground.phase }, { on := 4, ground := Ground.phase }, { on := 5, ground := Ground.phase }, { on := 6, ground := Ground.phase }, { on := 7, ground := Ground.phase }, { on := 8, ground := Ground.phase }], guard := none }) (v := ?v7) rfl (by kernel_rfl) (by kernel_rfl) (by kernel_rfl) (fun _ _ _ h => h) (Or.inl ⟨by rfl, ?y7⟩) (by assumption) ?r7
 case y7 => (intro w hSw; obtain ⟨s1, s2, s3, s4⟩ := hSw; go_simp; try with_reducible rfl)
 try simp only [Act.put, List.setIfInBounds_toArray, List.set_cons_zero, List.set_cons_succ]
 refine wpAnyH_take (i := 10) (oi := { dst := some 15, op := Op.fieldAddr 88 (Operand.tmp 14) 0, type := 0, pos := "items.go:197", after := #[{ on := 9, ground := Ground.data }, { on := 0, ground := Ground.phase }, { on := 1, ground := Ground.phase }, { on := 2, ground := Ground.phase }, { on := 3, ground := Ground.phase }, { on := 4, ground := Ground.phase }, { on := 5, ground := Ground.phase }, { on := 6, ground := Ground.phase }, { on := 7, ground := Ground.phase }, { on := 8, ground := Ground.phase }], guard := none }) (v := ?v8) rfl (by kernel_rfl) (by kernel_rfl) (by kernel_rfl) (fun _ _ _ h => h) (Or.inl ⟨by rfl, ?y8⟩) (by assumption) ?r8
 case y8 => (intro w hSw; obtain ⟨s1, s2, s3, s4⟩ := hSw; go_simp; try with_reducible rfl)
 try simp only [Act.put, List.setIfInBounds_toArray, List.set_cons_zero, List.set_cons_succ]
 refine wpAnyH_take (i := 11) (oi := { dst := some 16, op := Op.fieldAddr 24 (Operand.tmp 15) 0, type := 0, pos := "items.go:197", after := #[{ on := 10, ground := Ground.data }, { on := 0, ground := Ground.phase }, { on := 1, ground := Ground.phase }, { on := 2, ground := Ground.phase }, { on := 3, ground := Ground.phase }, { on := 4, ground := Ground.phase }, { on := 5, ground := Ground.phase }, { on := 6, ground := Ground.phase }, { on := 7, ground := Ground.phase }, { on := 8, ground := Ground.phase }], guard := none }) (v := ?v9) rfl (by kernel_rfl) (by kernel_rfl) (by kernel_rfl) (fun _ _ _ h => h) (Or.inl ⟨by rfl, ?y9⟩) (by assumption) ?r9
 case y9 => (intro w hSw; obtain ⟨s1, s2, s3, s4⟩ := hSw; go_simp; try with_reducible rfl)
 try simp only [Act.put, List.setIfInBounds_toArray, List.set_cons_zero, List.set_cons_succ]
 refine wpAnyH_ready (rs := [12]) (by kernel_rfl) (by simp) ?_
 refine AllReadyH.cons (o := { dst := none, op := Op.store 3 (Operand.tmp 16) (Operand.tmp 13), type := 0, pos := "items.go:197", after := #[{ on := 11, ground := Ground.data }, { on := 8, ground := Ground.data }, { on := 7, ground := Ground.chain }, { on := 0, ground := Ground.phase }, { on := 1, ground := Ground.phase }, { on := 2, ground := Ground.phase }, { on := 3, ground := Ground.phase }, { on := 4, ground := Ground.phase }, { on := 5, ground := Ground.phase }, { on := 6, ground := Ground.phase }, { on := 7, ground := Ground.phase }, { on := 8, ground := Ground.phase }], guard := none }) rfl (fun K hK => ?_) AllReadyH.nil
 rw [if_pos (by rfl)]
 have hz1 := hHeld.2.1
 have hz2 := hHeld.2.2.1
 go_simp
 refine hK.out _ _ (SX.all (SX.set (Hid.out hHeld.2.2.2))) (fun hHeld => ?_)
 clear hK K hz1 hz2
 have HE := hHeld.2.2.2.out.2.2
 clear hHeld
 generalize World.setCell _ _ _ = W9 at HE ⊢
 refine wpAnyH_done (by kernel_rfl) ?_ _
 go_end0
 exact ⟨rfl, HE.out⟩
end Go.Proofs.YtafeepdlcilicaaGreat.Q

-- O3
namespace Go.Proofs.YtafeepdlcilicaaGreat.Q
open Go.WideMaps Go.RowKit Go.Proofs.YtafeepdlcilicaaGreatW.PrintWords Go.Proofs.YtafeepdlcilicaaGreatW.PrintLast Go.Proofs.YtafeepdlcilicaaGreatW.PrintMore Go.Maps
set_option linter.unusedVariables false
set_option linter.unusedSimpArgs false

/-! ### the builder's all and done, at no row and at the one row -/
theorem all_nil (p fv : Value) (kind : ByteArray) (w : World) : Calls Tryz.prog 35 #[p, .slice none 0 0, .string kind, fv] w fun e w' => e = .returned (.tuple #[]) ∧ w' = w := by
 go_enter Tryz.func35, Tryz.ntmps35
 go_wp2
 refine wp_loop_rounds 1 ?_
 rw [rounds_succ]
 go_wp2
 go_end0
 exact ⟨rfl, rfl⟩
theorem done0 (g : Nat) (w : World) (hg : Bd g w) : Calls Tryz.prog 43 #[.pointer (some ⟨g, 0, none⟩)] w fun e w' => e = .returned (.tuple #[]) ∧ w' = w := by
 have x1 := (blk_cell hg 1).trans (rfl : _ = some (Value.slice none 0 0))
 clear hg
 go_enter Tryz.func43, Tryz.ntmps43
 go_wp2
 refine wp_loop_rounds 1 ?_
 rw [rounds_succ]
 go_wp2
 go_end0
 exact ⟨rfl, rfl⟩
theorem cut_no (k : ByteArray) (w : World) (h : strings_CutPrefix.f ⟨#[116]⟩ k = some (⟨#[116]⟩, false)) : Calls Tryz.prog 74 #[.string ⟨#[116]⟩, .string k] w fun e w' => e = .returned (.tuple #[.string ⟨#[116]⟩, .bool false]) ∧ Below w.heap.size w w' :=
 (strings_CutPrefix.calls _ k _ _ w h).mono (by rintro e w' ⟨rfl, hd⟩; exact ⟨rfl, hd.below⟩)
theorem cut_yes (w : World) : Calls Tryz.prog 74 #[.string ⟨#[116]⟩, .string ⟨#[116]⟩] w fun e w' => e = .returned (.tuple #[.string ⟨#[]⟩, .bool true]) ∧ Below w.heap.size w w' :=
 (strings_CutPrefix.calls ⟨#[116]⟩ ⟨#[116]⟩ ⟨#[]⟩ true w (by kernel_rfl)).mono (by rintro e w' ⟨rfl, hd⟩; exact ⟨rfl, hd.below⟩)
set_option maxHeartbeats 4000000 in
set_option maxRecDepth 100000 in
theorem all_no (p fv : Value) (kind : ByteArray) (A : Option Addr) (c : Nat) (w : World) (hr : Kd.C k43 w A 1 [it0]) (h : strings_CutPrefix.f ⟨#[116]⟩ kind = some (⟨#[116]⟩, false)) : Calls Tryz.prog 35 #[p, .slice A 1 c, .string kind, fv] w fun e w' => e = .returned (.tuple #[]) ∧ Below w.heap.size w w' := by
 have HC := fun W => cut_no kind W h
 clear h
 obtain ⟨ad, rfl, c0, c1⟩ := at35 hr (Below.refl _ _) 0 Nat.zero_lt_one
 have e2 : ad.add (0 * 2) = ad := by cases ad; rfl
 rw [e2] at c0 c1
 have y0 : w.cell? ad = some (.string ⟨#[116]⟩) := c0
 have y1 : w.cell? ⟨ad.block, ad.off + 1, none⟩ = some (.string lay0) := c1
 clear c0 c1 e2 hr
 generalize lay0 = s at *
 generalize hs0 : (⟨#[116]⟩ : ByteArray) = s0 at *
 clear hs0
 go_enter Tryz.func35, Tryz.ntmps35
 go_wp2
 refine wp_loop_rounds 2 ?_
 rw [rounds_succ]
 go_wp2_with (first
  | ((with_reducible refine gate_dst (N := 9) rfl ?_); refine box_event ?hg (N := 9) ?hd (cs := #[.string (⟨#[]⟩ : ByteArray), .string (⟨#[]⟩ : ByteArray)]) (t := 43) ?hr ?_; (case hd => rfl); (case hg => rfl); (case hr => first | (go_simp; done) | (go_simp; rfl)); intro g5 hg5 w5 hb5 hbel5; have HB5 := Lib.hid hbel5; have G5 := Lib.hid (Nat.le_of_eq hg5.symm : w.heap.size ≤ g5); have K5 := Lib.hid hb5; clear hg5 hb5 hbel5)
  | ((with_reducible refine gate_ (.store 43 (.tmp 9) (.tmp 17)) rfl ?_); go_must (refine store35_law rfl rfl (.tmp 9) (.tmp 17) rfl g5 _ _ ⟨s0, s⟩ rfl rfl K5.out ?_; intro w6 hk6 hb6; have K6 := Lib.hid hk6; have HB6 := Lib.hid (HB5.out.trans (hb6 w.heap.size G5.out)); have q0 := (blk_cell K6.out 0).trans (rfl : _ = some (Value.string s0)); have q1 := (blk_cell K6.out 1).trans (rfl : _ = some (Value.string s)); clear hk6 hb6))
  | (go_at_call 74; refine (HC _).mono ?_; rintro e w7 ⟨rfl, hb⟩; have HB7 := Lib.hid (HB6.out.trans (hb.mono HB6.out.size)); clear hb))
 rw [rounds_succ]
 go_wp2
 go_end0
 exact ⟨rfl, HB7.out⟩
set_option maxHeartbeats 4000000 in
set_option maxRecDepth 100000 in
theorem all_yes (p : Value) (g gb : Nat) (A : Option Addr) (c : Nat) (w : World) (hr : Kd.C k43 w A 1 [it0]) (hg : Bd g w) (hb : w.heap[gb]? = some (.cells #[.pointer (some ⟨g, 0, none⟩)] 86 (0, 0))) : Calls Tryz.prog 35 #[p, .slice A 1 c, .string ⟨#[116]⟩, .func (.func 36) #[] #[.pointer (some ⟨gb, 0, none⟩)]] w fun e w' => e = .returned (.tuple #[]) ∧ Below w.heap.size w w' := by
 have HC := fun W => cut_yes W
 have HCL := Lib.hid (build1 g gb)
 have KG : Hid (Bd g w) := hg
 have KB := Lib.hid hb
 clear hg hb
 obtain ⟨ad, rfl, c0, c1⟩ := at35 hr (Below.refl _ _) 0 Nat.zero_lt_one
 have e2 : ad.add (0 * 2) = ad := by cases ad; rfl
 rw [e2] at c0 c1
 have y0 : w.cell? ad = some (.string ⟨#[116]⟩) := c0
 have y1 : w.cell? ⟨ad.block, ad.off + 1, none⟩ = some (.string lay0) := c1
 clear c0 c1 e2 hr
 generalize lay0 = s at *
 generalize hs0 : (⟨#[116]⟩ : ByteArray) = s0 at *
 clear hs0
 go_enter Tryz.func35, Tryz.ntmps35
 go_wp2
 refine wp_loop_rounds 2 ?_
 rw [rounds_succ]
 go_wp2_with (first
  | ((with_reducible refine gate_dst (N := 9) rfl ?_); refine box_event ?hg (N := 9) ?hd (cs := #[.string (⟨#[]⟩ : ByteArray), .string (⟨#[]⟩ : ByteArray)]) (t := 43) ?hr ?_; (case hd => rfl); (case hg => rfl); (case hr => first | (go_simp; done) | (go_simp; rfl)); intro g5 hg5 w5 hb5 hbel5; have HB5 := Lib.hid hbel5; have G5 := Lib.hid (Nat.le_of_eq hg5.symm : w.heap.size ≤ g5); have K5 := Lib.hid hb5; clear hg5 hb5 hbel5)
  | ((with_reducible refine gate_ (.store 43 (.tmp 9) (.tmp 17)) rfl ?_); go_must (refine store35_law rfl rfl (.tmp 9) (.tmp 17) rfl g5 _ _ ⟨s0, s⟩ rfl rfl K5.out ?_; intro w6 hk6 hb6; have K6 := Lib.hid hk6; have HB6 := Lib.hid (HB5.out.trans (hb6 w.heap.size G5.out)); have q0 := (blk_cell K6.out 0).trans (rfl : _ = some (Value.string s0)); have q1 := (blk_cell K6.out 1).trans (rfl : _ = some (Value.string s)); clear hk6 hb6))
  | (go_at_call 74; refine (HC _).mono ?_; rintro e w7 ⟨rfl, hb⟩; have HB7 := Lib.hid (HB6.out.trans (hb.mono HB6.out.size)); have K7 := Lib.hid (blk_below K6.out hb); have r0 := (blk_cell K7.out 0).trans (rfl : _ = some (Value.string s0)); have r1 := (blk_cell K7.out 1).trans (rfl : _ = some (Value.string s)); clear hb)
  | (go_at_call 36; refine (HCL.out _ _ (blk_below KG.out HB7.out) (blk_below KB.out HB7.out)).mono ?_; rintro e w8 ⟨rfl, hb⟩; have HB8 := Lib.hid (HB7.out.trans (hb.mono HB7.out.size)); clear hb))
 rw [rounds_succ]
 go_wp2
 go_end0
 exact ⟨rfl, HB8.out⟩
end Go.Proofs.YtafeepdlcilicaaGreat.Q

-- O4
namespace Go.Proofs.YtafeepdlcilicaaGreat.Q
open Go.WideMaps Go.RowKit Go.Proofs.YtafeepdlcilicaaGreatW.PrintWords Go.Proofs.YtafeepdlcilicaaGreatW.PrintLast Go.Proofs.YtafeepdlcilicaaGreatW.PrintMore Go.Maps
set_option linter.unusedVariables false
set_option linter.unusedSimpArgs false

/-! ### items.Of at the empty depot -/
theorem num0 (w : World) : Calls Tryz.prog 14 #[.int .i64 0] w fun e w' => e = .returned (.string (num8 0)) ∧ Below w.heap.size w w' :=
 items_num.calls 9 0 (num8 0) w (by unfold items_num.f; rw [show IntKind.u64.wrap 0 = 0 by decide, num8_eq]; rfl)
theorem lit35 {ops : Array Oper} {rest : List Oper} {o : Oper} {a : Act} {Q : Exit → Act → World → Prop} {W : World} (hgd : o.guard = none) {N : Tmp} (_hd : o.dst = some N) (x : S43)
  (hrun : (execOp a.eval o).run Tryz.prog W = .ok (.value (.slice (some ⟨W.heap.size, 0, none⟩) 1 1)) (W.alloc (.cells #[.string x.f0, .string x.f1] 43)))
  (h : ∀ v w1, NRow35 w1 W.heap.size v [x] → Below W.heap.size W w1 → wpList Tryz.prog ops Q rest (a.put o.dst v) w1) : wpList Tryz.prog ops Q (o :: rest) a W := by
 refine Kd.event_run hgd hrun (h _ _ ?_ (below_alloc (Below.refl _ _) _))
 have h2 := World.ownsRow_lit (base := W.heap.size) (e := 43) (size := 2) W #[.string x.f0, .string x.f1] 1 (Nat.le_refl _) (by decide) rfl
 exact h2
theorem str_lit1 {W : World} {s : ByteArray} : Reps (Kd.string.M W W.heap.size (fun _ => True)) Kd.string.sz [s] [.string s] := ⟨rfl, fun j p hj => by
 cases j with
 | zero =>
  simp at hj
  subst hj
  first | exact rfl | exact ⟨rfl, trivial⟩ | (show _ ∧ _; exact ⟨rfl, rfl⟩)
 | succ j => simp at hj⟩
set_option maxHeartbeats 4000000 in
set_option maxRecDepth 100000 in
theorem of0 (w : World) : Calls Tryz.prog 6 #[.agg #[.int .i64 0, .slice none 0 0]] w fun e w' => ∃ v, e = .returned (.tuple #[v, .int .i64 0]) ∧ NRow35 w' w.heap.size v [it0] ∧ Below w.heap.size w w' := by
 have HV := fun A c W h => val0 A c [num8 0] W h (by decide) (by intro t ht; simp at ht; subst ht; rw [num8_size]; decide)
 have HN := num0
 have HI : Hid (it0 = ⟨⟨#[116]⟩, lay0⟩) := rfl
 simp only [show listB [num8 0] = lay0 from rfl] at HV
 generalize num8 0 = s at *
 generalize it0 = it at *
 generalize lay0 = t at *
 go_enter Tryz.func6, Tryz.ntmps6
 go_wp2_with (first
  | ((with_reducible refine gate_dst (N := 1) rfl ?_); refine box_event ?hg (N := 1) ?hd (cs := #[.int .i64 0, .slice none 0 0]) (t := 24) ?hr ?_; (case hd => rfl); (case hg => rfl); (case hr => first | (go_simp; done) | (go_simp; rfl)); intro g5 hg5 w1 hb5 hbel5; have HB1 := Lib.hid hbel5; have K1 := Lib.hid hb5; have p0 := (blk_cell K1.out 0).trans (rfl : _ = some (Value.int .i64 0)); have p1 := (blk_cell K1.out 1).trans (rfl : _ = some (Value.slice none 0 0)); clear hg5 hb5 hbel5)
  | (go_at_call 12; refine (check0 _).mono ?_; rintro e w2 ⟨rfl, hb⟩; have HB2 := Lib.hid (HB1.out.trans (hb.mono HB1.out.size)); have K2 := Lib.hid (blk_below K1.out hb); have q0 := (blk_cell K2.out 0).trans (rfl : _ = some (Value.int .i64 0)); have q1 := (blk_cell K2.out 1).trans (rfl : _ = some (Value.slice none 0 0)); clear hb)
  | (go_at_call 14; refine (HN _).mono ?_; rintro e w3 ⟨rfl, hb⟩; have HB3 := Lib.hid (HB2.out.trans (hb.mono HB2.out.size)); have K3 := Lib.hid (blk_below K2.out hb); clear hb)
  | ((with_reducible refine gate_dst (N := 15) rfl ?_); go_must (refine Kd.R_lit Kd.string w3.heap.size 9 ?hg (N := 15) ?hd (w0 := w3) (xs := [s]) (inner := [.string s]) (ok := fun _ => True) (okp := fun _ => True) ?hr ?hp (fun _ hk => hk) trivial ?hB ?hS (by show (1 : Nat) ≤ _; decide) ?_; (case hd => rfl); (case hg => rfl); (case hr => first | (go_simp; done) | (go_simp; rfl)); (case hp => exact str_lit1); (case hB => exact Below.refl _ _); (case hS => exact Nat.le_refl _); intro v4 w4 ho hb _ _; have HB4 := Lib.hid (HB3.out.trans (hb.mono HB3.out.size)); have K4 := Lib.hid (blk_below K3.out hb); obtain ⟨A4, c4, rfl⟩ := Kd.R_slice ho; have HO4 := Lib.hid ho; clear ho hb))
  | (go_at_call 13; refine (HV _ _ _ (Kd.R_reads' HO4.out).2.2).mono ?_; rintro e w5 ⟨rfl, hb⟩; have HB5 := Lib.hid (HB4.out.trans (hb.mono HB4.out.size)); have K5 := Lib.hid (blk_below K4.out hb); clear hb)
  | ((with_reducible refine gate_dst (N := 18) rfl ?_); go_must (refine lit35 ?hg (N := 18) ?hd ⟨⟨#[116]⟩, t⟩ ?hr ?_; (case hd => rfl); (case hg => rfl); (case hr => first | (go_simp; done) | (go_simp; rfl)); intro v6 w6 ho hb; have HO6 := Lib.hid (ho.mono HB5.out.size); have HB6 := Lib.hid (HB5.out.trans (hb.mono HB5.out.size)); have K6 := Lib.hid (blk_below K5.out hb); have r1 := (blk_cell K6.out 1).trans (rfl : _ = some (Value.slice none 0 0)); clear ho hb)))
 refine wp_loop_rounds 1 ?_
 rw [rounds_succ]
 go_wp2_with (first
  | (go_at_call 18; refine (sort_notes35 w.heap.size v6 _ _ HO6.out (by show (1 : Nat) ≤ _; decide)).mono ?_; rintro e w7 ⟨rfl, zs, hz, hp, hs, hg⟩; have HZ := Lib.hid hz; have HP := Lib.hid hp; have HB7 := Lib.hid (HB6.out.grown hg HB6.out.size (own_base HO6.out)); clear hz hp hs hg))
 go_ret2
 obtain rfl := List.perm_singleton.1 HP.out
 rw [← HI.out] at HZ
 exact ⟨_, rfl, HZ.out, HB7.out⟩
end Go.Proofs.YtafeepdlcilicaaGreat.Q

-- O5
namespace Go.Proofs.YtafeepdlcilicaaGreat.Q
open Go.WideMaps Go.RowKit Go.Proofs.YtafeepdlcilicaaGreatW.PrintWords Go.Proofs.YtafeepdlcilicaaGreatW.PrintLast Go.Proofs.YtafeepdlcilicaaGreatW.PrintMore Go.Maps
set_option linter.unusedVariables false
set_option linter.unusedSimpArgs false

/-! ### items.Build at no row and at the one row -/
theorem store51_self {ops : Array Oper} {rest : List Oper} {o : Oper} {a : Act} {Q : Exit → Act → World → Prop} {W : World} (hN : o.dst = none) (hgd : o.guard = none) (p x : Operand) (ho : o.op = .store 24 p x) (g : Nat)
  (haddr : a.eval p = .pointer (some ⟨g, 0, none⟩)) (hx : a.eval x = .agg #[.int .i64 0, .slice none 0 0]) (hb : W.heap[g]? = some (.cells #[.int .i64 0, .slice none 0 0] 24 (0, 0)))
  (h : wpList Tryz.prog ops Q rest a W) : wpList Tryz.prog ops Q (o :: rest) a W := by
 refine wpList_plain hgd fun K hK => ?_
 have hrun := run_store_run (P := Tryz.prog) (w := W) (g := g) (o := 0) (e := 24) (cur := #[.int .i64 0, .slice none 0 0]) 24 (.agg #[.int .i64 0, .slice none 0 0]) [.int .i64 0, .slice none 0 0] hb rfl info_size24 (by show 0 + 2 ≤ 2; decide) (by
  intro v hv
  simp at hv
  rcases hv with rfl | rfl <;> rfl)
 have hs : W.setCells g 0 [.int .i64 0, .slice none 0 0] = W := by
  show (W.setCell ⟨g, 0, none⟩ (.int .i64 0)).setCell ⟨g, 1, none⟩ (.slice none 0 0) = W
  rw [setCell_self hb rfl, setCell_self hb rfl]
 rw [hs] at hrun
 unfold Oper.wp execOp
 simp only [ho, haddr, hx, Sem.run_bind, Sem.run_pure, Result.andThen_ok, hrun]
 show K (a.put o.dst undef) _
 rw [hN]
 exact hK _ _ h
theorem store74 {ops : Array Oper} {rest : List Oper} {o : Oper} {a : Act} {Q : Exit → Act → World → Prop} {W : World} (hN : o.dst = none) (hgd : o.guard = none) (p x : Operand) (ho : o.op = .store 86 p x) (g : Nat) (c0 : Value) (ad : Option Addr)
  (haddr : a.eval p = .pointer (some ⟨g, 0, none⟩)) (hx : a.eval x = .pointer ad) (hb : W.heap[g]? = some (.cells #[c0] 86 (0, 0)))
  (h : ∀ w1, w1.heap[g]? = some (.cells #[.pointer ad] 86 (0, 0)) → (∀ k, k ≠ g → w1.heap[k]? = W.heap[k]?) → (∀ B, B ≤ g → Below B W w1) → wpList Tryz.prog ops Q rest a w1) : wpList Tryz.prog ops Q (o :: rest) a W := by
 refine wpList_plain hgd fun K hK => ?_
 have hrun := run_store_run (P := Tryz.prog) (w := W) (g := g) (o := 0) (e := 86) (cur := #[c0]) 86 (.pointer ad) [.pointer ad] hb rfl info_size86 (by show 0 + 1 ≤ 1; decide) (by intro u hu; simp at hu; subst hu; rfl)
 unfold Oper.wp execOp
 simp only [ho, haddr, hx, Sem.run_bind, Sem.run_pure, Result.andThen_ok, hrun]
 show K (a.put o.dst undef) _
 rw [hN]
 exact hK _ _ (h _ (blk_set hb 0 (.pointer ad)) (fun k hk => RowKit.Below.heap_setCell _ _ _ _ hk) (fun B hB => (Below.refl B W).setCell (p := ⟨g, 0, none⟩) hB _))
structure BW (w wi : World) (g2 g gb : Nat) : Prop where
 bel : Below w.heap.size w wi
 k2 : wi.heap[g2]? = some (.cells #[.int .i64 0, .slice none 0 0] 24 (0, 0))
 kg : Bd g wi
 kb : wi.heap[gb]? = some (.cells #[.pointer (some ⟨g, 0, none⟩)] 86 (0, 0))
theorem BW.step {w wi wj : World} {g2 g gb : Nat} (h : BW w wi g2 g gb) (hb : Below wi.heap.size wi wj) : BW w wj g2 g gb := ⟨h.bel.trans (hb.mono h.bel.size), blk_below h.k2 hb, blk_below h.kg hb, blk_below h.kb hb⟩
theorem BW.c {w wi : World} {g2 g gb : Nat} (h : Hid (BW w wi g2 g gb)) : wi.cell? ⟨gb, 0, none⟩ = some (.pointer (some ⟨g, 0, none⟩)) := blk_cell h.out.kb 0
theorem BW.d {w wi : World} {g2 g gb : Nat} (h : Hid (BW w wi g2 g gb)) : wi.cell? ⟨g, 0, none⟩ = some (.int .i64 0) ∧ wi.cell? ⟨g, 1, none⟩ = some (.slice none 0 0) ∧ wi.cell? ⟨g, 2, none⟩ = some (.bool false) ∧ wi.cell? ⟨g2, 0, none⟩ = some (.int .i64 0) ∧ wi.cell? ⟨g2, 1, none⟩ = some (.slice none 0 0) := ⟨blk_cell h.out.kg 0, blk_cell h.out.kg 1, blk_cell h.out.kg 2, blk_cell h.out.k2 0, blk_cell h.out.k2 1⟩
theorem eq_no (n : S43) : api_Item_44.f 3 [n] [] = some false := by simp [api_Item_44.f]
theorem eq_yes (n : S43) : api_Item_44.f 3 [n] [n] = some true := by simp [api_Item_44.f, api_Item_44.l0, rd_T43, wrap64]
set_option maxHeartbeats 4000000 in
set_option maxRecDepth 100000 in
theorem build_nil (w : World) : Calls Tryz.prog 20 #[.slice none 0 0] w fun e w' => e = .returned (.tuple #[.agg #[.int .i64 0, .slice none 0 0], .int .i64 2]) ∧ Below w.heap.size w w' := by
 go_enter Tryz.func20, Tryz.ntmps20
 go_wp2_with (first
  | ((with_reducible refine gate_dst (N := 2) rfl ?_); go_must (refine box_event ?hg (N := 2) ?hd (cs := #[.int .i64 0, .slice none 0 0]) (t := 24) ?hr ?_; (case hd => rfl); (case hg => rfl); (case hr => first | (go_simp; done) | (go_simp; rfl)); intro g2 e2 w1 hb1 hl1; have B1 := Lib.hid hl1; have G2 := Lib.hid (Nat.le_of_eq e2.symm); have K2 := Lib.hid hb1; clear e2 hb1 hl1))
  | ((with_reducible refine gate_dst (N := 8) rfl ?_); go_must (refine box_event ?hg (N := 8) ?hd (cs := #[.int .i64 0, .slice none 0 0, .bool false]) (t := 88) ?hr ?_; (case hd => rfl); (case hg => rfl); (case hr => first | (go_simp; done) | (go_simp; rfl)); intro g e8 w2 hb2 hl2; have B2 := Lib.hid (B1.out.trans (hl2.mono B1.out.size)); replace K2 := Lib.hid (blk_below K2.out hl2); have KG : Hid (Bd g w2) := Lib.hid hb2; clear e8 hb2 hl2))
  | ((with_reducible refine gate_dst (N := 4) rfl ?_); go_must (refine box_event ?hg (N := 4) ?hd (cs := #[.pointer none]) (t := 86) ?hr ?_; (case hd => rfl); (case hg => rfl); (case hr => first | (go_simp; done) | (go_simp; rfl)); intro gb e4 w3 hb3 hl3; have B3 := Lib.hid (B2.out.trans (hl3.mono B2.out.size)); have N2 := Lib.hid (by rw [e4]; exact Nat.ne_of_lt (blk_lt K2.out) : g2 ≠ gb); have N8 := Lib.hid (by rw [e4]; exact Nat.ne_of_lt (blk_lt KG.out) : g ≠ gb); have GB := Lib.hid (e4 ▸ B2.out.size : w.heap.size ≤ gb); replace K2 := Lib.hid (blk_below K2.out hl3); replace KG : Hid (Bd g w3) := Lib.hid (blk_below KG.out hl3); have KB := Lib.hid hb3; clear e4 hb3 hl3))
  | ((with_reducible refine gate_ (.store 86 (.tmp 4) (.tmp 8)) rfl ?_); go_must (refine store74 rfl rfl (.tmp 4) (.tmp 8) rfl gb _ (some ⟨g, 0, none⟩) rfl rfl KB.out ?_; intro w4 hk ho hb; have BX : Hid (BW w w4 g2 g gb) := ⟨B3.out.trans (hb _ GB.out), (ho _ N2.out).trans K2.out, (ho _ N8.out).trans KG.out, hk⟩; have x0 := BW.c BX; clear hk ho hb K2 KG KB))
  | (go_at_call 35; refine (all_nil _ _ _ _).mono ?_; rintro e w' ⟨rfl, rfl⟩)
  | (go_at_call 43; refine (done0 g _ BX.out.kg).mono ?_; rintro e w' ⟨rfl, rfl⟩; obtain ⟨y0, y1, y2, y3, y4⟩ := BW.d BX)
  | (go_at_call 6; refine (of0 _).mono ?_; rintro e w5 ⟨v, rfl, hn, hb⟩; have BY := Lib.hid (BX.out.step hb); obtain ⟨A, c, rfl, hle, hC⟩ := hn.reads; have HLE := Lib.hid hle; have HC := Lib.hid hC; have z0 := BW.c BY; obtain ⟨y0, y1, y2, y3, y4⟩ := BW.d BY; clear hn hb hle hC)
  | (go_at_call 44; refine (api_Item_44.calls 3 A c [it0] none 0 [] false _ HC.out HLE.out (Kd.C_nil _ _) (Nat.le_refl _) (eq_no _)).mono ?_; rintro e w6 ⟨rfl, hd⟩; have BZ := Lib.hid (BY.out.step hd.below); have z0 := BW.c BZ; obtain ⟨y0, y1, y2, y3, y4⟩ := BW.d BZ; clear hd)
  | ((with_reducible refine gate_ (.store 24 (.tmp 2) (.tmp 56)) rfl ?_); go_must (refine store51_self rfl rfl (.tmp 2) (.tmp 56) rfl g2 rfl rfl BZ.out.k2 ?_)))
 refine bodyPost_ret (results_ct rfl _ _ g2 24 _ (0, 0) _ rfl BZ.out.k2 Tryz.underlying24 rfl info_size24) rfl ?_
 exact ⟨rfl, BZ.out.bel⟩
set_option maxHeartbeats 4000000 in
set_option maxRecDepth 100000 in
theorem build_it (A0 : Option Addr) (c0 : Nat) (w : World) (hr : Kd.C k43 w A0 1 [it0]) (hc0 : 1 ≤ c0) : Calls Tryz.prog 20 #[.slice A0 1 c0] w fun e w' => e = .returned (.tuple #[.agg #[.int .i64 0, .slice none 0 0], .int .i64 0]) ∧ Below w.heap.size w w' := by
 have HR := Lib.hid hr
 have HC0 := Lib.hid hc0
 clear hr hc0
 go_enter Tryz.func20, Tryz.ntmps20
 go_wp2_with (first
  | ((with_reducible refine gate_dst (N := 2) rfl ?_); go_must (refine box_event ?hg (N := 2) ?hd (cs := #[.int .i64 0, .slice none 0 0]) (t := 24) ?hr ?_; (case hd => rfl); (case hg => rfl); (case hr => first | (go_simp; done) | (go_simp; rfl)); intro g2 e2 w1 hb1 hl1; have B1 := Lib.hid hl1; have G2 := Lib.hid (Nat.le_of_eq e2.symm); have K2 := Lib.hid hb1; clear e2 hb1 hl1))
  | ((with_reducible refine gate_dst (N := 8) rfl ?_); go_must (refine box_event ?hg (N := 8) ?hd (cs := #[.int .i64 0, .slice none 0 0, .bool false]) (t := 88) ?hr ?_; (case hd => rfl); (case hg => rfl); (case hr => first | (go_simp; done) | (go_simp; rfl)); intro g e8 w2 hb2 hl2; have B2 := Lib.hid (B1.out.trans (hl2.mono B1.out.size)); replace K2 := Lib.hid (blk_below K2.out hl2); have KG : Hid (Bd g w2) := Lib.hid hb2; clear e8 hb2 hl2))
  | ((with_reducible refine gate_dst (N := 4) rfl ?_); go_must (refine box_event ?hg (N := 4) ?hd (cs := #[.pointer none]) (t := 86) ?hr ?_; (case hd => rfl); (case hg => rfl); (case hr => first | (go_simp; done) | (go_simp; rfl)); intro gb e4 w3 hb3 hl3; have B3 := Lib.hid (B2.out.trans (hl3.mono B2.out.size)); have N2 := Lib.hid (by rw [e4]; exact Nat.ne_of_lt (blk_lt K2.out) : g2 ≠ gb); have N8 := Lib.hid (by rw [e4]; exact Nat.ne_of_lt (blk_lt KG.out) : g ≠ gb); have GB := Lib.hid (e4 ▸ B2.out.size : w.heap.size ≤ gb); replace K2 := Lib.hid (blk_below K2.out hl3); replace KG : Hid (Bd g w3) := Lib.hid (blk_below KG.out hl3); have KB := Lib.hid hb3; clear e4 hb3 hl3))
  | ((with_reducible refine gate_ (.store 86 (.tmp 4) (.tmp 8)) rfl ?_); go_must (refine store74 rfl rfl (.tmp 4) (.tmp 8) rfl gb _ (some ⟨g, 0, none⟩) rfl rfl KB.out ?_; intro w4 hk ho hb; have BX : Hid (BW w w4 g2 g gb) := ⟨B3.out.trans (hb _ GB.out), (ho _ N2.out).trans K2.out, (ho _ N8.out).trans KG.out, hk⟩; have x0 := BW.c BX; clear hk ho hb K2 KG KB))
  | (go_at_call 35; with_reducible refine (all_yes _ g gb A0 c0 _ (Kd.C_below HR.out BX.out.bel) BX.out.kg BX.out.kb).mono ?_; rintro e w' ⟨rfl, hb⟩; replace BX := Lib.hid (BX.out.step hb); have x0 := BW.c BX; clear hb)
  | (go_at_call 35; with_reducible refine (all_no _ _ ⟨#[98]⟩ A0 c0 _ (Kd.C_below HR.out BX.out.bel) (by kernel_rfl)).mono ?_; rintro e w' ⟨rfl, hb⟩; replace BX := Lib.hid (BX.out.step hb); have x0 := BW.c BX; clear hb)
  | (go_at_call 35; with_reducible refine (all_no _ _ ⟨#[118]⟩ A0 c0 _ (Kd.C_below HR.out BX.out.bel) (by kernel_rfl)).mono ?_; rintro e w' ⟨rfl, hb⟩; replace BX := Lib.hid (BX.out.step hb); have x0 := BW.c BX; clear hb)
  | (go_at_call 35; with_reducible refine (all_no _ _ ⟨#[117]⟩ A0 c0 _ (Kd.C_below HR.out BX.out.bel) (by kernel_rfl)).mono ?_; rintro e w' ⟨rfl, hb⟩; replace BX := Lib.hid (BX.out.step hb); have x0 := BW.c BX; clear hb)
  | (go_at_call 35; with_reducible refine (all_no _ _ ⟨#[112]⟩ A0 c0 _ (Kd.C_below HR.out BX.out.bel) (by kernel_rfl)).mono ?_; rintro e w' ⟨rfl, hb⟩; replace BX := Lib.hid (BX.out.step hb); have x0 := BW.c BX; clear hb)
  | (go_at_call 43; refine (done0 g _ BX.out.kg).mono ?_; rintro e w' ⟨rfl, rfl⟩; obtain ⟨y0, y1, y2, y3, y4⟩ := BW.d BX)
  | (go_at_call 6; refine (of0 _).mono ?_; rintro e w5 ⟨v, rfl, hn, hb⟩; have BY := Lib.hid (BX.out.step hb); obtain ⟨A, c, rfl, hle, hC⟩ := hn.reads; have HLE := Lib.hid hle; have HC := Lib.hid hC; have z0 := BW.c BY; obtain ⟨y0, y1, y2, y3, y4⟩ := BW.d BY; clear hn hb hle hC)
  | (go_at_call 44; refine (api_Item_44.calls 3 A c [it0] A0 c0 [it0] true _ HC.out HLE.out (Kd.C_below HR.out BY.out.bel) HC0.out (eq_yes _)).mono ?_; rintro e w6 ⟨rfl, hd⟩; have BZ := Lib.hid (BY.out.step hd.below); have z0 := BW.c BZ; obtain ⟨y0, y1, y2, y3, y4⟩ := BW.d BZ; clear hd)
  | ((with_reducible refine gate_ (.store 24 (.tmp 2) (.tmp 60)) rfl ?_); go_must (refine store51_self rfl rfl (.tmp 2) (.tmp 60) rfl g2 rfl rfl BZ.out.k2 ?_)))
 refine bodyPost_ret (results_ct rfl _ _ g2 24 _ (0, 0) _ rfl BZ.out.k2 Tryz.underlying24 rfl info_size24) rfl ?_
 exact ⟨rfl, BZ.out.bel⟩
end Go.Proofs.YtafeepdlcilicaaGreat.Q

-- O6
namespace Go.Proofs.YtafeepdlcilicaaGreat.Q
open Go.WideMaps Go.RowKit Go.Proofs.YtafeepdlcilicaaGreatW.PrintWords Go.Proofs.YtafeepdlcilicaaGreatW.PrintLast Go.Proofs.YtafeepdlcilicaaGreatW.PrintMore Go.Maps
set_option linter.unusedVariables false
set_option linter.unusedSimpArgs false

/-! ### awake -/
theorem diff_it : items_Diff.f [it0] [it0] = some [] := by kernel_rfl
set_option maxHeartbeats 2000000 in
set_option maxRecDepth 100000 in
theorem same10_0 (w : World) : Calls Tryz.prog 21 #[.agg #[.int .i64 0, .slice none 0 0], .agg #[.int .i64 0, .slice none 0 0]] w fun e w' => e = .returned (.bool true) ∧ Below w.heap.size w w' := by
 have HB := Below.refl w.heap.size w
 go_enter Tryz.func21, Tryz.ntmps21
 go_wp2
 refine wp_loop_rounds 1 ?_
 rw [rounds_succ]
 go_wp2
 go_ret
 exact ⟨rfl, by repeat (first | (with_reducible first | exact HB | apply below_alloc | apply pw_below_drewN | apply below_drew1) | exact HB)⟩
set_option maxHeartbeats 4000000 in
set_option maxRecDepth 100000 in
theorem awake.walk (w : World) : Calls Tryz.prog 7 #[] w fun e w' => e = .returned (.bool true) ∧ Below w.heap.size w w' := by
 go_enter Tryz.func7, Tryz.ntmps7
 go_wp2_with (first
  | (go_at_call 6; refine (of0 _).mono ?_; rintro e w1 ⟨v, rfl, hn, hb⟩; have B1 := Lib.hid hb; obtain ⟨A, c, rfl, hle, hC⟩ := hn.reads; have HLE : Hid (1 ≤ c) := hle; have HC1 : Hid (Kd.C k43 w1 A 1 [it0]) := hC; clear hn hb hle hC)
  | (go_at_call 20; with_reducible refine (build_nil _).mono ?_; rintro e w2 ⟨rfl, hb⟩; have B2 := Lib.hid (B1.out.trans (hb.mono B1.out.size)); have HC2 := Lib.hid (Kd.C_below HC1.out hb); clear hb)
  | ((with_reducible refine gate_dst (N := 3) rfl ?_); go_must (refine box_event ?hg (N := 3) ?hd (cs := #[.int .i64 0, .slice none 0 0]) (t := 24) ?hr ?_; (case hd => rfl); (case hg => rfl); (case hr => first | (go_simp; done) | (go_simp; rfl)); intro g3 e3 w3 hb3 hl; have B3 := Lib.hid (B2.out.trans (hl.mono B2.out.size)); have HC3 := Lib.hid (Kd.C_below HC2.out hl); have K3 := Lib.hid hb3; clear e3 hb3 hl))
  | ((with_reducible refine gate_ (.store 24 (.tmp 3) (.tmp 14)) rfl ?_); go_must (refine store51_self rfl rfl (.tmp 3) (.tmp 14) rfl g3 rfl rfl K3.out ?_))
  | (go_at_call 20; with_reducible refine (build_it A c _ HC3.out HLE.out).mono ?_; rintro e w4 ⟨rfl, hb⟩; have B4 := Lib.hid (B3.out.trans (hb.mono B3.out.size)); have HC4 := Lib.hid (Kd.C_below HC3.out hb); clear hb)
  | ((with_reducible refine gate_dst (N := 5) rfl ?_); go_must (refine box_event ?hg (N := 5) ?hd (cs := #[.int .i64 0, .slice none 0 0]) (t := 24) ?hr ?_; (case hd => rfl); (case hg => rfl); (case hr => first | (go_simp; done) | (go_simp; rfl)); intro g5 e5 w5 hb5 hl; have B5 := Lib.hid (B4.out.trans (hl.mono B4.out.size)); have HC5 := Lib.hid (Kd.C_below HC4.out hl); have K5 := Lib.hid hb5; have p0 := (blk_cell hb5 0).trans (rfl : _ = some (Value.int .i64 0)); have p1 := (blk_cell hb5 1).trans (rfl : _ = some (Value.slice none 0 0)); clear e5 hb5 hl))
  | ((with_reducible refine gate_ (.store 24 (.tmp 5) (.tmp 19)) rfl ?_); go_must (refine store51_self rfl rfl (.tmp 5) (.tmp 19) rfl g5 rfl rfl K5.out ?_))
  | (go_at_call 21; go_must (refine (same10_0 _).mono ?_; rintro e w6 ⟨rfl, hd⟩; have hb := hd; have B6 := Lib.hid (B5.out.trans (hb.mono B5.out.size)); have HC6 := Lib.hid (Kd.C_below HC5.out hb); clear hb))
  | (go_at_call 8; go_must (refine (items_Diff.calls A c [it0] A c [it0] [] _ HC6.out HLE.out HC6.out HLE.out diff_it).mono ?_; rintro e w7 ⟨v7, rfl, ho, hb⟩; have B7 := Lib.hid (B6.out.trans (hb.mono B6.out.size)); obtain ⟨A7, c7, rfl⟩ := Kd.R_slice ho; clear ho hb)))
 go_ret
 exact ⟨rfl, B7.out⟩
def cellarerlaw11_awake.f : Option Bool := some true
theorem cellarerlaw11_awake.calls (r : Bool) (w : World) (h : cellarerlaw11_awake.f = some r) :
  Calls Tryz.prog 7 #[] w fun e w' => e = .returned (.bool r) ∧ Below w.heap.size w w' := by
 injection h with h
 subst h
 exact awake.walk w
end Go.Proofs.YtafeepdlcilicaaGreat.Q

-- I0
namespace Go.Proofs.YtafeepdlcilicaaGreat.Q
open Go.WideMaps Go.RowKit Go.Proofs.YtafeepdlcilicaaGreatW.PrintWords Go.Proofs.YtafeepdlcilicaaGreatW.PrintLast Go.Proofs.YtafeepdlcilicaaGreatW.PrintMore Go.Maps
set_option linter.unusedVariables false
set_option linter.unusedSimpArgs false

theorem sz10 : (⟨#[10]⟩ : ByteArray).size = 1 := rfl
theorem sz98 : (⟨#[98]⟩ : ByteArray).size = 1 := rfl
theorem sz112 : (⟨#[112]⟩ : ByteArray).size = 1 := rfl
theorem sz117 : (⟨#[117]⟩ : ByteArray).size = 1 := rfl
theorem sz118 : (⟨#[118]⟩ : ByteArray).size = 1 := rfl
/-! ### contracts in the print's form: depot.Check, items.val -/
def okL (l : List ByteArray) : Bool := decide (l.length ≤ 4000) && l.all (fun s => decide (s.size ≤ 4000))
def items_val.f (l0 : List ByteArray) : Option ByteArray := if okL l0 = true then some (listB l0) else none
theorem items_val.calls (A0 : Option Addr) (c0 : Nat) (l0 : List ByteArray) (r : ByteArray) (w : World) (hr0 : Kd.C Kd.string w A0 l0.length l0) (hc0 : l0.length ≤ c0) (h : items_val.f l0 = some r) :
  Calls Tryz.prog 13 #[.slice A0 l0.length c0] w fun e w' => e = .returned (.string r) ∧ Below w.heap.size w w' := by
 unfold items_val.f at h
 split at h
 ·rename_i hk
  obtain rfl := Option.some.inj h
  unfold okL at hk
  simp only [Bool.and_eq_true, decide_eq_true_eq, List.all_eq_true] at hk
  exact val0 A0 c0 l0 w hr0 hk.1 (fun s hs => hk.2 s hs)
 ·cases h
end Go.Proofs.YtafeepdlcilicaaGreat.Q

-- I1
namespace Go.Proofs.YtafeepdlcilicaaGreat.Q
open Go.WideMaps Go.RowKit Go.Proofs.YtafeepdlcilicaaGreatW.PrintWords Go.Proofs.YtafeepdlcilicaaGreatW.PrintLast Go.Proofs.YtafeepdlcilicaaGreatW.PrintMore Go.Maps
set_option linter.unusedVariables false
set_option linter.unusedSimpArgs false

/-! ### a depot's items in plain words -/
def numB8 (n : Int) : ByteArray := num8 (IntKind.u64.wrap n)
def markI (m : Bool) : Int := if m = true then 1 else 0
def verName (nm key : ByteArray) (id : Int) : ByteArray := (((((⟨#[118]⟩ : ByteArray) ++ nm) ++ (⟨#[10]⟩ : ByteArray)) ++ key) ++ (⟨#[10]⟩ : ByteArray)) ++ num8 id
def verItem (nm key : ByteArray) (n i : Nat) (v : S80) : S43 := ⟨verName nm key v.f0, listB [numB8 ((n : Int) - 1 - i), numB8 v.f3, numB8 (markI v.f2), v.f1]⟩
def verFrom (nm key : ByteArray) (n : Nat) : Nat → List S80 → List S43
 | _, [] => []
 | i, v :: vs => verItem nm key n i v :: verFrom nm key n (i + 1) vs
def versL (nm : ByteArray) (x : S38) : List S43 := verFrom nm x.f0 x.f1.length 0 x.f1
def upId (nm : ByteArray) (id : Int) : ByteArray := (nm ++ (⟨#[10]⟩ : ByteArray)) ++ num8 id
def partItem (id : ByteArray) (p : S82) : S43 := ⟨((⟨#[112]⟩ : ByteArray) ++ id) ++ numB8 p.f0, listB [p.f1]⟩
def upItems (nm : ByteArray) (u : S41) : List S43 := ⟨(⟨#[117]⟩ : ByteArray) ++ upId nm u.f0, listB [u.f1]⟩ :: u.f2.map (partItem (upId nm u.f0))
def upsL (nm : ByteArray) (l : List S41) : List S43 := l.flatMap (upItems nm)
def bItem (b : S35) : S43 := ⟨(⟨#[98]⟩ : ByteArray) ++ b.f0, listB [numB8 b.f1, num8 b.f4]⟩
def bItems (b : S35) : List S43 := bItem b :: (b.f2.flatMap (versL b.f0) ++ upsL b.f0 b.f3)
def tItem (now : Int) : S43 := ⟨⟨#[116]⟩, listB [numB8 now]⟩
def depL (now : Int) (l : List S35) : List S43 := tItem now :: l.flatMap bItems

theorem num_ge (n : Int) (k : Nat) (hk : 9 ≤ k) : wire_Num.f k n = some (num8 n) := by
 obtain ⟨d, rfl⟩ : ∃ d, k = 9 + d := ⟨k - 9, by omega⟩
 exact fuel_up (fun k => wire_Num.mono n k) (num8_eq n) d
theorem inum_ge (n : Int) (k : Nat) (hk : 9 ≤ k) : items_num.f k n = some (numB8 n) := by
 unfold items_num.f
 rw [num_ge _ k hk]
 rfl
theorem okL_1 {s : ByteArray} (h : s.size ≤ 4000) : items_val.f [s] = some (listB [s]) := by
 unfold items_val.f okL
 rw [if_pos (by simp [h])]
theorem okL_2 {a b : ByteArray} (h : a.size ≤ 4000) (h2 : b.size ≤ 4000) : items_val.f [a, b] = some (listB [a, b]) := by
 unfold items_val.f okL
 rw [if_pos (by simp [h, h2])]
theorem okL_4 {a b c d : ByteArray} (h : a.size ≤ 4000) (h2 : b.size ≤ 4000) (h3 : c.size ≤ 4000) (h4 : d.size ≤ 4000) : items_val.f [a, b, c, d] = some (listB [a, b, c, d]) := by
 unfold items_val.f okL
 rw [if_pos (by simp [h, h2, h3, h4])]
theorem numB8_size (n : Int) : (numB8 n).size = 8 := rfl
theorem verFrom_len (nm key : ByteArray) (n : Nat) : ∀ (vs : List S80) (i : Nat), (verFrom nm key n i vs).length = vs.length
 | [], _ => rfl
 | v :: vs, i => by show (_ :: _).length = _; rw [List.length_cons, verFrom_len nm key n vs (i + 1), List.length_cons]
theorem upItems_len (nm : ByteArray) (u : S41) : (upItems nm u).length = u.f2.length + 1 := by unfold upItems; rw [List.length_cons, List.length_map]
theorem flat_snoc {α β : Type} (f : α → List β) (l : List α) (k : Nat) (h : k < l.length) : (l.take (k + 1)).flatMap f = (l.take k).flatMap f ++ f l[k] := by
 rw [List.take_succ_eq_append_getElem h, List.flatMap_append]; simp
theorem flat_le {α β : Type} (f : α → List β) (m : Nat) : ∀ l : List α, (∀ x ∈ l, (f x).length ≤ m) → (l.flatMap f).length ≤ m * l.length
 | [], _ => by simp
 | x :: l, h => by
  rw [List.flatMap_cons, List.length_append, List.length_cons, Nat.mul_succ]
  have h1 := h x List.mem_cons_self
  have h2 := flat_le f m l (fun y hy => h y (List.mem_cons_of_mem _ hy))
  omega
theorem verFrom_snoc (nm key : ByteArray) (n : Nat) : ∀ (vs : List S80) (i k : Nat) (h : k < vs.length), verFrom nm key n i (vs.take (k + 1)) = verFrom nm key n i (vs.take k) ++ [verItem nm key n (i + k) vs[k]]
 | [], _, _, h => absurd h (Nat.not_lt_zero _)
 | v :: vs, i, 0, _ => rfl
 | v :: vs, i, k + 1, h => by
  have := verFrom_snoc nm key n vs (i + 1) k (Nat.lt_of_succ_lt_succ h)
  show verItem nm key n i v :: verFrom nm key n (i + 1) (vs.take (k + 1)) = _
  rw [this, Nat.add_right_comm i 1 k]; rfl
theorem strs_new (W : World) (l : List ByteArray) (hn : l.length ≤ 1000) : Kd.C Kd.string (W.alloc (.cells (l.map Value.string).toArray 9)) (some ⟨W.heap.size, 0, none⟩) l.length l := by
 refine ⟨rfl, by omega, fun _ => ⟨_, rfl, fun j x hx => ⟨[.string x], rfl, rfl, fun i u hu => ?_⟩⟩⟩
 have hi : i = 0 := by
  have := (List.getElem?_eq_some_iff.1 hu).1
  simpa using this
 subst hi
 have := raw_new W (l.map Value.string).toArray 9 W.heap.size rfl j (.string x) (by simp [hx])
 have hu' : u = .string x := by simpa using hu.symm
 subst hu'
 show (W.alloc _).cell? (Addr.add ⟨W.heap.size, 0, none⟩ (j * 1 + 0)) = _
 rw [Nat.mul_one]
 exact this
end Go.Proofs.YtafeepdlcilicaaGreat.Q

-- V1
namespace Go.Proofs.YtafeepdlcilicaaGreat.Q
open Go.WideMaps Go.RowKit Go.Proofs.YtafeepdlcilicaaGreatW.PrintWords Go.Proofs.YtafeepdlcilicaaGreatW.PrintLast Go.Proofs.YtafeepdlcilicaaGreatW.PrintMore Go.Maps
set_option linter.unusedVariables false
set_option linter.unusedSimpArgs false
open List (getElem_toArray getElem_cons_zero getElem_cons_succ setIfInBounds_toArray set_cons_zero set_cons_succ)

/-! ### items.versions -/
attribute [local go_sem] Oper.semAt_some
theorem appI {ops : Array Oper} {rest : List Oper} {o : Oper} {a : Act} {Q : Exit → Act → World → Prop} {w0 W : World} (base : Nat) (hgd : o.guard = none) (s x : Operand) (ho : o.op = .call { callee := .builtin .append, args := #[s, x], argTypes := #[26, 26] })
  (v : Value) (xs ys : List S43) (A : Option Addr) (m c : Nat) (ok : Nat → Prop) (hs : a.eval s = v) (hx : a.eval x = .slice A m c) (HO : Kd.R k43 43 W base ok v xs) (HR : Kd.C k43 W A m ys) (hfresh : ∀ k, W.heap.size ≤ k → ok k) (HB : Below base w0 W) (hbase : base ≤ W.heap.size) (hl : xs.length + m ≤ 1000000)
  (h : ∀ v1 w1, Kd.R k43 43 w1 base ok v1 (xs ++ ys) → Below base w0 w1 → W.grownBy w1 v.ownBlock → (v1.ownBlock = v.ownBlock ∨ ∃ b, v1.ownBlock = some b ∧ W.heap.size ≤ b) → wpList Tryz.prog ops Q rest (a.put o.dst v1) w1) :
  wpList Tryz.prog ops Q (o :: rest) a W :=
 Kd.R_append_rows k43 base hgd s x 26 43 (.agg #[(.string ⟨#[]⟩), (.string ⟨#[]⟩)]) 32 ho Tryz.underlying26 info43 rfl (by decide) (by decide) v xs ys A m c ok (fun _ => False) hs hx HO HR (fun _ _ h => h) (fun _ h => h.elim) hfresh HB hbase (by omega) h
set_option maxHeartbeats 16000000 in
set_option maxRecDepth 100000 in
theorem versions.walk (nm key : ByteArray) (st la : Int) (A2 A3 : Option Addr) (n2 n3 c2 c3 : Nat) (A : Option Addr) (c : Nat) (vs : List S80) (w : World) (hr : Kd.C k80 w A vs.length vs) (hn : nm.size ≤ 20) (hk : key.size ≤ 60) (hl : vs.length ≤ 20) (hv : ∀ v ∈ vs, v.f1.size ≤ 2000) :
  Calls Tryz.prog 16 #[.agg #[.string nm, .int .i64 st, .slice A2 n2 c2, .slice A3 n3 c3, .int .u64 la], .agg #[.string key, .slice A vs.length c]] w fun e w' => ∃ v0, e = .returned v0 ∧ Kd.R k43 43 w' w.heap.size (fun _ => True) v0 (verFrom nm key vs.length 0 vs) ∧ Below w.heap.size w w' := by
 have HR := Lib.hid hr
 clear hr
 have HB0 := Lib.hid ((Below.refl w.heap.size w).alloc (Nat.le_refl _) (.cells #[.string nm, .int .i64 st, .slice A2 n2 c2, .slice A3 n3 c3, .int .u64 la] 35))
 have K0 := Lib.hid (blk_new w (.cells #[.string nm, .int .i64 st, .slice A2 n2 c2, .slice A3 n3 c3, .int .u64 la] 35))
 have HB1 := Lib.hid (HB0.out.alloc HB0.out.size (.cells #[.string key, .slice A vs.length c] 38))
 have K01 := Lib.hid (blk_alloc K0.out (.cells #[.string key, .slice A vs.length c] 38))
 have K02 := Lib.hid (blk_new (w.alloc (.cells #[.string nm, .int .i64 st, .slice A2 n2 c2, .slice A3 n3 c3, .int .u64 la] 35)) (.cells #[.string key, .slice A vs.length c] 38))
 go_enter Tryz.func16, Tryz.ntmps16
 go_wp2
 go_loopw [5, 12] (fun v i wr => ∃ (k : Nat), i = .int .i64 k ∧ k ≤ vs.length ∧ Hid (Kd.R k43 43 wr w.heap.size (fun _ => True) v (verFrom nm key vs.length 0 (vs.take k))) ∧ Hid (wr.heap[w.heap.size]? = some (.cells #[.string nm, .int .i64 st, .slice A2 n2 c2, .slice A3 n3 c3, .int .u64 la] 35 (0, 0))) ∧ Hid (wr.heap[w.heap.size + 1]? = some (.cells #[.string key, .slice A vs.length c] 38 (0, 0))) ∧ Hid (Below w.heap.size w wr)) (fun _ i _ => vs.length - (intOf i).toNat)
 case atStart => exact ⟨0, rfl, Nat.zero_le _, Kd.R_nil _ _ _ _ _, K01, by have := K02.out; unfold Hid; simpa using this, HB1⟩
 case round =>
  obtain ⟨k, rfl, hkl, ho, hk1, hk2, hb⟩ := hrel
  by_cases hlt : k < vs.length
  ·obtain ⟨ad, e', hc0, hc1, hc2, hc3⟩ := atVersion HR.out hb.out k hlt
   have HV1 := Lib.hid (hv _ (List.getElem_mem hlt))
   have HSN := Lib.hid (verFrom_snoc nm key vs.length vs 0 k hlt)
   have HLX : Hid ((verFrom nm key vs.length 0 (vs.take k)).length ≤ 20) := by unfold Hid; rw [verFrom_len, List.length_take]; omega
   have HSQ : Hid (items_num.f 9 (IntKind.i64.wrap (IntKind.i64.wrap ((vs.length : Int) - 1) - (k : Int))) = some (numB8 ((vs.length : Int) - 1 - k))) := by
    unfold Hid
    rw [show IntKind.i64.wrap ((vs.length : Int) - 1) = (vs.length : Int) - 1 from IntWalk.i64_in _ (by omega), show IntKind.i64.wrap ((vs.length : Int) - 1 - (k : Int)) = (vs.length : Int) - 1 - k from IntWalk.i64_in _ (by omega)]
    exact inum_ge _ 9 (Nat.le_refl _)
   subst e'
   generalize vs[k] = v at *
   generalize hXS : verFrom nm key vs.length 0 (vs.take k) = XS at *
   obtain ⟨mk, hmk⟩ : ∃ mk, markI v.f2 = mk := ⟨_, rfl⟩
   have HSM : Hid (verFrom nm key vs.length 0 (vs.take (k + 1)) = XS ++ [⟨verName nm key v.f0, listB [numB8 ((vs.length : Int) - 1 - k), numB8 v.f3, numB8 mk, v.f1]⟩]) := by
    unfold Hid; rw [HSN.out, ← hmk]; unfold verItem; rw [Nat.zero_add]
   have HOX := Lib.hid (Kd.R_below (Kd.R_below ho.out (belowA wr (.cells #[.int .u64 v.f0, .string v.f1, .bool v.f2, .int .i64 v.f3] 80))) (below_drew (Below.refl _ _)))
   have K1X := Lib.hid (blk_drew (blk_alloc hk1.out (.cells #[.int .u64 v.f0, .string v.f1, .bool v.f2, .int .i64 v.f3] 80)))
   have K2X := Lib.hid (blk_drew (blk_alloc hk2.out (.cells #[.int .u64 v.f0, .string v.f1, .bool v.f2, .int .i64 v.f3] 80)))
   have KVX := Lib.hid (blk_drew (blk_new wr (.cells #[.int .u64 v.f0, .string v.f1, .bool v.f2, .int .i64 v.f3] 80)))
   have HBX := Lib.hid ((hb.out.alloc hb.out.size (.cells #[.int .u64 v.f0, .string v.f1, .bool v.f2, .int .i64 v.f3] 80)).drew)
   generalize hgv : wr.heap.size = gv at *
   clear HSN hkl
   generalize v.f2 = mm at *
   have gs1 : (9223372036854775807 < 1 + nm.size) = False := eq_false (by omega)
   have gs2 : (9223372036854775807 < 1 + nm.size + 1) = False := eq_false (by omega)
   have gs3 : (9223372036854775807 < 1 + nm.size + 1 + key.size) = False := eq_false (by omega)
   have gs4 : (9223372036854775807 < 1 + nm.size + 1 + key.size + 1) = False := eq_false (by omega)
   have gs5 : (9223372036854775807 < 1 + nm.size + 1 + key.size + 1 + (num8 v.f0).size) = False := eq_false (by rw [num8_size]; omega)
   cases mm
   ·skip
    have HMK := Lib.hid (show items_num.f 9 _ = some (numB8 mk) from by rw [← hmk]; exact inum_ge _ 9 (Nat.le_refl _))
    clear hmk
    go_wp2
    refine wp_region_held_drew (S := fun W => W.cell? ⟨w.heap.size, 0, none⟩ = some (.string nm) ∧ W.cell? ⟨w.heap.size + 1, 0, none⟩ = some (.string key) ∧ W.cell? ⟨w.heap.size + 1, 1, none⟩ = some (.slice (some ad) vs.length c) ∧ W.cell? ⟨gv, 0, none⟩ = some (.int .u64 v.f0) ∧ W.cell? ⟨gv, 1, none⟩ = some (.string v.f1) ∧ W.cell? ⟨gv, 3, none⟩ = some (.int .i64 v.f3)) (by kernel_rfl) ?_ (fun hHeld => ?_)
    ·exact ⟨(blk_cell K1X.out 0).trans rfl, (blk_cell K2X.out 0).trans rfl, (blk_cell K2X.out 1).trans rfl, (blk_cell KVX.out 0).trans rfl, (blk_cell KVX.out 1).trans rfl, (blk_cell KVX.out 3).trans rfl⟩
    generalize (wr.alloc (.cells #[.int .u64 v.f0, .string v.f1, .bool v.f2, .int .i64 v.f3] 80)).drew = w7 at HOX K1X K2X KVX HBX hHeld ⊢
    refine tk (i := 0) (v := ?v0g1) rfl hHeld (Or.inl ⟨rfl, ?y0g1⟩) ?r0g1
    case y0g1 => (intro w h; obtain ⟨s0, s1, s2, s3, s4, s5⟩ := h; go_simp; try with_reducible rfl)
    try simp only [getElem_toArray, getElem_cons_zero, getElem_cons_succ, Act.put, setIfInBounds_toArray, set_cons_zero, set_cons_succ]
    refine tk (i := 1) (v := ?v1g1) rfl hHeld (Or.inl ⟨rfl, ?y1g1⟩) ?r1g1
    case y1g1 => (intro w h; obtain ⟨s0, s1, s2, s3, s4, s5⟩ := h; go_simp; try with_reducible rfl)
    try simp only [getElem_toArray, getElem_cons_zero, getElem_cons_succ, Act.put, setIfInBounds_toArray, set_cons_zero, set_cons_succ]
    refine tk (i := 2) (v := ?v2g1) rfl hHeld (Or.inl ⟨rfl, ?y2g1⟩) ?r2g1
    case y2g1 => (intro w h; obtain ⟨s0, s1, s2, s3, s4, s5⟩ := h; go_simp; try with_reducible rfl)
    try simp only [getElem_toArray, getElem_cons_zero, getElem_cons_succ, Act.put, setIfInBounds_toArray, set_cons_zero, set_cons_succ]
    refine tk (i := 3) (v := ?v3g1) rfl hHeld (Or.inl ⟨rfl, ?y3g1⟩) ?r3g1
    case y3g1 => (intro w h; obtain ⟨s0, s1, s2, s3, s4, s5⟩ := h; go_simp; try with_reducible rfl)
    try simp only [getElem_toArray, getElem_cons_zero, getElem_cons_succ, Act.put, setIfInBounds_toArray, set_cons_zero, set_cons_succ]
    refine tk (i := 4) (v := ?v4g1) rfl hHeld (Or.inl ⟨rfl, ?y4g1⟩) ?r4g1
    case y4g1 => (intro w h; obtain ⟨s0, s1, s2, s3, s4, s5⟩ := h; go_simp; try with_reducible rfl)
    try simp only [getElem_toArray, getElem_cons_zero, getElem_cons_succ, Act.put, setIfInBounds_toArray, set_cons_zero, set_cons_succ]
    refine tk (i := 5) (v := ?v5g1) rfl hHeld (Or.inl ⟨rfl, ?y5g1⟩) ?r5g1
    case y5g1 => (intro w h; obtain ⟨s0, s1, s2, s3, s4, s5⟩ := h; go_simp; try with_reducible rfl)
    try simp only [getElem_toArray, getElem_cons_zero, getElem_cons_succ, Act.put, setIfInBounds_toArray, set_cons_zero, set_cons_succ]
    refine tk (i := 6) (v := ?v6g1) rfl hHeld (Or.inl ⟨rfl, ?y6g1⟩) ?r6g1
    case y6g1 => (intro w h; obtain ⟨s0, s1, s2, s3, s4, s5⟩ := h; go_simp; try with_reducible rfl)
    try simp only [getElem_toArray, getElem_cons_zero, getElem_cons_succ, Act.put, setIfInBounds_toArray, set_cons_zero, set_cons_succ]
    refine tk (i := 7) (v := ?v7g1) rfl hHeld (Or.inl ⟨rfl, ?y7g1⟩) ?r7g1
    case y7g1 => (intro w h; obtain ⟨s0, s1, s2, s3, s4, s5⟩ := h; go_simp; try with_reducible rfl)
    try simp only [getElem_toArray, getElem_cons_zero, getElem_cons_succ, Act.put, setIfInBounds_toArray, set_cons_zero, set_cons_succ]
    refine tk (i := 8) (v := ?v8g1) rfl hHeld (Or.inl ⟨rfl, ?y8g1⟩) ?r8g1
    case y8g1 => (intro w h; obtain ⟨s0, s1, s2, s3, s4, s5⟩ := h; go_simp; try with_reducible rfl)
    try simp only [getElem_toArray, getElem_cons_zero, getElem_cons_succ, Act.put, setIfInBounds_toArray, set_cons_zero, set_cons_succ]
    refine tk (i := 9) (v := ?v9g1) rfl hHeld (Or.inl ⟨rfl, ?y9g1⟩) ?r9g1
    case y9g1 => (intro w h; obtain ⟨s0, s1, s2, s3, s4, s5⟩ := h; go_simp; try with_reducible rfl)
    try simp only [getElem_toArray, getElem_cons_zero, getElem_cons_succ, Act.put, setIfInBounds_toArray, set_cons_zero, set_cons_succ]
    refine tk (i := 10) (v := ?v10g1) rfl hHeld (Or.inl ⟨rfl, ?y10g1⟩) ?r10g1
    case y10g1 => (intro w h; obtain ⟨s0, s1, s2, s3, s4, s5⟩ := h; go_simp; try with_reducible rfl)
    try simp only [getElem_toArray, getElem_cons_zero, getElem_cons_succ, Act.put, setIfInBounds_toArray, set_cons_zero, set_cons_succ]
    refine tk (i := 13) (v := ?v13g1) rfl hHeld (Or.inl ⟨rfl, ?y13g1⟩) ?r13g1
    case y13g1 => (intro w h; obtain ⟨s0, s1, s2, s3, s4, s5⟩ := h; go_simp; try with_reducible rfl)
    try simp only [getElem_toArray, getElem_cons_zero, getElem_cons_succ, Act.put, setIfInBounds_toArray, set_cons_zero, set_cons_succ]
    refine tk (i := 14) (v := ?v14g1) rfl hHeld (Or.inl ⟨rfl, ?y14g1⟩) ?r14g1
    case y14g1 => (intro w h; obtain ⟨s0, s1, s2, s3, s4, s5⟩ := h; go_simp; try with_reducible rfl)
    try simp only [getElem_toArray, getElem_cons_zero, getElem_cons_succ, Act.put, setIfInBounds_toArray, set_cons_zero, set_cons_succ]
    refine tk (i := 15) (v := ?v15g1) rfl hHeld (Or.inl ⟨rfl, ?y15g1⟩) ?r15g1
    case y15g1 => (intro w h; obtain ⟨s0, s1, s2, s3, s4, s5⟩ := h; go_simp; try with_reducible rfl)
    try simp only [getElem_toArray, getElem_cons_zero, getElem_cons_succ, Act.put, setIfInBounds_toArray, set_cons_zero, set_cons_succ]
    refine tk (i := 16) (v := ?v16g1) rfl hHeld (Or.inl ⟨rfl, ?y16g1⟩) ?r16g1
    case y16g1 => (intro w h; obtain ⟨s0, s1, s2, s3, s4, s5⟩ := h; go_simp; try with_reducible rfl)
    try simp only [getElem_toArray, getElem_cons_zero, getElem_cons_succ, Act.put, setIfInBounds_toArray, set_cons_zero, set_cons_succ]
    refine tk (i := 17) (v := ?v17g1) rfl hHeld (Or.inl ⟨rfl, ?y17g1⟩) ?r17g1
    case y17g1 => (intro w h; obtain ⟨s0, s1, s2, s3, s4, s5⟩ := h; go_simp; try with_reducible rfl)
    try simp only [getElem_toArray, getElem_cons_zero, getElem_cons_succ, Act.put, setIfInBounds_toArray, set_cons_zero, set_cons_succ]
    refine tk (i := 18) (v := ?v18g1) rfl hHeld (Or.inl ⟨rfl, ?y18g1⟩) ?r18g1
    case y18g1 => (intro w h; obtain ⟨s0, s1, s2, s3, s4, s5⟩ := h; go_simp; try with_reducible rfl)
    try simp only [getElem_toArray, getElem_cons_zero, getElem_cons_succ, Act.put, setIfInBounds_toArray, set_cons_zero, set_cons_succ]
    refine tk (i := 20) (v := ?v20g1) rfl hHeld (Or.inl ⟨rfl, ?y20g1⟩) ?r20g1
    case y20g1 => (intro w h; obtain ⟨s0, s1, s2, s3, s4, s5⟩ := h; go_simp; try with_reducible rfl)
    try simp only [getElem_toArray, getElem_cons_zero, getElem_cons_succ, Act.put, setIfInBounds_toArray, set_cons_zero, set_cons_succ]
    refine tk (i := 21) (v := ?v21g1) rfl hHeld (Or.inl ⟨rfl, ?y21g1⟩) ?r21g1
    case y21g1 => (intro w h; obtain ⟨s0, s1, s2, s3, s4, s5⟩ := h; go_simp; try with_reducible rfl)
    try simp only [getElem_toArray, getElem_cons_zero, getElem_cons_succ, Act.put, setIfInBounds_toArray, set_cons_zero, set_cons_succ]
    refine tk (i := 23) (v := ?v23g1) rfl hHeld (Or.inl ⟨rfl, ?y23g1⟩) ?r23g1
    case y23g1 => (intro w h; obtain ⟨s0, s1, s2, s3, s4, s5⟩ := h; go_simp; try with_reducible rfl)
    try simp only [getElem_toArray, getElem_cons_zero, getElem_cons_succ, Act.put, setIfInBounds_toArray, set_cons_zero, set_cons_succ]
    refine tk (i := 25) (v := ?v25g1) rfl hHeld (Or.inl ⟨rfl, ?y25g1⟩) ?r25g1
    case y25g1 => (intro w h; obtain ⟨s0, s1, s2, s3, s4, s5⟩ := h; go_simp; try with_reducible rfl)
    try simp only [getElem_toArray, getElem_cons_zero, getElem_cons_succ, Act.put, setIfInBounds_toArray, set_cons_zero, set_cons_succ]
    refine tk (i := 26) (v := ?v26g1) rfl hHeld (Or.inl ⟨rfl, ?y26g1⟩) ?r26g1
    case y26g1 => (intro w h; obtain ⟨s0, s1, s2, s3, s4, s5⟩ := h; go_simp; try with_reducible rfl)
    try simp only [getElem_toArray, getElem_cons_zero, getElem_cons_succ, Act.put, setIfInBounds_toArray, set_cons_zero, set_cons_succ]
    refine wpAnyH_ready (rs := [11]) (by kernel_rfl) (by simp) ?_
    refine AllReadyH.cons (o := _) rfl (fun K hK => ?_) AllReadyH.nil
    rw [if_pos (by rfl)]
    go_simp
    obtain ⟨s0, s1, s2, s3, s4, s5⟩ := hHeld
    refine (wire_Num.calls 9 _ _ _ (num_ge v.f0 9 (Nat.le_refl _))).mono ?_
    rintro e8 w8 ⟨rfl, hb8⟩
    replace HOX := Lib.hid (Kd.R_below HOX.out hb8)
    replace K1X := Lib.hid (blk_below K1X.out hb8)
    replace K2X := Lib.hid (blk_below K2X.out hb8)
    replace KVX := Lib.hid (blk_below KVX.out hb8)
    replace HBX := keepB HBX hb8
    refine hK.out _ _ ⟨keepc hb8 s0, keepc hb8 s1, keepc hb8 s2, keepc hb8 s3, keepc hb8 s4, keepc hb8 s5⟩ (fun hHeld => ?_)
    clear hK K hb8 s0 s1 s2 s3 s4 s5
    try simp only [getElem_toArray, getElem_cons_zero, getElem_cons_succ, Act.put, setIfInBounds_toArray, set_cons_zero, set_cons_succ]
    refine tk (i := 12) (v := ?v12g1) rfl hHeld (Or.inl ⟨rfl, ?y12g1⟩) ?r12g1
    case y12g1 => (intro w h; obtain ⟨s0, s1, s2, s3, s4, s5⟩ := h; go_simp; try with_reducible rfl)
    try simp only [getElem_toArray, getElem_cons_zero, getElem_cons_succ, Act.put, setIfInBounds_toArray, set_cons_zero, set_cons_succ]
    refine wpAnyH_ready (rs := [19]) (by kernel_rfl) (by simp) ?_
    refine AllReadyH.cons (o := _) rfl (fun K hK => ?_) AllReadyH.nil
    rw [if_pos (by rfl)]
    go_simp
    obtain ⟨s0, s1, s2, s3, s4, s5⟩ := hHeld
    refine (items_num.calls 9 _ _ _ HSQ.out).mono ?_
    rintro e8 w8 ⟨rfl, hb8⟩
    replace HOX := Lib.hid (Kd.R_below HOX.out hb8)
    replace K1X := Lib.hid (blk_below K1X.out hb8)
    replace K2X := Lib.hid (blk_below K2X.out hb8)
    replace KVX := Lib.hid (blk_below KVX.out hb8)
    replace HBX := keepB HBX hb8
    refine hK.out _ _ ⟨keepc hb8 s0, keepc hb8 s1, keepc hb8 s2, keepc hb8 s3, keepc hb8 s4, keepc hb8 s5⟩ (fun hHeld => ?_)
    clear hK K hb8 s0 s1 s2 s3 s4 s5
    try simp only [getElem_toArray, getElem_cons_zero, getElem_cons_succ, Act.put, setIfInBounds_toArray, set_cons_zero, set_cons_succ]
    refine wpAnyH_ready (rs := [22]) (by kernel_rfl) (by simp) ?_
    refine AllReadyH.cons (o := _) rfl (fun K hK => ?_) AllReadyH.nil
    rw [if_pos (by rfl)]
    go_simp
    obtain ⟨s0, s1, s2, s3, s4, s5⟩ := hHeld
    refine (items_num.calls 9 _ _ _ (inum_ge v.f3 9 (Nat.le_refl _))).mono ?_
    rintro e8 w8 ⟨rfl, hb8⟩
    replace HOX := Lib.hid (Kd.R_below HOX.out hb8)
    replace K1X := Lib.hid (blk_below K1X.out hb8)
    replace K2X := Lib.hid (blk_below K2X.out hb8)
    replace KVX := Lib.hid (blk_below KVX.out hb8)
    replace HBX := keepB HBX hb8
    refine hK.out _ _ ⟨keepc hb8 s0, keepc hb8 s1, keepc hb8 s2, keepc hb8 s3, keepc hb8 s4, keepc hb8 s5⟩ (fun hHeld => ?_)
    clear hK K hb8 s0 s1 s2 s3 s4 s5
    try simp only [getElem_toArray, getElem_cons_zero, getElem_cons_succ, Act.put, setIfInBounds_toArray, set_cons_zero, set_cons_succ]
    refine wpAnyH_ready (rs := [24]) (by kernel_rfl) (by simp) ?_
    refine AllReadyH.cons (o := _) rfl (fun K hK => ?_) AllReadyH.nil
    rw [if_pos (by rfl)]
    go_simp
    obtain ⟨s0, s1, s2, s3, s4, s5⟩ := hHeld
    refine (items_num.calls 9 _ _ _ HMK.out).mono ?_
    rintro e8 w8 ⟨rfl, hb8⟩
    replace HOX := Lib.hid (Kd.R_below HOX.out hb8)
    replace K1X := Lib.hid (blk_below K1X.out hb8)
    replace K2X := Lib.hid (blk_below K2X.out hb8)
    replace KVX := Lib.hid (blk_below KVX.out hb8)
    replace HBX := keepB HBX hb8
    refine hK.out _ _ ⟨keepc hb8 s0, keepc hb8 s1, keepc hb8 s2, keepc hb8 s3, keepc hb8 s4, keepc hb8 s5⟩ (fun hHeld => ?_)
    clear hK K hb8 s0 s1 s2 s3 s4 s5
    try simp only [getElem_toArray, getElem_cons_zero, getElem_cons_succ, Act.put, setIfInBounds_toArray, set_cons_zero, set_cons_succ]
    refine wpAnyH_ready (rs := [27]) (by kernel_rfl) (by simp) ?_
    refine AllReadyH.cons (o := _) rfl (fun K hK => ?_) AllReadyH.nil
    rw [if_pos (by rfl)]
    go_simp
    obtain ⟨s0, s1, s2, s3, s4, s5⟩ := hHeld
    have hb8 := belowA w8 (.cells #[.string (numB8 ((vs.length : Int) - 1 - k)), .string (numB8 v.f3), .string (numB8 mk), .string (v.f1)] 9)
    have HST := Lib.hid (strs_new w8 [numB8 ((vs.length : Int) - 1 - k), numB8 v.f3, numB8 mk, v.f1] (by simp))
    replace HOX := Lib.hid (Kd.R_below HOX.out hb8)
    replace K1X := Lib.hid (blk_below K1X.out hb8)
    replace K2X := Lib.hid (blk_below K2X.out hb8)
    replace KVX := Lib.hid (blk_below KVX.out hb8)
    replace HBX := keepB HBX hb8
    have HSS := Lib.hid (⟨keepc hb8 s0, keepc hb8 s1, keepc hb8 s2, keepc hb8 s3, keepc hb8 s4, keepc hb8 s5⟩ : (_ ∧ _ ∧ _ ∧ _ ∧ _ ∧ _))
    clear hb8 s0 s1 s2 s3 s4 s5
    generalize hw9 : w8.alloc (.cells #[.string (numB8 ((vs.length : Int) - 1 - k)), .string (numB8 v.f3), .string (numB8 mk), .string (v.f1)] 9) = w9 at HST HOX K1X K2X KVX HBX HSS ⊢
    generalize hg9 : w8.heap.size = g9 at HST ⊢
    have HST2 : Hid (Kd.C Kd.string w9 (some ⟨g9, 0, none⟩) 4 [numB8 ((vs.length : Int) - 1 - k), numB8 v.f3, numB8 mk, v.f1]) := Lib.hid (by have := HST.out; rw [← hw9]; simpa using this)
    refine hK.out _ _ HSS.out (fun hHeld => ?_)
    clear hK K HSS HST hw9 hg9
    try simp only [getElem_toArray, getElem_cons_zero, getElem_cons_succ, Act.put, setIfInBounds_toArray, set_cons_zero, set_cons_succ]
    refine wpAnyH_ready (rs := [28]) (by kernel_rfl) (by simp) ?_
    refine AllReadyH.cons (o := _) rfl (fun K hK => ?_) AllReadyH.nil
    rw [if_pos (by rfl)]
    go_simp
    obtain ⟨s0, s1, s2, s3, s4, s5⟩ := hHeld
    refine (items_val.calls _ _ [numB8 ((vs.length : Int) - 1 - k), numB8 v.f3, numB8 mk, v.f1] _ _ HST2.out (Nat.le_refl _) (okL_4 (by rw [numB8_size]; decide) (by rw [numB8_size]; decide) (by rw [numB8_size]; decide) (by have := HV1.out; omega))).mono ?_
    rintro e8 w8 ⟨rfl, hb8⟩
    replace HOX := Lib.hid (Kd.R_below HOX.out hb8)
    replace K1X := Lib.hid (blk_below K1X.out hb8)
    replace K2X := Lib.hid (blk_below K2X.out hb8)
    replace KVX := Lib.hid (blk_below KVX.out hb8)
    replace HBX := keepB HBX hb8
    clear HST2
    refine hK.out _ _ ⟨keepc hb8 s0, keepc hb8 s1, keepc hb8 s2, keepc hb8 s3, keepc hb8 s4, keepc hb8 s5⟩ (fun hHeld => ?_)
    clear hK K hb8 s0 s1 s2 s3 s4 s5
    try simp only [getElem_toArray, getElem_cons_zero, getElem_cons_succ, Act.put, setIfInBounds_toArray, set_cons_zero, set_cons_succ]
    refine tk (i := 29) (v := ?v29g1) rfl hHeld (Or.inl ⟨rfl, ?y29g1⟩) ?r29g1
    case y29g1 => (intro w h; obtain ⟨s0, s1, s2, s3, s4, s5⟩ := h; go_simp; try with_reducible rfl)
    try simp only [getElem_toArray, getElem_cons_zero, getElem_cons_succ, Act.put, setIfInBounds_toArray, set_cons_zero, set_cons_succ]
    refine wpAnyH_ready (rs := [30]) (by kernel_rfl) (by simp) ?_
    refine AllReadyH.cons (o := _) rfl (fun K hK => ?_) AllReadyH.nil
    rw [if_pos (by rfl)]
    go_simp
    have hHeld0 := hHeld
    obtain ⟨s0, s1, s2, s3, s4, s5⟩ := hHeld
    refine hK.out _ _ ⟨keepc (belowA _ _) s0, keepc (belowA _ _) s1, keepc (belowA _ _) s2, keepc (belowA _ _) s3, keepc (belowA _ _) s4, keepc (belowA _ _) s5⟩ (fun hHeld => ?_)
    clear hK K s0 s1 s2 s3 s4 s5
    try simp only [getElem_toArray, getElem_cons_zero, getElem_cons_succ, Act.put, setIfInBounds_toArray, set_cons_zero, set_cons_succ]
    refine wpAnyH_ready (rs := [31]) (by kernel_rfl) (by simp) ?_
    refine AllReadyH.cons (o := _) rfl (fun K hK => ?_) AllReadyH.nil
    refine Kd.R_append_step k43 (w0 := w) w.heap.size (by rfl) (.tmp 19) (.tmp 49) 26 43 (.agg #[(.string ⟨#[]⟩), (.string ⟨#[]⟩)]) 32 rfl Tryz.underlying26 info43 rfl (by decide) (by decide) u5 XS ⟨verName nm key v.f0, listB [numB8 ((vs.length : Int) - 1 - k), numB8 v.f3, numB8 mk, v.f1]⟩ [.string (verName nm key v.f0), .string (listB [numB8 ((vs.length : Int) - 1 - k), numB8 v.f3, numB8 mk, v.f1])] (fun _ => True) (fun _ => False) rfl rfl (k43_mkM _ _ _ ⟨verName nm key v.f0, listB [numB8 ((vs.length : Int) - 1 - k), numB8 v.f3, numB8 mk, v.f1]⟩) (fun _ hk => hk.elim) (fun _ _ => trivial) HOX.out HBX.out HBX.out.size (by have := HLX.out; omega) ?_
    intro v1 w10 ho hb hg hat
    have K1Y := Lib.hid (blk_grown K1X.out hg (Kd.R_ne HOX.out K1X.out (by decide)))
    have K2Y := Lib.hid (blk_grown K2X.out hg (Kd.R_ne HOX.out K2X.out (by decide)))
    have KVY := Lib.hid (blk_grown KVX.out hg (Kd.R_ne HOX.out KVX.out (by decide)))
    clear hHeld0
    refine hK.out _ _ ⟨(blk_cell K1Y.out 0).trans rfl, (blk_cell K2Y.out 0).trans rfl, (blk_cell K2Y.out 1).trans rfl, (blk_cell KVY.out 0).trans rfl, (blk_cell KVY.out 1).trans rfl, (blk_cell KVY.out 3).trans rfl⟩ (fun hHeld => ?_)
    replace HOX := Lib.hid ho
    replace HBX := Lib.hid hb
    clear hK K ho hb hg hat K1X K2X KVX KVY
    try simp only [getElem_toArray, getElem_cons_zero, getElem_cons_succ, Act.put, setIfInBounds_toArray, set_cons_zero, set_cons_succ]
    refine tk (i := 32) (v := ?v32g1) rfl hHeld (Or.inl ⟨rfl, ?y32g1⟩) ?r32g1
    case y32g1 => (intro w h; obtain ⟨s0, s1, s2, s3, s4, s5⟩ := h; go_simp; try with_reducible rfl)
    try simp only [getElem_toArray, getElem_cons_zero, getElem_cons_succ, Act.put, setIfInBounds_toArray, set_cons_zero, set_cons_succ]
    refine wpAnyH_done (by kernel_rfl) ?_ _
    go_wp2
    go_roundw
    case rel => exact ⟨k + 1, by go_num, by omega, Lib.hid (by rw [HSM.out]; exact HOX.out), K1Y, K2Y, HBX⟩
    case measure => simp [intOf]; omega
   ·skip
    have HMK := Lib.hid (show items_num.f 9 _ = some (numB8 mk) from by rw [← hmk]; exact inum_ge _ 9 (Nat.le_refl _))
    clear hmk
    go_wp2
    refine wp_region_held_drew (S := fun W => W.cell? ⟨w.heap.size, 0, none⟩ = some (.string nm) ∧ W.cell? ⟨w.heap.size + 1, 0, none⟩ = some (.string key) ∧ W.cell? ⟨w.heap.size + 1, 1, none⟩ = some (.slice (some ad) vs.length c) ∧ W.cell? ⟨gv, 0, none⟩ = some (.int .u64 v.f0) ∧ W.cell? ⟨gv, 1, none⟩ = some (.string v.f1) ∧ W.cell? ⟨gv, 3, none⟩ = some (.int .i64 v.f3)) (by kernel_rfl) ?_ (fun hHeld => ?_)
    ·exact ⟨(blk_cell K1X.out 0).trans rfl, (blk_cell K2X.out 0).trans rfl, (blk_cell K2X.out 1).trans rfl, (blk_cell KVX.out 0).trans rfl, (blk_cell KVX.out 1).trans rfl, (blk_cell KVX.out 3).trans rfl⟩
    generalize (wr.alloc (.cells #[.int .u64 v.f0, .string v.f1, .bool v.f2, .int .i64 v.f3] 80)).drew = w7 at HOX K1X K2X KVX HBX hHeld ⊢
    refine tk (i := 0) (v := ?v0g2) rfl hHeld (Or.inl ⟨rfl, ?y0g2⟩) ?r0g2
    case y0g2 => (intro w h; obtain ⟨s0, s1, s2, s3, s4, s5⟩ := h; go_simp; try with_reducible rfl)
    try simp only [getElem_toArray, getElem_cons_zero, getElem_cons_succ, Act.put, setIfInBounds_toArray, set_cons_zero, set_cons_succ]
    refine tk (i := 1) (v := ?v1g2) rfl hHeld (Or.inl ⟨rfl, ?y1g2⟩) ?r1g2
    case y1g2 => (intro w h; obtain ⟨s0, s1, s2, s3, s4, s5⟩ := h; go_simp; try with_reducible rfl)
    try simp only [getElem_toArray, getElem_cons_zero, getElem_cons_succ, Act.put, setIfInBounds_toArray, set_cons_zero, set_cons_succ]
    refine tk (i := 2) (v := ?v2g2) rfl hHeld (Or.inl ⟨rfl, ?y2g2⟩) ?r2g2
    case y2g2 => (intro w h; obtain ⟨s0, s1, s2, s3, s4, s5⟩ := h; go_simp; try with_reducible rfl)
    try simp only [getElem_toArray, getElem_cons_zero, getElem_cons_succ, Act.put, setIfInBounds_toArray, set_cons_zero, set_cons_succ]
    refine tk (i := 3) (v := ?v3g2) rfl hHeld (Or.inl ⟨rfl, ?y3g2⟩) ?r3g2
    case y3g2 => (intro w h; obtain ⟨s0, s1, s2, s3, s4, s5⟩ := h; go_simp; try with_reducible rfl)
    try simp only [getElem_toArray, getElem_cons_zero, getElem_cons_succ, Act.put, setIfInBounds_toArray, set_cons_zero, set_cons_succ]
    refine tk (i := 4) (v := ?v4g2) rfl hHeld (Or.inl ⟨rfl, ?y4g2⟩) ?r4g2
    case y4g2 => (intro w h; obtain ⟨s0, s1, s2, s3, s4, s5⟩ := h; go_simp; try with_reducible rfl)
    try simp only [getElem_toArray, getElem_cons_zero, getElem_cons_succ, Act.put, setIfInBounds_toArray, set_cons_zero, set_cons_succ]
    refine tk (i := 5) (v := ?v5g2) rfl hHeld (Or.inl ⟨rfl, ?y5g2⟩) ?r5g2
    case y5g2 => (intro w h; obtain ⟨s0, s1, s2, s3, s4, s5⟩ := h; go_simp; try with_reducible rfl)
    try simp only [getElem_toArray, getElem_cons_zero, getElem_cons_succ, Act.put, setIfInBounds_toArray, set_cons_zero, set_cons_succ]
    refine tk (i := 6) (v := ?v6g2) rfl hHeld (Or.inl ⟨rfl, ?y6g2⟩) ?r6g2
    case y6g2 => (intro w h; obtain ⟨s0, s1, s2, s3, s4, s5⟩ := h; go_simp; try with_reducible rfl)
    try simp only [getElem_toArray, getElem_cons_zero, getElem_cons_succ, Act.put, setIfInBounds_toArray, set_cons_zero, set_cons_succ]
    refine tk (i := 7) (v := ?v7g2) rfl hHeld (Or.inl ⟨rfl, ?y7g2⟩) ?r7g2
    case y7g2 => (intro w h; obtain ⟨s0, s1, s2, s3, s4, s5⟩ := h; go_simp; try with_reducible rfl)
    try simp only [getElem_toArray, getElem_cons_zero, getElem_cons_succ, Act.put, setIfInBounds_toArray, set_cons_zero, set_cons_succ]
    refine tk (i := 8) (v := ?v8g2) rfl hHeld (Or.inl ⟨rfl, ?y8g2⟩) ?r8g2
    case y8g2 => (intro w h; obtain ⟨s0, s1, s2, s3, s4, s5⟩ := h; go_simp; try with_reducible rfl)
    try simp only [getElem_toArray, getElem_cons_zero, getElem_cons_succ, Act.put, setIfInBounds_toArray, set_cons_zero, set_cons_succ]
    refine tk (i := 9) (v := ?v9g2) rfl hHeld (Or.inl ⟨rfl, ?y9g2⟩) ?r9g2
    case y9g2 => (intro w h; obtain ⟨s0, s1, s2, s3, s4, s5⟩ := h; go_simp; try with_reducible rfl)
    try simp only [getElem_toArray, getElem_cons_zero, getElem_cons_succ, Act.put, setIfInBounds_toArray, set_cons_zero, set_cons_succ]
    refine tk (i := 10) (v := ?v10g2) rfl hHeld (Or.inl ⟨rfl, ?y10g2⟩) ?r10g2
    case y10g2 => (intro w h; obtain ⟨s0, s1, s2, s3, s4, s5⟩ := h; go_simp; try with_reducible rfl)
    try simp only [getElem_toArray, getElem_cons_zero, getElem_cons_succ, Act.put, setIfInBounds_toArray, set_cons_zero, set_cons_succ]
    refine tk (i := 13) (v := ?v13g2) rfl hHeld (Or.inl ⟨rfl, ?y13g2⟩) ?r13g2
    case y13g2 => (intro w h; obtain ⟨s0, s1, s2, s3, s4, s5⟩ := h; go_simp; try with_reducible rfl)
    try simp only [getElem_toArray, getElem_cons_zero, getElem_cons_succ, Act.put, setIfInBounds_toArray, set_cons_zero, set_cons_succ]
    refine tk (i := 14) (v := ?v14g2) rfl hHeld (Or.inl ⟨rfl, ?y14g2⟩) ?r14g2
    case y14g2 => (intro w h; obtain ⟨s0, s1, s2, s3, s4, s5⟩ := h; go_simp; try with_reducible rfl)
    try simp only [getElem_toArray, getElem_cons_zero, getElem_cons_succ, Act.put, setIfInBounds_toArray, set_cons_zero, set_cons_succ]
    refine tk (i := 15) (v := ?v15g2) rfl hHeld (Or.inl ⟨rfl, ?y15g2⟩) ?r15g2
    case y15g2 => (intro w h; obtain ⟨s0, s1, s2, s3, s4, s5⟩ := h; go_simp; try with_reducible rfl)
    try simp only [getElem_toArray, getElem_cons_zero, getElem_cons_succ, Act.put, setIfInBounds_toArray, set_cons_zero, set_cons_succ]
    refine tk (i := 16) (v := ?v16g2) rfl hHeld (Or.inl ⟨rfl, ?y16g2⟩) ?r16g2
    case y16g2 => (intro w h; obtain ⟨s0, s1, s2, s3, s4, s5⟩ := h; go_simp; try with_reducible rfl)
    try simp only [getElem_toArray, getElem_cons_zero, getElem_cons_succ, Act.put, setIfInBounds_toArray, set_cons_zero, set_cons_succ]
    refine tk (i := 17) (v := ?v17g2) rfl hHeld (Or.inl ⟨rfl, ?y17g2⟩) ?r17g2
    case y17g2 => (intro w h; obtain ⟨s0, s1, s2, s3, s4, s5⟩ := h; go_simp; try with_reducible rfl)
    try simp only [getElem_toArray, getElem_cons_zero, getElem_cons_succ, Act.put, setIfInBounds_toArray, set_cons_zero, set_cons_succ]
    refine tk (i := 18) (v := ?v18g2) rfl hHeld (Or.inl ⟨rfl, ?y18g2⟩) ?r18g2
    case y18g2 => (intro w h; obtain ⟨s0, s1, s2, s3, s4, s5⟩ := h; go_simp; try with_reducible rfl)
    try simp only [getElem_toArray, getElem_cons_zero, getElem_cons_succ, Act.put, setIfInBounds_toArray, set_cons_zero, set_cons_succ]
    refine tk (i := 20) (v := ?v20g2) rfl hHeld (Or.inl ⟨rfl, ?y20g2⟩) ?r20g2
    case y20g2 => (intro w h; obtain ⟨s0, s1, s2, s3, s4, s5⟩ := h; go_simp; try with_reducible rfl)
    try simp only [getElem_toArray, getElem_cons_zero, getElem_cons_succ, Act.put, setIfInBounds_toArray, set_cons_zero, set_cons_succ]
    refine tk (i := 21) (v := ?v21g2) rfl hHeld (Or.inl ⟨rfl, ?y21g2⟩) ?r21g2
    case y21g2 => (intro w h; obtain ⟨s0, s1, s2, s3, s4, s5⟩ := h; go_simp; try with_reducible rfl)
    try simp only [getElem_toArray, getElem_cons_zero, getElem_cons_succ, Act.put, setIfInBounds_toArray, set_cons_zero, set_cons_succ]
    refine tk (i := 23) (v := ?v23g2) rfl hHeld (Or.inl ⟨rfl, ?y23g2⟩) ?r23g2
    case y23g2 => (intro w h; obtain ⟨s0, s1, s2, s3, s4, s5⟩ := h; go_simp; try with_reducible rfl)
    try simp only [getElem_toArray, getElem_cons_zero, getElem_cons_succ, Act.put, setIfInBounds_toArray, set_cons_zero, set_cons_succ]
    refine tk (i := 25) (v := ?v25g2) rfl hHeld (Or.inl ⟨rfl, ?y25g2⟩) ?r25g2
    case y25g2 => (intro w h; obtain ⟨s0, s1, s2, s3, s4, s5⟩ := h; go_simp; try with_reducible rfl)
    try simp only [getElem_toArray, getElem_cons_zero, getElem_cons_succ, Act.put, setIfInBounds_toArray, set_cons_zero, set_cons_succ]
    refine tk (i := 26) (v := ?v26g2) rfl hHeld (Or.inl ⟨rfl, ?y26g2⟩) ?r26g2
    case y26g2 => (intro w h; obtain ⟨s0, s1, s2, s3, s4, s5⟩ := h; go_simp; try with_reducible rfl)
    try simp only [getElem_toArray, getElem_cons_zero, getElem_cons_succ, Act.put, setIfInBounds_toArray, set_cons_zero, set_cons_succ]
    refine wpAnyH_ready (rs := [11]) (by kernel_rfl) (by simp) ?_
    refine AllReadyH.cons (o := _) rfl (fun K hK => ?_) AllReadyH.nil
    rw [if_pos (by rfl)]
    go_simp
    obtain ⟨s0, s1, s2, s3, s4, s5⟩ := hHeld
    refine (wire_Num.calls 9 _ _ _ (num_ge v.f0 9 (Nat.le_refl _))).mono ?_
    rintro e8 w8 ⟨rfl, hb8⟩
    replace HOX := Lib.hid (Kd.R_below HOX.out hb8)
    replace K1X := Lib.hid (blk_below K1X.out hb8)
    replace K2X := Lib.hid (blk_below K2X.out hb8)
    replace KVX := Lib.hid (blk_below KVX.out hb8)
    replace HBX := keepB HBX hb8
    refine hK.out _ _ ⟨keepc hb8 s0, keepc hb8 s1, keepc hb8 s2, keepc hb8 s3, keepc hb8 s4, keepc hb8 s5⟩ (fun hHeld => ?_)
    clear hK K hb8 s0 s1 s2 s3 s4 s5
    try simp only [getElem_toArray, getElem_cons_zero, getElem_cons_succ, Act.put, setIfInBounds_toArray, set_cons_zero, set_cons_succ]
    refine tk (i := 12) (v := ?v12g2) rfl hHeld (Or.inl ⟨rfl, ?y12g2⟩) ?r12g2
    case y12g2 => (intro w h; obtain ⟨s0, s1, s2, s3, s4, s5⟩ := h; go_simp; try with_reducible rfl)
    try simp only [getElem_toArray, getElem_cons_zero, getElem_cons_succ, Act.put, setIfInBounds_toArray, set_cons_zero, set_cons_succ]
    refine wpAnyH_ready (rs := [19]) (by kernel_rfl) (by simp) ?_
    refine AllReadyH.cons (o := _) rfl (fun K hK => ?_) AllReadyH.nil
    rw [if_pos (by rfl)]
    go_simp
    obtain ⟨s0, s1, s2, s3, s4, s5⟩ := hHeld
    refine (items_num.calls 9 _ _ _ HSQ.out).mono ?_
    rintro e8 w8 ⟨rfl, hb8⟩
    replace HOX := Lib.hid (Kd.R_below HOX.out hb8)
    replace K1X := Lib.hid (blk_below K1X.out hb8)
    replace K2X := Lib.hid (blk_below K2X.out hb8)
    replace KVX := Lib.hid (blk_below KVX.out hb8)
    replace HBX := keepB HBX hb8
    refine hK.out _ _ ⟨keepc hb8 s0, keepc hb8 s1, keepc hb8 s2, keepc hb8 s3, keepc hb8 s4, keepc hb8 s5⟩ (fun hHeld => ?_)
    clear hK K hb8 s0 s1 s2 s3 s4 s5
    try simp only [getElem_toArray, getElem_cons_zero, getElem_cons_succ, Act.put, setIfInBounds_toArray, set_cons_zero, set_cons_succ]
    refine wpAnyH_ready (rs := [22]) (by kernel_rfl) (by simp) ?_
    refine AllReadyH.cons (o := _) rfl (fun K hK => ?_) AllReadyH.nil
    rw [if_pos (by rfl)]
    go_simp
    obtain ⟨s0, s1, s2, s3, s4, s5⟩ := hHeld
    refine (items_num.calls 9 _ _ _ (inum_ge v.f3 9 (Nat.le_refl _))).mono ?_
    rintro e8 w8 ⟨rfl, hb8⟩
    replace HOX := Lib.hid (Kd.R_below HOX.out hb8)
    replace K1X := Lib.hid (blk_below K1X.out hb8)
    replace K2X := Lib.hid (blk_below K2X.out hb8)
    replace KVX := Lib.hid (blk_below KVX.out hb8)
    replace HBX := keepB HBX hb8
    refine hK.out _ _ ⟨keepc hb8 s0, keepc hb8 s1, keepc hb8 s2, keepc hb8 s3, keepc hb8 s4, keepc hb8 s5⟩ (fun hHeld => ?_)
    clear hK K hb8 s0 s1 s2 s3 s4 s5
    try simp only [getElem_toArray, getElem_cons_zero, getElem_cons_succ, Act.put, setIfInBounds_toArray, set_cons_zero, set_cons_succ]
    refine wpAnyH_ready (rs := [24]) (by kernel_rfl) (by simp) ?_
    refine AllReadyH.cons (o := _) rfl (fun K hK => ?_) AllReadyH.nil
    rw [if_pos (by rfl)]
    go_simp
    obtain ⟨s0, s1, s2, s3, s4, s5⟩ := hHeld
    refine (items_num.calls 9 _ _ _ HMK.out).mono ?_
    rintro e8 w8 ⟨rfl, hb8⟩
    replace HOX := Lib.hid (Kd.R_below HOX.out hb8)
    replace K1X := Lib.hid (blk_below K1X.out hb8)
    replace K2X := Lib.hid (blk_below K2X.out hb8)
    replace KVX := Lib.hid (blk_below KVX.out hb8)
    replace HBX := keepB HBX hb8
    refine hK.out _ _ ⟨keepc hb8 s0, keepc hb8 s1, keepc hb8 s2, keepc hb8 s3, keepc hb8 s4, keepc hb8 s5⟩ (fun hHeld => ?_)
    clear hK K hb8 s0 s1 s2 s3 s4 s5
    try simp only [getElem_toArray, getElem_cons_zero, getElem_cons_succ, Act.put, setIfInBounds_toArray, set_cons_zero, set_cons_succ]
    refine wpAnyH_ready (rs := [27]) (by kernel_rfl) (by simp) ?_
    refine AllReadyH.cons (o := _) rfl (fun K hK => ?_) AllReadyH.nil
    rw [if_pos (by rfl)]
    go_simp
    obtain ⟨s0, s1, s2, s3, s4, s5⟩ := hHeld
    have hb8 := belowA w8 (.cells #[.string (numB8 ((vs.length : Int) - 1 - k)), .string (numB8 v.f3), .string (numB8 mk), .string (v.f1)] 9)
    have HST := Lib.hid (strs_new w8 [numB8 ((vs.length : Int) - 1 - k), numB8 v.f3, numB8 mk, v.f1] (by simp))
    replace HOX := Lib.hid (Kd.R_below HOX.out hb8)
    replace K1X := Lib.hid (blk_below K1X.out hb8)
    replace K2X := Lib.hid (blk_below K2X.out hb8)
    replace KVX := Lib.hid (blk_below KVX.out hb8)
    replace HBX := keepB HBX hb8
    have HSS := Lib.hid (⟨keepc hb8 s0, keepc hb8 s1, keepc hb8 s2, keepc hb8 s3, keepc hb8 s4, keepc hb8 s5⟩ : (_ ∧ _ ∧ _ ∧ _ ∧ _ ∧ _))
    clear hb8 s0 s1 s2 s3 s4 s5
    generalize hw9 : w8.alloc (.cells #[.string (numB8 ((vs.length : Int) - 1 - k)), .string (numB8 v.f3), .string (numB8 mk), .string (v.f1)] 9) = w9 at HST HOX K1X K2X KVX HBX HSS ⊢
    generalize hg9 : w8.heap.size = g9 at HST ⊢
    have HST2 : Hid (Kd.C Kd.string w9 (some ⟨g9, 0, none⟩) 4 [numB8 ((vs.length : Int) - 1 - k), numB8 v.f3, numB8 mk, v.f1]) := Lib.hid (by have := HST.out; rw [← hw9]; simpa using this)
    refine hK.out _ _ HSS.out (fun hHeld => ?_)
    clear hK K HSS HST hw9 hg9
    try simp only [getElem_toArray, getElem_cons_zero, getElem_cons_succ, Act.put, setIfInBounds_toArray, set_cons_zero, set_cons_succ]
    refine wpAnyH_ready (rs := [28]) (by kernel_rfl) (by simp) ?_
    refine AllReadyH.cons (o := _) rfl (fun K hK => ?_) AllReadyH.nil
    rw [if_pos (by rfl)]
    go_simp
    obtain ⟨s0, s1, s2, s3, s4, s5⟩ := hHeld
    refine (items_val.calls _ _ [numB8 ((vs.length : Int) - 1 - k), numB8 v.f3, numB8 mk, v.f1] _ _ HST2.out (Nat.le_refl _) (okL_4 (by rw [numB8_size]; decide) (by rw [numB8_size]; decide) (by rw [numB8_size]; decide) (by have := HV1.out; omega))).mono ?_
    rintro e8 w8 ⟨rfl, hb8⟩
    replace HOX := Lib.hid (Kd.R_below HOX.out hb8)
    replace K1X := Lib.hid (blk_below K1X.out hb8)
    replace K2X := Lib.hid (blk_below K2X.out hb8)
    replace KVX := Lib.hid (blk_below KVX.out hb8)
    replace HBX := keepB HBX hb8
    clear HST2
    refine hK.out _ _ ⟨keepc hb8 s0, keepc hb8 s1, keepc hb8 s2, keepc hb8 s3, keepc hb8 s4, keepc hb8 s5⟩ (fun hHeld => ?_)
    clear hK K hb8 s0 s1 s2 s3 s4 s5
    try simp only [getElem_toArray, getElem_cons_zero, getElem_cons_succ, Act.put, setIfInBounds_toArray, set_cons_zero, set_cons_succ]
    refine tk (i := 29) (v := ?v29g2) rfl hHeld (Or.inl ⟨rfl, ?y29g2⟩) ?r29g2
    case y29g2 => (intro w h; obtain ⟨s0, s1, s2, s3, s4, s5⟩ := h; go_simp; try with_reducible rfl)
    try simp only [getElem_toArray, getElem_cons_zero, getElem_cons_succ, Act.put, setIfInBounds_toArray, set_cons_zero, set_cons_succ]
    refine wpAnyH_ready (rs := [30]) (by kernel_rfl) (by simp) ?_
    refine AllReadyH.cons (o := _) rfl (fun K hK => ?_) AllReadyH.nil
    rw [if_pos (by rfl)]
    go_simp
    have hHeld0 := hHeld
    obtain ⟨s0, s1, s2, s3, s4, s5⟩ := hHeld
    refine hK.out _ _ ⟨keepc (belowA _ _) s0, keepc (belowA _ _) s1, keepc (belowA _ _) s2, keepc (belowA _ _) s3, keepc (belowA _ _) s4, keepc (belowA _ _) s5⟩ (fun hHeld => ?_)
    clear hK K s0 s1 s2 s3 s4 s5
    try simp only [getElem_toArray, getElem_cons_zero, getElem_cons_succ, Act.put, setIfInBounds_toArray, set_cons_zero, set_cons_succ]
    refine wpAnyH_ready (rs := [31]) (by kernel_rfl) (by simp) ?_
    refine AllReadyH.cons (o := _) rfl (fun K hK => ?_) AllReadyH.nil
    refine Kd.R_append_step k43 (w0 := w) w.heap.size (by rfl) (.tmp 19) (.tmp 49) 26 43 (.agg #[(.string ⟨#[]⟩), (.string ⟨#[]⟩)]) 32 rfl Tryz.underlying26 info43 rfl (by decide) (by decide) u5 XS ⟨verName nm key v.f0, listB [numB8 ((vs.length : Int) - 1 - k), numB8 v.f3, numB8 mk, v.f1]⟩ [.string (verName nm key v.f0), .string (listB [numB8 ((vs.length : Int) - 1 - k), numB8 v.f3, numB8 mk, v.f1])] (fun _ => True) (fun _ => False) rfl rfl (k43_mkM _ _ _ ⟨verName nm key v.f0, listB [numB8 ((vs.length : Int) - 1 - k), numB8 v.f3, numB8 mk, v.f1]⟩) (fun _ hk => hk.elim) (fun _ _ => trivial) HOX.out HBX.out HBX.out.size (by have := HLX.out; omega) ?_
    intro v1 w10 ho hb hg hat
    have K1Y := Lib.hid (blk_grown K1X.out hg (Kd.R_ne HOX.out K1X.out (by decide)))
    have K2Y := Lib.hid (blk_grown K2X.out hg (Kd.R_ne HOX.out K2X.out (by decide)))
    have KVY := Lib.hid (blk_grown KVX.out hg (Kd.R_ne HOX.out KVX.out (by decide)))
    clear hHeld0
    refine hK.out _ _ ⟨(blk_cell K1Y.out 0).trans rfl, (blk_cell K2Y.out 0).trans rfl, (blk_cell K2Y.out 1).trans rfl, (blk_cell KVY.out 0).trans rfl, (blk_cell KVY.out 1).trans rfl, (blk_cell KVY.out 3).trans rfl⟩ (fun hHeld => ?_)
    replace HOX := Lib.hid ho
    replace HBX := Lib.hid hb
    clear hK K ho hb hg hat K1X K2X KVX KVY
    try simp only [getElem_toArray, getElem_cons_zero, getElem_cons_succ, Act.put, setIfInBounds_toArray, set_cons_zero, set_cons_succ]
    refine tk (i := 32) (v := ?v32g2) rfl hHeld (Or.inl ⟨rfl, ?y32g2⟩) ?r32g2
    case y32g2 => (intro w h; obtain ⟨s0, s1, s2, s3, s4, s5⟩ := h; go_simp; try with_reducible rfl)
    try simp only [getElem_toArray, getElem_cons_zero, getElem_cons_succ, Act.put, setIfInBounds_toArray, set_cons_zero, set_cons_succ]
    refine wpAnyH_done (by kernel_rfl) ?_ _
    go_wp2
    go_roundw
    case rel => exact ⟨k + 1, by go_num, by omega, Lib.hid (by rw [HSM.out]; exact HOX.out), K1Y, K2Y, HBX⟩
    case measure => simp [intOf]; omega
  ·obtain rfl : k = vs.length := by omega
   have HN := Lib.hid ho.out
   rw [List.take_length] at HN
   go_wp2
   go_ret
   exact ⟨_, rfl, HN.out, hb.out⟩
end Go.Proofs.YtafeepdlcilicaaGreat.Q

-- V2
namespace Go.Proofs.YtafeepdlcilicaaGreat.Q
open Go.WideMaps Go.RowKit Go.Proofs.YtafeepdlcilicaaGreatW.PrintWords Go.Proofs.YtafeepdlcilicaaGreatW.PrintLast Go.Proofs.YtafeepdlcilicaaGreatW.PrintMore Go.Maps
set_option linter.unusedVariables false
set_option linter.unusedSimpArgs false
open List (getElem_toArray getElem_cons_zero getElem_cons_succ setIfInBounds_toArray set_cons_zero set_cons_succ)

/-! ### items.uploads -/
attribute [local go_sem] Oper.semAt_some
theorem upsL_le (nm : ByteArray) (l : List S41) (h : ∀ u ∈ l, u.f2.length ≤ 30) : (upsL nm l).length ≤ 31 * l.length := flat_le (upItems nm) 31 l (fun u hu => by rw [upItems_len]; have := h u hu; omega)
set_option maxHeartbeats 16000000 in
set_option maxRecDepth 100000 in
theorem uploads.walk (nm : ByteArray) (st la : Int) (A2 : Option Addr) (n2 c2 : Nat) (A : Option Addr) (c : Nat) (U : List S41) (w : World) (hr : Kd.C k41 w A U.length U) (hn : nm.size ≤ 20) (hU : U.length ≤ 10) (h1 : ∀ u ∈ U, u.f1.size ≤ 60 ∧ u.f2.length ≤ 30 ∧ ∀ p ∈ u.f2, p.f1.size ≤ 2000) :
  Calls Tryz.prog 17 #[.agg #[.string nm, .int .i64 st, .slice A2 n2 c2, .slice A U.length c, .int .u64 la]] w fun e w' => ∃ v0, e = .returned v0 ∧ Kd.R k43 43 w' w.heap.size (fun _ => True) v0 (upsL nm U) ∧ Below w.heap.size w w' := by
 have HR := Lib.hid hr
 have H1 := Lib.hid h1
 clear hr h1
 have HB0 := Lib.hid ((Below.refl w.heap.size w).alloc (Nat.le_refl _) (.cells #[.string nm, .int .i64 st, .slice A2 n2 c2, .slice A U.length c, .int .u64 la] 35))
 have K0 := Lib.hid (blk_new w (.cells #[.string nm, .int .i64 st, .slice A2 n2 c2, .slice A U.length c, .int .u64 la] 35))
 go_enter Tryz.func17, Tryz.ntmps17
 go_wp2
 go_loopw [3, 12] (fun v i wr => ∃ (k : Nat), i = .int .i64 k ∧ k ≤ U.length ∧ Hid (Kd.R k43 43 wr w.heap.size (fun _ => True) v (upsL nm (U.take k))) ∧ Hid (wr.heap[w.heap.size]? = some (.cells #[.string nm, .int .i64 st, .slice A2 n2 c2, .slice A U.length c, .int .u64 la] 35 (0, 0))) ∧ Hid (Below w.heap.size w wr)) (fun _ i _ => U.length - (intOf i).toNat)
 case atStart => exact ⟨0, rfl, Nat.zero_le _, Kd.R_nil _ _ _ _ _, K0, HB0⟩
 case round =>
  obtain ⟨k, rfl, hkl, ho, hk1, hb⟩ := hrel
  by_cases hlt : k < U.length
  ·obtain ⟨ad, A3, c3, e', hc0, hc1, hc2, hl3, hC3⟩ := atUpload HR.out (Below.refl _ _) k hlt
   replace hc0 := keepc hb.out hc0
   replace hc1 := keepc hb.out hc1
   replace hc2 := keepc hb.out hc2
   obtain ⟨hu1, hu2, hu3⟩ := H1.out _ (List.getElem_mem hlt)
   have HU1 := Lib.hid hu1
   have HU2 := Lib.hid hu2
   have HU3 := Lib.hid hu3
   have HSN : Hid (upsL nm (U.take (k + 1)) = upsL nm (U.take k) ++ upItems nm U[k]) := flat_snoc (upItems nm) U k hlt
   have HLX : Hid ((upsL nm (U.take k)).length ≤ 310) := by
    have := upsL_le nm (U.take k) (fun u hu => (H1.out u (List.mem_of_mem_take hu)).2.1)
    rw [List.length_take] at this
    unfold Hid; omega
   subst e'
   have HC3 := Lib.hid hC3
   clear hu1 hu2 hu3 hC3
   generalize U[k] = u at *
   have hlp : (u.f2.length : Int) ≤ 9223372036854775807 := by have := HU2.out; omega
   have HOX := Lib.hid (Kd.R_below (Kd.R_below ho.out (belowA wr (.cells #[.int .u64 u.f0, .string u.f1, .slice A3 u.f2.length c3] 41))) (below_drew (Below.refl _ _)))
   have K1X := Lib.hid (blk_drew (blk_alloc hk1.out (.cells #[.int .u64 u.f0, .string u.f1, .slice A3 u.f2.length c3] 41)))
   have KUX := Lib.hid (blk_drew (blk_new wr (.cells #[.int .u64 u.f0, .string u.f1, .slice A3 u.f2.length c3] 41)))
   have HBX := Lib.hid ((hb.out.alloc hb.out.size (.cells #[.int .u64 u.f0, .string u.f1, .slice A3 u.f2.length c3] 41)).drew)
   generalize hgu : wr.heap.size = gu at *
   have gs1 : (9223372036854775807 < nm.size + 1) = False := eq_false (by omega)
   have gs2 : (9223372036854775807 < nm.size + 1 + (num8 u.f0).size) = False := eq_false (by rw [num8_size]; omega)
   clear hkl
   go_wp2
   refine wp_region_held_drew (S := fun W => W.cell? ⟨w.heap.size, 0, none⟩ = some (.string nm) ∧ W.cell? ⟨gu, 0, none⟩ = some (.int .u64 u.f0)) (by kernel_rfl) ?_ (fun hHeld => ?_)
   ·exact ⟨(blk_cell K1X.out 0).trans rfl, (blk_cell KUX.out 0).trans rfl⟩
   generalize (wr.alloc (.cells #[.int .u64 u.f0, .string u.f1, .slice A3 u.f2.length c3] 41)).drew = w7 at HOX K1X KUX HBX hHeld ⊢
   refine tk (i := 0) (v := ?v0g3) rfl hHeld (Or.inl ⟨rfl, ?y0g3⟩) ?r0g3
   case y0g3 => (intro w h; obtain ⟨s0, s1⟩ := h; go_simp; try with_reducible rfl)
   try simp only [getElem_toArray, getElem_cons_zero, getElem_cons_succ, Act.put, setIfInBounds_toArray, set_cons_zero, set_cons_succ]
   refine tk (i := 1) (v := ?v1g3) rfl hHeld (Or.inl ⟨rfl, ?y1g3⟩) ?r1g3
   case y1g3 => (intro w h; obtain ⟨s0, s1⟩ := h; go_simp; try with_reducible rfl)
   try simp only [getElem_toArray, getElem_cons_zero, getElem_cons_succ, Act.put, setIfInBounds_toArray, set_cons_zero, set_cons_succ]
   refine tk (i := 2) (v := ?v2g3) rfl hHeld (Or.inl ⟨rfl, ?y2g3⟩) ?r2g3
   case y2g3 => (intro w h; obtain ⟨s0, s1⟩ := h; go_simp; try with_reducible rfl)
   try simp only [getElem_toArray, getElem_cons_zero, getElem_cons_succ, Act.put, setIfInBounds_toArray, set_cons_zero, set_cons_succ]
   refine tk (i := 3) (v := ?v3g3) rfl hHeld (Or.inl ⟨rfl, ?y3g3⟩) ?r3g3
   case y3g3 => (intro w h; obtain ⟨s0, s1⟩ := h; go_simp; try with_reducible rfl)
   try simp only [getElem_toArray, getElem_cons_zero, getElem_cons_succ, Act.put, setIfInBounds_toArray, set_cons_zero, set_cons_succ]
   refine tk (i := 4) (v := ?v4g3) rfl hHeld (Or.inl ⟨rfl, ?y4g3⟩) ?r4g3
   case y4g3 => (intro w h; obtain ⟨s0, s1⟩ := h; go_simp; try with_reducible rfl)
   try simp only [getElem_toArray, getElem_cons_zero, getElem_cons_succ, Act.put, setIfInBounds_toArray, set_cons_zero, set_cons_succ]
   refine wpAnyH_ready (rs := [5]) (by kernel_rfl) (by simp) ?_
   refine AllReadyH.cons (o := _) rfl (fun K hK => ?_) AllReadyH.nil
   rw [if_pos (by rfl)]
   go_simp
   obtain ⟨s0, s1⟩ := hHeld
   refine (wire_Num.calls 9 _ _ _ (num_ge u.f0 9 (Nat.le_refl _))).mono ?_
   rintro e8 w8 ⟨rfl, hb8⟩
   replace HOX := Lib.hid (Kd.R_below HOX.out hb8)
   replace K1X := Lib.hid (blk_below K1X.out hb8)
   replace KUX := Lib.hid (blk_below KUX.out hb8)
   replace HBX := keepB HBX hb8
   refine hK.out _ _ ⟨keepc hb8 s0, keepc hb8 s1⟩ (fun hHeld => ?_)
   clear hK K hb8 s0 s1
   try simp only [getElem_toArray, getElem_cons_zero, getElem_cons_succ, Act.put, setIfInBounds_toArray, set_cons_zero, set_cons_succ]
   refine tk (i := 6) (v := ?v6g3) rfl hHeld (Or.inl ⟨rfl, ?y6g3⟩) ?r6g3
   case y6g3 => (intro w h; obtain ⟨s0, s1⟩ := h; go_simp; try with_reducible rfl)
   try simp only [getElem_toArray, getElem_cons_zero, getElem_cons_succ, Act.put, setIfInBounds_toArray, set_cons_zero, set_cons_succ]
   refine tk (i := 7) (v := ?v7g3) rfl hHeld (Or.inl ⟨rfl, ?y7g3⟩) ?r7g3
   case y7g3 => (intro w h; obtain ⟨s0, s1⟩ := h; go_simp; try with_reducible rfl)
   try simp only [getElem_toArray, getElem_cons_zero, getElem_cons_succ, Act.put, setIfInBounds_toArray, set_cons_zero, set_cons_succ]
   refine wpAnyH_done (by kernel_rfl) ?_ _
   clear hHeld
   have du1 := (blk_cell KUX.out 1).trans rfl
   generalize hid : nm ++ (⟨#[10]⟩ : ByteArray) ++ num8 u.f0 = id
   have hids : id.size ≤ 29 := by rw [← hid, ByteArray.size_append, ByteArray.size_append, num8_size, sz10]; omega
   have hup : upId nm u.f0 = id := hid
   have HUP : Hid (upItems nm u = ⟨(⟨#[117]⟩ : ByteArray) ++ id, listB [u.f1]⟩ :: u.f2.map (partItem id)) := by unfold Hid upItems; rw [hup]
   have gs3 : (9223372036854775807 < 1 + id.size) = False := eq_false (by omega)
   clear hid hup gs1 gs2 hc0 hc1 hc2
   generalize hXS : upsL nm (U.take k) = XS at *
   go_wp2_with (first
    | ((with_reducible refine gate_dst (N := 28) rfl ?_); go_must (refine Kd.R_lit Kd.string w8.heap.size 9 ?hg (N := 28) ?hd (w0 := w8) (xs := [u.f1]) (inner := [.string u.f1]) (ok := fun _ => True) (okp := fun _ => True) ?hr ?hp (fun _ hk => hk) trivial ?hB ?hS (by show (1 : Nat) ≤ _; decide) ?_; (case hd => rfl); (case hg => rfl); (case hr => first | (go_simp; done) | (go_simp; rfl)); (case hp => exact str_lit1); (case hB => exact Below.refl _ _); (case hS => exact Nat.le_refl _); intro v4 w4 ho hb _ _; have HB4 := keepB HBX hb; have HX4 := Lib.hid (Kd.R_below HOX.out hb); have K14 := Lib.hid (blk_below K1X.out hb); have KU4 := Lib.hid (blk_below KUX.out hb); obtain ⟨A4, c4, rfl⟩ := Kd.R_slice ho; have HO4 := Lib.hid ho; clear ho hb HBX HOX K1X KUX du1))
    | (go_at_call 13; refine (items_val.calls A4 c4 [u.f1] _ _ (Kd.R_reads' HO4.out).2.2 (Kd.R_reads' HO4.out).2.1 (okL_1 (by have := HU1.out; omega))).mono ?_; rintro e w5 ⟨rfl, hb⟩; have HB5 := keepB HB4 hb; have HX5 := Lib.hid (Kd.R_below HX4.out hb); have K15 := Lib.hid (blk_below K14.out hb); have KU5 := Lib.hid (blk_below KU4.out hb); clear hb HO4 HB4 HX4 K14 KU4)
    | ((with_reducible refine gate_dst (N := 31) rfl ?_); go_must (refine lit35 ?hg (N := 31) ?hd ⟨(⟨#[117]⟩ : ByteArray) ++ id, listB [u.f1]⟩ ?hr ?_; (case hd => rfl); (case hg => rfl); (case hr => first | (go_simp; done) | (go_simp; rfl)); intro v6 w6 ho hb; have ho2 := NRow35.R ho; obtain ⟨A6, c6, rfl⟩ := Kd.R_slice ho2; have HO6 := Lib.hid ho2; have HB6 := keepB HB5 hb; have HX6 := Lib.hid (Kd.R_below HX5.out hb); have K16 := Lib.hid (blk_below K15.out hb); have KU6 := Lib.hid (blk_below KU5.out hb); clear ho ho2 hb HB5 HX5 K15 KU5))
    | ((with_reducible refine gate_builtin (b := .append) (xs := #[.tmp 23, .tmp 31]) rfl ?_); at_builtin; go_must (refine appI (w0 := w) w.heap.size rfl (.tmp 23) (.tmp 31) rfl _ XS [⟨(⟨#[117]⟩ : ByteArray) ++ id, listB [u.f1]⟩] A6 _ c6 (fun _ => True) rfl rfl HX6.out (Kd.R_reads' HO6.out).2.2 (fun _ _ => trivial) HB6.out HB6.out.size (by have := HLX.out; rw [List.length_singleton]; omega) ?_; intro v7 w7 ho hb hg hat; have K17 := Lib.hid (blk_grown K16.out hg (Kd.R_ne HX6.out K16.out (by decide))); have KU7 := Lib.hid (blk_grown KU6.out hg (Kd.R_ne HX6.out KU6.out (by decide))); have HO7 := Lib.hid ho; have HB7 := Lib.hid hb; have du2 := (blk_cell KU7.out 2).trans rfl; clear ho hb hg hat HX6 HO6 HB6 K16 KU6)))
   go_loopw [3, 36] (fun v j wr => ∃ (m : Nat), j = .int .i64 m ∧ m ≤ u.f2.length ∧ Hid (Kd.R k43 43 wr w.heap.size (fun _ => True) v ((XS ++ [⟨(⟨#[117]⟩ : ByteArray) ++ id, listB [u.f1]⟩]) ++ (u.f2.take m).map (partItem id))) ∧ Hid (wr.heap[w.heap.size]? = some (.cells #[.string nm, .int .i64 st, .slice A2 n2 c2, .slice (some ad) U.length c, .int .u64 la] 35 (0, 0))) ∧ Hid (Below w.heap.size w wr)) (fun _ j _ => u.f2.length - (intOf j).toNat)
   case atStart => exact ⟨0, rfl, Nat.zero_le _, Lib.hid (by rw [List.take_zero, List.map_nil, List.append_nil]; exact HO7.out), K17, HB7⟩
   case round =>
    obtain ⟨m, rfl, hml, ho, hk1, hb⟩ := hrel
    by_cases hmt : m < u.f2.length
    ·obtain ⟨ae, e9, hp0, hp1⟩ := atPart HC3.out hb.out m hmt
     have HP1 := Lib.hid (HU3.out _ (List.getElem_mem hmt))
     have HSM : Hid ((XS ++ [⟨(⟨#[117]⟩ : ByteArray) ++ id, listB [u.f1]⟩]) ++ (u.f2.take (m + 1)).map (partItem id) = ((XS ++ [⟨(⟨#[117]⟩ : ByteArray) ++ id, listB [u.f1]⟩]) ++ (u.f2.take m).map (partItem id)) ++ [(⟨((⟨#[112]⟩ : ByteArray) ++ id) ++ numB8 u.f2[m].f0, listB [u.f2[m].f1]⟩ : S43)]) := by
      unfold Hid; rw [List.take_succ_eq_append_getElem hmt, List.map_append, ← List.append_assoc]; rfl
     have HLY : Hid (((XS ++ [(⟨(⟨#[117]⟩ : ByteArray) ++ id, listB [u.f1]⟩ : S43)]) ++ (u.f2.take m).map (partItem id)).length ≤ 1000) := by
      have := HLX.out; have := HU2.out
      unfold Hid; rw [List.length_append, List.length_append, List.length_map, List.length_take, List.length_singleton]; omega
     subst e9
     generalize u.f2[m] = p at *
     have gs4 : (9223372036854775807 < 1 + id.size + (numB8 p.f0).size) = False := eq_false (by rw [numB8_size]; omega)
     replace HLX := HLY
     clear HLY
     generalize hX2 : (XS ++ [⟨(⟨#[117]⟩ : ByteArray) ++ id, listB [u.f1]⟩]) ++ (u.f2.take m).map (partItem id) = X2 at *
     have HOX := Lib.hid (Kd.R_below (Kd.R_below ho.out (belowA wr (.cells #[.int .i64 p.f0, .string p.f1] 82))) (below_drew (Below.refl _ _)))
     have K1X := Lib.hid (blk_drew (blk_alloc hk1.out (.cells #[.int .i64 p.f0, .string p.f1] 82)))
     have KPX := Lib.hid (blk_drew (blk_new wr (.cells #[.int .i64 p.f0, .string p.f1] 82)))
     have HBX := Lib.hid ((hb.out.alloc hb.out.size (.cells #[.int .i64 p.f0, .string p.f1] 82)).drew)
     generalize hgp : wr.heap.size = gp at *
     clear hml
     go_wp2
     refine wp_region_held_drew (S := fun W => W.cell? ⟨gp, 0, none⟩ = some (.int .i64 p.f0) ∧ W.cell? ⟨gp, 1, none⟩ = some (.string p.f1)) (by kernel_rfl) ?_ (fun hHeld => ?_)
     ·exact ⟨(blk_cell KPX.out 0).trans rfl, (blk_cell KPX.out 1).trans rfl⟩
     generalize (wr.alloc (.cells #[.int .i64 p.f0, .string p.f1] 82)).drew = w8 at HOX K1X KPX HBX hHeld ⊢
     refine tk (i := 0) (v := ?v0g4) rfl hHeld (Or.inl ⟨rfl, ?y0g4⟩) ?r0g4
     case y0g4 => (intro w h; obtain ⟨s0, s1⟩ := h; go_simp; try with_reducible rfl)
     try simp only [getElem_toArray, getElem_cons_zero, getElem_cons_succ, Act.put, setIfInBounds_toArray, set_cons_zero, set_cons_succ]
     refine tk (i := 1) (v := ?v1g4) rfl hHeld (Or.inl ⟨rfl, ?y1g4⟩) ?r1g4
     case y1g4 => (intro w h; obtain ⟨s0, s1⟩ := h; go_simp; try with_reducible rfl)
     try simp only [getElem_toArray, getElem_cons_zero, getElem_cons_succ, Act.put, setIfInBounds_toArray, set_cons_zero, set_cons_succ]
     refine tk (i := 2) (v := ?v2g4) rfl hHeld (Or.inl ⟨rfl, ?y2g4⟩) ?r2g4
     case y2g4 => (intro w h; obtain ⟨s0, s1⟩ := h; go_simp; try with_reducible rfl)
     try simp only [getElem_toArray, getElem_cons_zero, getElem_cons_succ, Act.put, setIfInBounds_toArray, set_cons_zero, set_cons_succ]
     refine tk (i := 3) (v := ?v3g4) rfl hHeld (Or.inl ⟨rfl, ?y3g4⟩) ?r3g4
     case y3g4 => (intro w h; obtain ⟨s0, s1⟩ := h; go_simp; try with_reducible rfl)
     try simp only [getElem_toArray, getElem_cons_zero, getElem_cons_succ, Act.put, setIfInBounds_toArray, set_cons_zero, set_cons_succ]
     refine tk (i := 4) (v := ?v4g4) rfl hHeld (Or.inl ⟨rfl, ?y4g4⟩) ?r4g4
     case y4g4 => (intro w h; obtain ⟨s0, s1⟩ := h; go_simp; try with_reducible rfl)
     try simp only [getElem_toArray, getElem_cons_zero, getElem_cons_succ, Act.put, setIfInBounds_toArray, set_cons_zero, set_cons_succ]
     refine tk (i := 7) (v := ?v7g4) rfl hHeld (Or.inl ⟨rfl, ?y7g4⟩) ?r7g4
     case y7g4 => (intro w h; obtain ⟨s0, s1⟩ := h; go_simp; try with_reducible rfl)
     try simp only [getElem_toArray, getElem_cons_zero, getElem_cons_succ, Act.put, setIfInBounds_toArray, set_cons_zero, set_cons_succ]
     refine tk (i := 8) (v := ?v8g4) rfl hHeld (Or.inl ⟨rfl, ?y8g4⟩) ?r8g4
     case y8g4 => (intro w h; obtain ⟨s0, s1⟩ := h; go_simp; try with_reducible rfl)
     try simp only [getElem_toArray, getElem_cons_zero, getElem_cons_succ, Act.put, setIfInBounds_toArray, set_cons_zero, set_cons_succ]
     refine wpAnyH_ready (rs := [5, 9]) (by kernel_rfl) (by simp) ?_
     refine AllReadyH.cons (o := _) rfl (fun K hK => ?_) (AllReadyH.cons (o := _) rfl (fun K hK => ?_) AllReadyH.nil)
     ·skip
      rw [if_pos (by rfl)]
      go_simp
      obtain ⟨s0, s1⟩ := hHeld
      refine (items_num.calls 9 _ _ _ (inum_ge p.f0 9 (Nat.le_refl _))).mono ?_
      rintro e8 w8 ⟨rfl, hb8⟩
      replace HOX := Lib.hid (Kd.R_below HOX.out hb8)
      replace K1X := Lib.hid (blk_below K1X.out hb8)
      replace KPX := Lib.hid (blk_below KPX.out hb8)
      replace HBX := keepB HBX hb8
      refine hK.out _ _ ⟨keepc hb8 s0, keepc hb8 s1⟩ (fun hHeld => ?_)
      clear hK K hb8 s0 s1
      try simp only [getElem_toArray, getElem_cons_zero, getElem_cons_succ, Act.put, setIfInBounds_toArray, set_cons_zero, set_cons_succ]
      refine tk (i := 6) (v := ?v6g4a) rfl hHeld (Or.inl ⟨rfl, ?y6g4a⟩) ?r6g4a
      case y6g4a => (intro w h; obtain ⟨s0, s1⟩ := h; go_simp; try with_reducible rfl)
      try simp only [getElem_toArray, getElem_cons_zero, getElem_cons_succ, Act.put, setIfInBounds_toArray, set_cons_zero, set_cons_succ]
      refine wpAnyH_ready (rs := [9]) (by kernel_rfl) (by simp) ?_
      refine AllReadyH.cons (o := _) rfl (fun K hK => ?_) AllReadyH.nil
      rw [if_pos (by rfl)]
      go_simp
      obtain ⟨s0, s1⟩ := hHeld
      have hb8 := belowA w8 (.cells #[.string (p.f1)] 9)
      have HST := Lib.hid (strs_new w8 [p.f1] (by simp))
      replace HOX := Lib.hid (Kd.R_below HOX.out hb8)
      replace K1X := Lib.hid (blk_below K1X.out hb8)
      replace KPX := Lib.hid (blk_below KPX.out hb8)
      replace HBX := keepB HBX hb8
      have HSS := Lib.hid (⟨keepc hb8 s0, keepc hb8 s1⟩ : (_ ∧ _))
      clear hb8 s0 s1
      generalize hw9 : w8.alloc (.cells #[.string (p.f1)] 9) = w9 at HST HOX K1X KPX HBX HSS ⊢
      generalize hg9 : w8.heap.size = g9 at HST ⊢
      have HST2 : Hid (Kd.C Kd.string w9 (some ⟨g9, 0, none⟩) 1 [p.f1]) := Lib.hid (by have := HST.out; rw [← hw9]; simpa using this)
      refine hK.out _ _ HSS.out (fun hHeld => ?_)
      clear hK K HSS HST hw9 hg9
      try simp only [getElem_toArray, getElem_cons_zero, getElem_cons_succ, Act.put, setIfInBounds_toArray, set_cons_zero, set_cons_succ]
      refine wpAnyH_ready (rs := [10]) (by kernel_rfl) (by simp) ?_
      refine AllReadyH.cons (o := _) rfl (fun K hK => ?_) AllReadyH.nil
      rw [if_pos (by rfl)]
      go_simp
      obtain ⟨s0, s1⟩ := hHeld
      refine (items_val.calls _ _ [p.f1] _ _ HST2.out (Nat.le_refl _) (okL_1 (by have := HP1.out; omega))).mono ?_
      rintro e8 w8 ⟨rfl, hb8⟩
      replace HOX := Lib.hid (Kd.R_below HOX.out hb8)
      replace K1X := Lib.hid (blk_below K1X.out hb8)
      replace KPX := Lib.hid (blk_below KPX.out hb8)
      replace HBX := keepB HBX hb8
      clear HST2
      refine hK.out _ _ ⟨keepc hb8 s0, keepc hb8 s1⟩ (fun hHeld => ?_)
      clear hK K hb8 s0 s1
      try simp only [getElem_toArray, getElem_cons_zero, getElem_cons_succ, Act.put, setIfInBounds_toArray, set_cons_zero, set_cons_succ]
      refine tk (i := 11) (v := ?v11g4a) rfl hHeld (Or.inl ⟨rfl, ?y11g4a⟩) ?r11g4a
      case y11g4a => (intro w h; obtain ⟨s0, s1⟩ := h; go_simp; try with_reducible rfl)
      try simp only [getElem_toArray, getElem_cons_zero, getElem_cons_succ, Act.put, setIfInBounds_toArray, set_cons_zero, set_cons_succ]
      refine wpAnyH_ready (rs := [12]) (by kernel_rfl) (by simp) ?_
      refine AllReadyH.cons (o := _) rfl (fun K hK => ?_) AllReadyH.nil
      rw [if_pos (by rfl)]
      go_simp
      have hHeld0 := hHeld
      obtain ⟨s0, s1⟩ := hHeld
      refine hK.out _ _ ⟨keepc (belowA _ _) s0, keepc (belowA _ _) s1⟩ (fun hHeld => ?_)
      clear hK K s0 s1
      try simp only [getElem_toArray, getElem_cons_zero, getElem_cons_succ, Act.put, setIfInBounds_toArray, set_cons_zero, set_cons_succ]
      refine wpAnyH_ready (rs := [13]) (by kernel_rfl) (by simp) ?_
      refine AllReadyH.cons (o := _) rfl (fun K hK => ?_) AllReadyH.nil
      refine Kd.R_append_step k43 (w0 := w) w.heap.size (by rfl) (.tmp 40) (.tmp 52) 26 43 (.agg #[(.string ⟨#[]⟩), (.string ⟨#[]⟩)]) 32 rfl Tryz.underlying26 info43 rfl (by decide) (by decide) u3 X2 ⟨((⟨#[112]⟩ : ByteArray) ++ id) ++ numB8 p.f0, listB [p.f1]⟩ [.string (((⟨#[112]⟩ : ByteArray) ++ id) ++ numB8 p.f0), .string (listB [p.f1])] (fun _ => True) (fun _ => False) rfl rfl (k43_mkM _ _ _ ⟨((⟨#[112]⟩ : ByteArray) ++ id) ++ numB8 p.f0, listB [p.f1]⟩) (fun _ hk => hk.elim) (fun _ _ => trivial) HOX.out HBX.out HBX.out.size (by have := HLX.out; omega) ?_
      intro v1 w10 ho hb hg hat
      have K1Y := Lib.hid (blk_grown K1X.out hg (Kd.R_ne HOX.out K1X.out (by decide)))
      have KPY := Lib.hid (blk_grown KPX.out hg (Kd.R_ne HOX.out KPX.out (by decide)))
      clear hHeld0
      refine hK.out _ _ ⟨(blk_cell KPY.out 0).trans rfl, (blk_cell KPY.out 1).trans rfl⟩ (fun hHeld => ?_)
      replace HOX := Lib.hid ho
      replace HBX := Lib.hid hb
      clear hK K ho hb hg hat K1X KPX KPY
      try simp only [getElem_toArray, getElem_cons_zero, getElem_cons_succ, Act.put, setIfInBounds_toArray, set_cons_zero, set_cons_succ]
      refine tk (i := 14) (v := ?v14g4a) rfl hHeld (Or.inl ⟨rfl, ?y14g4a⟩) ?r14g4a
      case y14g4a => (intro w h; obtain ⟨s0, s1⟩ := h; go_simp; try with_reducible rfl)
      try simp only [getElem_toArray, getElem_cons_zero, getElem_cons_succ, Act.put, setIfInBounds_toArray, set_cons_zero, set_cons_succ]
      refine wpAnyH_done (by kernel_rfl) ?_ _
      go_wp2
      go_roundw
      case rel => exact ⟨m + 1, by go_num, by omega, Lib.hid (by rw [HSM.out]; exact HOX.out), K1Y, HBX⟩
      case measure => simp [intOf]; omega
     ·skip
      rw [if_pos (by rfl)]
      go_simp
      obtain ⟨s0, s1⟩ := hHeld
      have hb8 := belowA w8 (.cells #[.string (p.f1)] 9)
      have HST := Lib.hid (strs_new w8 [p.f1] (by simp))
      replace HOX := Lib.hid (Kd.R_below HOX.out hb8)
      replace K1X := Lib.hid (blk_below K1X.out hb8)
      replace KPX := Lib.hid (blk_below KPX.out hb8)
      replace HBX := keepB HBX hb8
      have HSS := Lib.hid (⟨keepc hb8 s0, keepc hb8 s1⟩ : (_ ∧ _))
      clear hb8 s0 s1
      generalize hw9 : w8.alloc (.cells #[.string (p.f1)] 9) = w9 at HST HOX K1X KPX HBX HSS ⊢
      generalize hg9 : w8.heap.size = g9 at HST ⊢
      have HST2 : Hid (Kd.C Kd.string w9 (some ⟨g9, 0, none⟩) 1 [p.f1]) := Lib.hid (by have := HST.out; rw [← hw9]; simpa using this)
      refine hK.out _ _ HSS.out (fun hHeld => ?_)
      clear hK K HSS HST hw9 hg9
      try simp only [getElem_toArray, getElem_cons_zero, getElem_cons_succ, Act.put, setIfInBounds_toArray, set_cons_zero, set_cons_succ]
      refine wpAnyH_ready (rs := [5]) (by kernel_rfl) (by simp) ?_
      refine AllReadyH.cons (o := _) rfl (fun K hK => ?_) AllReadyH.nil
      rw [if_pos (by rfl)]
      go_simp
      obtain ⟨s0, s1⟩ := hHeld
      refine (items_num.calls 9 _ _ _ (inum_ge p.f0 9 (Nat.le_refl _))).mono ?_
      rintro e8 w8 ⟨rfl, hb8⟩
      replace HOX := Lib.hid (Kd.R_below HOX.out hb8)
      replace K1X := Lib.hid (blk_below K1X.out hb8)
      replace KPX := Lib.hid (blk_below KPX.out hb8)
      replace HBX := keepB HBX hb8
      replace HST2 := Lib.hid (Kd.C_below HST2.out hb8)
      refine hK.out _ _ ⟨keepc hb8 s0, keepc hb8 s1⟩ (fun hHeld => ?_)
      clear hK K hb8 s0 s1
      try simp only [getElem_toArray, getElem_cons_zero, getElem_cons_succ, Act.put, setIfInBounds_toArray, set_cons_zero, set_cons_succ]
      refine tk (i := 6) (v := ?v6g4b) rfl hHeld (Or.inl ⟨rfl, ?y6g4b⟩) ?r6g4b
      case y6g4b => (intro w h; obtain ⟨s0, s1⟩ := h; go_simp; try with_reducible rfl)
      try simp only [getElem_toArray, getElem_cons_zero, getElem_cons_succ, Act.put, setIfInBounds_toArray, set_cons_zero, set_cons_succ]
      refine wpAnyH_ready (rs := [10]) (by kernel_rfl) (by simp) ?_
      refine AllReadyH.cons (o := _) rfl (fun K hK => ?_) AllReadyH.nil
      rw [if_pos (by rfl)]
      go_simp
      obtain ⟨s0, s1⟩ := hHeld
      refine (items_val.calls _ _ [p.f1] _ _ HST2.out (Nat.le_refl _) (okL_1 (by have := HP1.out; omega))).mono ?_
      rintro e8 w8 ⟨rfl, hb8⟩
      replace HOX := Lib.hid (Kd.R_below HOX.out hb8)
      replace K1X := Lib.hid (blk_below K1X.out hb8)
      replace KPX := Lib.hid (blk_below KPX.out hb8)
      replace HBX := keepB HBX hb8
      clear HST2
      refine hK.out _ _ ⟨keepc hb8 s0, keepc hb8 s1⟩ (fun hHeld => ?_)
      clear hK K hb8 s0 s1
      try simp only [getElem_toArray, getElem_cons_zero, getElem_cons_succ, Act.put, setIfInBounds_toArray, set_cons_zero, set_cons_succ]
      refine tk (i := 11) (v := ?v11g4b) rfl hHeld (Or.inl ⟨rfl, ?y11g4b⟩) ?r11g4b
      case y11g4b => (intro w h; obtain ⟨s0, s1⟩ := h; go_simp; try with_reducible rfl)
      try simp only [getElem_toArray, getElem_cons_zero, getElem_cons_succ, Act.put, setIfInBounds_toArray, set_cons_zero, set_cons_succ]
      refine wpAnyH_ready (rs := [12]) (by kernel_rfl) (by simp) ?_
      refine AllReadyH.cons (o := _) rfl (fun K hK => ?_) AllReadyH.nil
      rw [if_pos (by rfl)]
      go_simp
      have hHeld0 := hHeld
      obtain ⟨s0, s1⟩ := hHeld
      refine hK.out _ _ ⟨keepc (belowA _ _) s0, keepc (belowA _ _) s1⟩ (fun hHeld => ?_)
      clear hK K s0 s1
      try simp only [getElem_toArray, getElem_cons_zero, getElem_cons_succ, Act.put, setIfInBounds_toArray, set_cons_zero, set_cons_succ]
      refine wpAnyH_ready (rs := [13]) (by kernel_rfl) (by simp) ?_
      refine AllReadyH.cons (o := _) rfl (fun K hK => ?_) AllReadyH.nil
      refine Kd.R_append_step k43 (w0 := w) w.heap.size (by rfl) (.tmp 40) (.tmp 52) 26 43 (.agg #[(.string ⟨#[]⟩), (.string ⟨#[]⟩)]) 32 rfl Tryz.underlying26 info43 rfl (by decide) (by decide) u3 X2 ⟨((⟨#[112]⟩ : ByteArray) ++ id) ++ numB8 p.f0, listB [p.f1]⟩ [.string (((⟨#[112]⟩ : ByteArray) ++ id) ++ numB8 p.f0), .string (listB [p.f1])] (fun _ => True) (fun _ => False) rfl rfl (k43_mkM _ _ _ ⟨((⟨#[112]⟩ : ByteArray) ++ id) ++ numB8 p.f0, listB [p.f1]⟩) (fun _ hk => hk.elim) (fun _ _ => trivial) HOX.out HBX.out HBX.out.size (by have := HLX.out; omega) ?_
      intro v1 w10 ho hb hg hat
      have K1Y := Lib.hid (blk_grown K1X.out hg (Kd.R_ne HOX.out K1X.out (by decide)))
      have KPY := Lib.hid (blk_grown KPX.out hg (Kd.R_ne HOX.out KPX.out (by decide)))
      clear hHeld0
      refine hK.out _ _ ⟨(blk_cell KPY.out 0).trans rfl, (blk_cell KPY.out 1).trans rfl⟩ (fun hHeld => ?_)
      replace HOX := Lib.hid ho
      replace HBX := Lib.hid hb
      clear hK K ho hb hg hat K1X KPX KPY
      try simp only [getElem_toArray, getElem_cons_zero, getElem_cons_succ, Act.put, setIfInBounds_toArray, set_cons_zero, set_cons_succ]
      refine tk (i := 14) (v := ?v14g4b) rfl hHeld (Or.inl ⟨rfl, ?y14g4b⟩) ?r14g4b
      case y14g4b => (intro w h; obtain ⟨s0, s1⟩ := h; go_simp; try with_reducible rfl)
      try simp only [getElem_toArray, getElem_cons_zero, getElem_cons_succ, Act.put, setIfInBounds_toArray, set_cons_zero, set_cons_succ]
      refine wpAnyH_done (by kernel_rfl) ?_ _
      go_wp2
      go_roundw
      case rel => exact ⟨m + 1, by go_num, by omega, Lib.hid (by rw [HSM.out]; exact HOX.out), K1Y, HBX⟩
      case measure => simp [intOf]; omega
    ·obtain rfl : m = u.f2.length := by omega
     have HN := ho.out
     rw [List.take_length, List.append_assoc, List.singleton_append, ← HUP.out, ← HSN.out] at HN
     have HN2 := Lib.hid HN
     clear HN
     go_wp2
     go_roundw
     case rel => exact ⟨k + 1, by go_num, by omega, HN2, hk1, hb⟩
     case measure => simp [intOf]; omega
  ·obtain rfl : k = U.length := by omega
   have HN := Lib.hid ho.out
   rw [List.take_length] at HN
   go_wp2
   go_ret
   exact ⟨_, rfl, HN.out, hb.out⟩
end Go.Proofs.YtafeepdlcilicaaGreat.Q

-- I2
namespace Go.Proofs.YtafeepdlcilicaaGreat.Q
open Go.WideMaps Go.RowKit Go.Proofs.YtafeepdlcilicaaGreatW.PrintWords Go.Proofs.YtafeepdlcilicaaGreatW.PrintLast Go.Proofs.YtafeepdlcilicaaGreatW.PrintMore Go.Maps
set_option linter.unusedVariables false
set_option linter.unusedSimpArgs false
open List (getElem_toArray getElem_cons_zero getElem_cons_succ setIfInBounds_toArray set_cons_zero set_cons_succ)

/-! ### items.Of -/
attribute [local go_sem] Oper.semAt_some
theorem NRow35.of_R {w : World} {base : Nat} {ok : Nat → Prop} {v : Value} {l : List S43} (h : Kd.R k43 43 w base ok v l) : NRow35 w base v l := by
 obtain ⟨_, inner, hown, hr⟩ := h
 have e : inner = fl35 l := by
  apply List.ext_getElem?
  intro t
  have e1 : t = t / 2 * 2 + t % 2 := by omega
  have hm : t % 2 < 2 := Nat.mod_lt _ (by decide)
  have hl : inner.length = l.length * 2 := hr.1
  by_cases hj : t / 2 < l.length
  ·have hM := hr.2 (t / 2) l[t / 2] (List.getElem?_eq_getElem hj)
   have hO : List.take 2 (List.drop (t / 2 * 2) inner) = [.string l[t / 2].f0, .string l[t / 2].f1] := k43_openM hM
   rw [e1, fl35_at l _ _ hm, List.getElem?_eq_getElem hj, Option.bind_some, show enc35 l[t / 2] = [.string l[t / 2].f0, .string l[t / 2].f1] from rfl, ← hO, List.getElem?_take_of_lt hm, List.getElem?_drop]
  ·rw [List.getElem?_eq_none (by omega), List.getElem?_eq_none (by rw [fl35_len]; omega)]
 subst e
 exact hown
theorem depot_at {now : Int} {l : List S35} (h : depotB now l = true) : 0 ≤ now ∧ now ≤ 1099511627775 ∧ l.length ≤ 6 ∧ ∀ j (hj : j < l.length), bucketB l[j] = true ∧ l[j].f2.any (lateE now) = false ∧ upD l j = true := by
 unfold depotB at h
 simp only [Bool.and_eq_true, decide_eq_true_eq] at h
 refine ⟨h.1, h.2.1, h.2.2.1, fun j hj => ?_⟩
 have := allFrom_at h.2.2.2 j (Nat.zero_le _) (by omega)
 unfold depAt at this
 rw [getD_at l j _ hj] at this
 simp only [Bool.and_eq_true, Bool.not_eq_true'] at this
 exact this
theorem bucket_at {b : S35} (h : bucketB b = true) : headB b = true ∧ indexB b.f2 = true ∧ checkB b.f3 = true ∧ octB b.f2 b.f3 ≤ 20000 ∧ b.f2.all (nearB b.f4 b.f1) = true ∧ b.f3.any (updB b.f4) = false := by
 unfold bucketB at h
 simp only [Bool.and_eq_true, decide_eq_true_eq, Bool.not_eq_true'] at h
 exact ⟨h.1, h.2.1, h.2.2.1, h.2.2.2.1, h.2.2.2.2.1, h.2.2.2.2.2⟩
theorem head_at {b : S35} (h : headB b = true) : bnameB b.f0 = true ∧ 0 ≤ b.f1 ∧ b.f1 ≤ 2 ∧ b.f4 ≤ 281474976710655 := by
 unfold headB at h
 simp only [Bool.and_eq_true, decide_eq_true_eq] at h
 exact h
theorem bname_size {s : ByteArray} (h : bnameB s = true) : s.size ≤ 20 := by
 unfold bnameB wordB at h
 simp only [Bool.and_eq_true, decide_eq_true_eq] at h
 exact h.1.2.1
theorem key_size {s : ByteArray} (h : keyB s = true) : s.size ≤ 60 := by
 unfold keyB at h
 simp only [Bool.and_eq_true, decide_eq_true_eq] at h
 exact h.2.1
theorem versL_len (nm : ByteArray) (x : S38) : (versL nm x).length = x.f1.length := verFrom_len _ _ _ _ _
theorem bItems_len {b : S35} (h : bucketB b = true) : (bItems b).length ≤ 2000 := by
 obtain ⟨_, h2, h3, _⟩ := bucket_at h
 have a := flat_le (versL b.f0) 20 b.f2 (fun x hx => by rw [versL_len]; exact (chain_small (index_mem h2 x hx).2.2).1)
 have a1 := (index_at h2).1
 have c := flat_le (upItems b.f0) 31 b.f3 (fun u hu => by rw [upItems_len]; have := (fine_small ((check_mem h3).2 u hu)).2.2.1; omega)
 have c1 := (check_mem h3).1
 unfold bItems upsL
 rw [List.length_cons, List.length_append]
 omega
set_option maxHeartbeats 16000000 in
set_option maxRecDepth 100000 in
theorem of_yes.walk (now : Int) (A : Option Addr) (c : Nat) (l : List S35) (w : World) (hr : Kd.C k35 w A l.length l) (hd : depotB now l = true) :
  Calls Tryz.prog 6 #[.agg #[.int .i64 now, .slice A l.length c]] w fun e w' => ∃ v zs, e = .returned (.tuple #[v, .int .i64 0]) ∧ NRow35 w' w.heap.size v zs ∧ zs.Perm (depL now l) ∧ zs.Pairwise (fun a b => ¬ ltN b.f0 a.f0) ∧ Below w.heap.size w w' := by
 have HCK := Lib.hid (fun (W : World) (h : Below w.heap.size w W) => depot.walk now A c l W (Kd.C_below hr h))
 rw [hd, show errB true = 0 from rfl] at HCK
 have HR := Lib.hid hr
 have HD := Lib.hid hd
 have hlen : (l.length : Int) ≤ 9223372036854775807 := by have := hr.2.1; omega
 clear hr hd
 have HB0 := Lib.hid ((Below.refl w.heap.size w).alloc (Nat.le_refl _) (.cells #[.int .i64 now, .slice A l.length c] 24))
 have K0 := Lib.hid (blk_new w (.cells #[.int .i64 now, .slice A l.length c] 24))
 go_enter Tryz.func6, Tryz.ntmps6
 go_wp2_with (first
  | (go_at_call 12; refine (HCK.out _ HB0.out).mono ?_; rintro e w2 ⟨rfl, hb⟩; have HB2 := keepB HB0 hb; have K2 := Lib.hid (blk_below K0.out hb); have q0 := (blk_cell K2.out 0).trans (rfl : _ = some (Value.int .i64 now)); have q1 := (blk_cell K2.out 1).trans (rfl : _ = some (Value.slice A l.length c)); clear hb)
  | (go_at_call 14; refine (items_num.calls 9 now _ _ (inum_ge now 9 (Nat.le_refl _))).mono ?_; rintro e w3 ⟨rfl, hb⟩; have HB3 := keepB HB2 hb; have K3 := Lib.hid (blk_below K2.out hb); clear hb)
  | ((with_reducible refine gate_dst (N := 15) rfl ?_); go_must (refine Kd.R_lit Kd.string w3.heap.size 9 ?hg (N := 15) ?hd (w0 := w3) (xs := [numB8 now]) (inner := [.string (numB8 now)]) (ok := fun _ => True) (okp := fun _ => True) ?hr ?hp (fun _ hk => hk) trivial ?hB ?hS (by show (1 : Nat) ≤ _; decide) ?_; (case hd => rfl); (case hg => rfl); (case hr => first | (go_simp; done) | (go_simp; rfl)); (case hp => exact str_lit1); (case hB => exact Below.refl _ _); (case hS => exact Nat.le_refl _); intro v4 w4 ho hb _ _; have HB4 := keepB HB3 hb; have K4 := Lib.hid (blk_below K3.out hb); obtain ⟨A4, c4, rfl⟩ := Kd.R_slice ho; have HO4 := Lib.hid ho; clear ho hb))
  | (go_at_call 13; refine (items_val.calls A4 c4 [numB8 now] _ _ (Kd.R_reads' HO4.out).2.2 (Kd.R_reads' HO4.out).2.1 (okL_1 (by rw [numB8_size]; decide))).mono ?_; rintro e w5 ⟨rfl, hb⟩; have HB5 := keepB HB4 hb; have K5 := Lib.hid (blk_below K4.out hb); clear hb)
  | ((with_reducible refine gate_dst (N := 18) rfl ?_); go_must (refine lit35 ?hg (N := 18) ?hd (tItem now) ?hr ?_; (case hd => rfl); (case hg => rfl); (case hr => first | (go_simp; done) | (go_simp; rfl)); intro v6 w6 ho hb; have HO6 := Lib.hid (NRow35.R (ho.mono HB5.out.size)); have HB6 := keepB HB5 hb; have K6 := Lib.hid (blk_below K5.out hb); have r1 := (blk_cell K6.out 1).trans (rfl : _ = some (Value.slice A l.length c)); clear ho hb)))
 go_loopw [4, 22] (fun v i wr => ∃ (k : Nat), i = .int .i64 k ∧ k ≤ l.length ∧ Hid (Kd.R k43 43 wr w.heap.size (fun _ => True) v (tItem now :: (l.take k).flatMap bItems)) ∧ Hid (Below w.heap.size w wr)) (fun _ i _ => l.length - (intOf i).toNat)
 case atStart => exact ⟨0, rfl, Nat.zero_le _, HO6, HB6⟩
 case round =>
  obtain ⟨k, rfl, hk, ho, hb⟩ := hrel
  by_cases hlt : k < l.length
  ·obtain ⟨g1, g2, g3, g4⟩ := depot_at HD.out
   obtain ⟨gb, _, _⟩ := g4 k hlt
   obtain ⟨gh, gi, gc, _, _, _⟩ := bucket_at gb
   obtain ⟨gn, _, _, _⟩ := head_at gh
   have gs := bname_size gn
   have HSN := Lib.hid (flat_snoc bItems l k hlt)
   have HLN : Hid ((tItem now :: (l.take k).flatMap bItems).length ≤ 12001) := by
    unfold Hid
    have := flat_le bItems 2000 (l.take k) (fun x hx => by
     obtain ⟨j, hj, rfl⟩ := List.getElem_of_mem (List.mem_of_mem_take hx)
     exact bItems_len (g4 j hj).1)
    rw [List.length_cons]
    rw [List.length_take] at this
    omega
   have HBL : Hid ((bItems l[k]).length ≤ 2000) := bItems_len gb
   obtain ⟨ad, A2, c2, A3, c3, e', hc0, hc1, hc2, hc3, hc4, hl2, hC2, hl3, hC3⟩ := atBucket HR.out hb.out k hlt
   subst e'
   clear g4 gb gh hC2 hC3
   have HCE : Hid (Kd.C k38 w A2 l[k].f2.length l[k].f2 ∧ Kd.C k41 w A3 l[k].f3.length l[k].f3) := by
    obtain ⟨ad', A2', c2', A3', c3', e2, _, _, x2, x3, _, _, y2, _, y3⟩ := atBucket HR.out (Below.refl _ _) k hlt
    injection e2 with e2; subst e2
    have t2 := keepc hb.out x2
    have t3 := keepc hb.out x3
    rw [t2] at hc2; rw [t3] at hc3
    injection hc2 with hc2; injection hc2 with hc2
    injection hc3 with hc3; injection hc3 with hc3
    subst hc2; subst hc3
    exact ⟨y2, y3⟩
   generalize hbk : l[k] = b at *
   have gst : (9223372036854775807 < 1 + b.f0.size) = False := eq_false (by omega)
   have HGI := Lib.hid gi; have HGC := Lib.hid gc; have HGS := Lib.hid gs
   clear gi gc gs gn
   have HOX := Lib.hid (Kd.R_below (Kd.R_below ho.out (belowA wr (.cells #[.string b.f0, .int .i64 b.f1, .slice A2 b.f2.length c2, .slice A3 b.f3.length c3, .int .u64 b.f4] 35))) (below_drew (Below.refl _ _)))
   have KX := Lib.hid (blk_drew (blk_new wr (.cells #[.string b.f0, .int .i64 b.f1, .slice A2 b.f2.length c2, .slice A3 b.f3.length c3, .int .u64 b.f4] 35)))
   have HBX := Lib.hid ((hb.out.alloc hb.out.size (.cells #[.string b.f0, .int .i64 b.f1, .slice A2 b.f2.length c2, .slice A3 b.f3.length c3, .int .u64 b.f4] 35)).drew)
   go_wp2
   skip
   refine wp_region_held_drew (S := fun W => W.cell? ⟨wr.heap.size, 0, none⟩ = some (.string b.f0) ∧ W.cell? ⟨wr.heap.size, 1, none⟩ = some (.int .i64 b.f1) ∧ W.cell? ⟨wr.heap.size, 4, none⟩ = some (.int .u64 b.f4)) (by kernel_rfl) ?_ (fun hHeld => ?_)
   ·exact ⟨by simp [go_sem], by simp [go_sem], by simp [go_sem]⟩
   generalize (wr.alloc (.cells #[.string b.f0, .int .i64 b.f1, .slice A2 b.f2.length c2, .slice A3 b.f3.length c3, .int .u64 b.f4] 35)).drew = w7 at HOX KX HBX hHeld ⊢
   refine tk (i := 0) (v := ?v0g1) rfl hHeld (Or.inl ⟨rfl, ?y0g1⟩) ?r0g1
   case y0g1 => (intro w h; obtain ⟨s0, s1, s2⟩ := h; go_simp; try with_reducible rfl)
   try simp only [getElem_toArray, getElem_cons_zero, getElem_cons_succ, Act.put, setIfInBounds_toArray, set_cons_zero, set_cons_succ]
   refine tk (i := 1) (v := ?v1g1) rfl hHeld (Or.inl ⟨rfl, ?y1g1⟩) ?r1g1
   case y1g1 => (intro w h; obtain ⟨s0, s1, s2⟩ := h; go_simp; try with_reducible rfl)
   try simp only [getElem_toArray, getElem_cons_zero, getElem_cons_succ, Act.put, setIfInBounds_toArray, set_cons_zero, set_cons_succ]
   refine tk (i := 2) (v := ?v2g1) rfl hHeld (Or.inl ⟨rfl, ?y2g1⟩) ?r2g1
   case y2g1 => (intro w h; obtain ⟨s0, s1, s2⟩ := h; go_simp; try with_reducible rfl)
   try simp only [getElem_toArray, getElem_cons_zero, getElem_cons_succ, Act.put, setIfInBounds_toArray, set_cons_zero, set_cons_succ]
   refine tk (i := 3) (v := ?v3g1) rfl hHeld (Or.inl ⟨rfl, ?y3g1⟩) ?r3g1
   case y3g1 => (intro w h; obtain ⟨s0, s1, s2⟩ := h; go_simp; try with_reducible rfl)
   try simp only [getElem_toArray, getElem_cons_zero, getElem_cons_succ, Act.put, setIfInBounds_toArray, set_cons_zero, set_cons_succ]
   refine tk (i := 4) (v := ?v4g1) rfl hHeld (Or.inl ⟨rfl, ?y4g1⟩) ?r4g1
   case y4g1 => (intro w h; obtain ⟨s0, s1, s2⟩ := h; go_simp; try with_reducible rfl)
   try simp only [getElem_toArray, getElem_cons_zero, getElem_cons_succ, Act.put, setIfInBounds_toArray, set_cons_zero, set_cons_succ]
   refine tk (i := 5) (v := ?v5g1) rfl hHeld (Or.inl ⟨rfl, ?y5g1⟩) ?r5g1
   case y5g1 => (intro w h; obtain ⟨s0, s1, s2⟩ := h; go_simp; try with_reducible rfl)
   try simp only [getElem_toArray, getElem_cons_zero, getElem_cons_succ, Act.put, setIfInBounds_toArray, set_cons_zero, set_cons_succ]
   refine tk (i := 7) (v := ?v7g1) rfl hHeld (Or.inl ⟨rfl, ?y7g1⟩) ?r7g1
   case y7g1 => (intro w h; obtain ⟨s0, s1, s2⟩ := h; go_simp; try with_reducible rfl)
   try simp only [getElem_toArray, getElem_cons_zero, getElem_cons_succ, Act.put, setIfInBounds_toArray, set_cons_zero, set_cons_succ]
   refine tk (i := 8) (v := ?v8g1) rfl hHeld (Or.inl ⟨rfl, ?y8g1⟩) ?r8g1
   case y8g1 => (intro w h; obtain ⟨s0, s1, s2⟩ := h; go_simp; try with_reducible rfl)
   try simp only [getElem_toArray, getElem_cons_zero, getElem_cons_succ, Act.put, setIfInBounds_toArray, set_cons_zero, set_cons_succ]
   refine wpAnyH_ready (rs := [6]) (by kernel_rfl) (by simp) ?_
   refine AllReadyH.cons (o := _) rfl (fun K hK => ?_) AllReadyH.nil
   rw [if_pos (by rfl)]
   go_simp
   obtain ⟨s0, s1, s2⟩ := hHeld
   refine (items_num.calls 9 _ _ _ (inum_ge b.f1 9 (Nat.le_refl _))).mono ?_
   rintro e8 w8 ⟨rfl, hb8⟩
   replace HOX := Lib.hid (Kd.R_below HOX.out hb8)
   replace KX := Lib.hid (blk_below KX.out hb8)
   replace HBX := keepB HBX hb8
   refine hK.out _ _ ⟨keepc hb8 s0, keepc hb8 s1, keepc hb8 s2⟩ (fun hHeld => ?_)
   clear hK K hb8 s0 s1 s2
   try simp only [getElem_toArray, getElem_cons_zero, getElem_cons_succ, Act.put, setIfInBounds_toArray, set_cons_zero, set_cons_succ]
   refine wpAnyH_ready (rs := [9]) (by kernel_rfl) (by simp) ?_
   refine AllReadyH.cons (o := _) rfl (fun K hK => ?_) AllReadyH.nil
   rw [if_pos (by rfl)]
   go_simp
   obtain ⟨s0, s1, s2⟩ := hHeld
   refine (wire_Num.calls 9 _ _ _ (num_ge b.f4 9 (Nat.le_refl _))).mono ?_
   rintro e8 w8 ⟨rfl, hb8⟩
   replace HOX := Lib.hid (Kd.R_below HOX.out hb8)
   replace KX := Lib.hid (blk_below KX.out hb8)
   replace HBX := keepB HBX hb8
   refine hK.out _ _ ⟨keepc hb8 s0, keepc hb8 s1, keepc hb8 s2⟩ (fun hHeld => ?_)
   clear hK K hb8 s0 s1 s2
   try simp only [getElem_toArray, getElem_cons_zero, getElem_cons_succ, Act.put, setIfInBounds_toArray, set_cons_zero, set_cons_succ]
   refine wpAnyH_ready (rs := [10]) (by kernel_rfl) (by simp) ?_
   refine AllReadyH.cons (o := _) rfl (fun K hK => ?_) AllReadyH.nil
   rw [if_pos (by rfl)]
   go_simp
   obtain ⟨s0, s1, s2⟩ := hHeld
   have hb8 := belowA w8 (.cells #[.string (numB8 b.f1), .string (num8 b.f4)] 9)
   have HST := Lib.hid (strs_new w8 [numB8 b.f1, num8 b.f4] (by simp))
   replace HOX := Lib.hid (Kd.R_below HOX.out hb8)
   replace KX := Lib.hid (blk_below KX.out hb8)
   replace HBX := keepB HBX hb8
   have HSS := Lib.hid (⟨keepc hb8 s0, keepc hb8 s1, keepc hb8 s2⟩ : (_ ∧ _ ∧ _))
   clear hb8 s0 s1 s2
   generalize hw9 : w8.alloc (.cells #[.string (numB8 b.f1), .string (num8 b.f4)] 9) = w9 at HST HOX KX HBX HSS ⊢
   generalize hg9 : w8.heap.size = g9 at HST ⊢
   have HST2 : Hid (Kd.C Kd.string w9 (some ⟨g9, 0, none⟩) 2 [numB8 b.f1, num8 b.f4]) := Lib.hid (by have := HST.out; rw [← hw9]; simpa using this)
   refine hK.out _ _ HSS.out (fun hHeld => ?_)
   clear hK K HSS HST hw9 hg9
   try simp only [getElem_toArray, getElem_cons_zero, getElem_cons_succ, Act.put, setIfInBounds_toArray, set_cons_zero, set_cons_succ]
   refine wpAnyH_ready (rs := [11]) (by kernel_rfl) (by simp) ?_
   refine AllReadyH.cons (o := _) rfl (fun K hK => ?_) AllReadyH.nil
   rw [if_pos (by rfl)]
   go_simp
   obtain ⟨s0, s1, s2⟩ := hHeld
   refine (items_val.calls _ _ [numB8 b.f1, num8 b.f4] _ _ HST2.out (Nat.le_refl _) (okL_2 (by rw [numB8_size]; decide) (by rw [num8_size]; decide))).mono ?_
   rintro e8 w8 ⟨rfl, hb8⟩
   replace HOX := Lib.hid (Kd.R_below HOX.out hb8)
   replace KX := Lib.hid (blk_below KX.out hb8)
   replace HBX := keepB HBX hb8
   clear HST2
   refine hK.out _ _ ⟨keepc hb8 s0, keepc hb8 s1, keepc hb8 s2⟩ (fun hHeld => ?_)
   clear hK K hb8 s0 s1 s2
   try simp only [getElem_toArray, getElem_cons_zero, getElem_cons_succ, Act.put, setIfInBounds_toArray, set_cons_zero, set_cons_succ]
   refine tk (i := 12) (v := ?v12g1) rfl hHeld (Or.inl ⟨rfl, ?y12g1⟩) ?r12g1
   case y12g1 => (intro w h; obtain ⟨s0, s1, s2⟩ := h; go_simp; try with_reducible rfl)
   try simp only [getElem_toArray, getElem_cons_zero, getElem_cons_succ, Act.put, setIfInBounds_toArray, set_cons_zero, set_cons_succ]
   refine wpAnyH_ready (rs := [13]) (by kernel_rfl) (by simp) ?_
   refine AllReadyH.cons (o := _) rfl (fun K hK => ?_) AllReadyH.nil
   rw [if_pos (by rfl)]
   go_simp
   have hHeld0 := hHeld
   obtain ⟨s0, s1, s2⟩ := hHeld
   refine hK.out _ _ ⟨keepc (belowA _ _) s0, keepc (belowA _ _) s1, keepc (belowA _ _) s2⟩ (fun hHeld => ?_)
   clear hK K s0 s1 s2
   try simp only [getElem_toArray, getElem_cons_zero, getElem_cons_succ, Act.put, setIfInBounds_toArray, set_cons_zero, set_cons_succ]
   refine wpAnyH_ready (rs := [14]) (by kernel_rfl) (by simp) ?_
   refine AllReadyH.cons (o := _) rfl (fun K hK => ?_) AllReadyH.nil
   refine Kd.R_append_step k43 (w0 := w) w.heap.size (by rfl) (.tmp 26) (.tmp 39) 26 43 (.agg #[(.string ⟨#[]⟩), (.string ⟨#[]⟩)]) 32 rfl Tryz.underlying26 info43 rfl (by decide) (by decide) u4 (tItem now :: (l.take k).flatMap bItems) (bItem b) [.string ((⟨#[98]⟩ : ByteArray) ++ b.f0), .string (listB [numB8 b.f1, num8 b.f4])] (fun _ => True) (fun _ => False) rfl rfl (k43_mkM _ _ _ (bItem b)) (fun _ hk => hk.elim) (fun _ _ => trivial) HOX.out HBX.out HBX.out.size (by have := HLN.out; omega) ?_
   intro v1 w10 ho hb hg hat
   have KY := Lib.hid (blk_grown KX.out hg (Kd.R_ne HOX.out KX.out (by decide)))
   clear hHeld0
   refine hK.out _ _ ⟨blk_cell KY.out 0, blk_cell KY.out 1, blk_cell KY.out 4⟩ (fun hHeld => ?_)
   replace HOX := Lib.hid ho
   replace HBX := Lib.hid hb
   clear hK K ho hb hg hat KX
   try simp only [getElem_toArray, getElem_cons_zero, getElem_cons_succ, Act.put, setIfInBounds_toArray, set_cons_zero, set_cons_succ]
   refine tk (i := 15) (v := ?v15g1) rfl hHeld (Or.inl ⟨rfl, ?y15g1⟩) ?r15g1
   case y15g1 => (intro w h; obtain ⟨s0, s1, s2⟩ := h; go_simp; try with_reducible rfl)
   try simp only [getElem_toArray, getElem_cons_zero, getElem_cons_succ, Act.put, setIfInBounds_toArray, set_cons_zero, set_cons_succ]
   refine wpAnyH_done (by kernel_rfl) ?_ _

   clear hHeld
   have gne0 := Lib.hid (blk_lt KY.out)
   generalize hgb : wr.heap.size = gb at *
   generalize hXS : (tItem now :: (l.take k).flatMap bItems) = XS at *
   have hlb : (b.f2.length : Int) ≤ 9223372036854775807 := by have := (index_at HGI.out).1; omega
   have dk_2 := (blk_cell KY.out 2).trans rfl
   go_wp2
   clear dk_2
   go_loopw [4, 44] (fun v j wz => ∃ (m : Nat), j = .int .i64 m ∧ m ≤ b.f2.length ∧ Hid (Kd.R k43 43 wz w.heap.size (fun _ => True) v ((XS ++ [bItem b]) ++ (b.f2.take m).flatMap (versL b.f0))) ∧ Hid (wz.heap[gb]? = some (.cells #[.string b.f0, .int .i64 b.f1, .slice A2 b.f2.length c2, .slice A3 b.f3.length c3, .int .u64 b.f4] 35 (0, 0))) ∧ Hid (Below w.heap.size w wz)) (fun _ j _ => b.f2.length - (intOf j).toNat)
   case atStart => exact ⟨0, rfl, Nat.zero_le _, Lib.hid (by rw [List.take_zero, List.flatMap_nil, List.append_nil]; exact HOX.out), KY, HBX⟩
   case round =>
    obtain ⟨m, rfl, hm, hoz, hkz, hbz⟩ := hrel
    have dz_0 := (blk_cell hkz.out 0).trans rfl; have dz_1 := (blk_cell hkz.out 1).trans rfl; have dz_2 := (blk_cell hkz.out 2).trans rfl; have dz_3 := (blk_cell hkz.out 3).trans rfl; have dz_4 := (blk_cell hkz.out 4).trans rfl
    have HLM : Hid (((XS ++ [bItem b]) ++ (b.f2.take m).flatMap (versL b.f0)).length ≤ 15000) := by
     unfold Hid
     have a := flat_le (versL b.f0) 20 (b.f2.take m) (fun x hx => by rw [versL_len]; exact (chain_small (index_mem HGI.out x (List.mem_of_mem_take hx)).2.2).1)
     have a1 := (index_at HGI.out).1
     have a2 := HLN.out
     rw [List.length_take] at a
     rw [List.length_append, List.length_append, List.length_singleton]
     omega
    by_cases hmt : m < b.f2.length
    ·obtain ⟨ae, A1, c1, e9, hx0, hx1, hl1, hC1⟩ := atEntry HCE.out.1 hbz.out m hmt
     obtain ⟨gk, _, gch⟩ := index_mem HGI.out _ (List.getElem_mem hmt)
     have gks := key_size gk
     have gcs := chain_small gch
     have hHC := HCE.out.1
     subst e9
     have HVC : Hid (∀ W, Below w.heap.size w W → Kd.C k80 W A1 b.f2[m].f1.length b.f2[m].f1 → Calls Tryz.prog 16 #[.agg #[.string b.f0, .int .i64 b.f1, .slice (some ae) b.f2.length c2, .slice A3 b.f3.length c3, .int .u64 b.f4], .agg #[.string b.f2[m].f0, .slice A1 b.f2[m].f1.length c1]] W fun e w' => ∃ v0_ : Value, e = .returned v0_ ∧ Kd.R k43 43 w' W.heap.size (fun _ => True) v0_ (versL b.f0 b.f2[m]) ∧ Below W.heap.size W w') := fun W h hx => versions.walk b.f0 b.f2[m].f0 b.f1 b.f4 (some ae) A3 b.f2.length b.f3.length c2 c3 A1 c1 b.f2[m].f1 W hx HGS.out gks gcs.1 (fun v hv => (mayV_small (gcs.2.1 v hv)).2.1)
     have HRL : Hid ((versL b.f0 b.f2[m]).length ≤ 20) := by unfold Hid; rw [versL_len]; exact gcs.1
     have HS2 := Lib.hid (flat_snoc (versL b.f0) b.f2 m hmt)
     have HC1 := Lib.hid hC1
     clear gk gch gks gcs hHC hC1
     generalize versL b.f0 b.f2[m] = r at HVC HRL HS2
     generalize b.f2[m] = x at *
     have HKA := Lib.hid (blk_alloc hkz.out (.cells #[.string x.f0, .slice A1 x.f1.length c1] 38))
     have HBA := Lib.hid (hbz.out.alloc hbz.out.size (.cells #[.string x.f0, .slice A1 x.f1.length c1] 38))
     have hltz := blk_lt hkz.out
     have gne : wr.heap.size ≠ gb := by omega
     have gne2 : gb ≠ wr.heap.size := by omega
     have gne3 : (gb = wr.heap.size) = False := eq_false gne2
     have HLX : Hid (((XS ++ [bItem b]) ++ (b.f2.take m).flatMap (versL b.f0)).length + r.length ≤ 1000000) := by have := HLM.out; have := HRL.out; unfold Hid; omega
     generalize hX2 : (XS ++ [bItem b]) ++ (b.f2.take m).flatMap (versL b.f0) = X2 at *
     go_wp2_with (first
      | (go_at_call 16; go_must (refine (HVC.out _ HBA.out (Kd.C_below HC1.out (belowA _ _))).mono ?_; rintro e w11 ⟨v11, rfl, hv, hb11⟩; obtain ⟨Av, cv, rfl⟩ := Kd.R_slice hv; have HV11 := Lib.hid hv; have HO11 := Lib.hid (Kd.R_below (Kd.R_below hoz.out (belowA _ _)) hb11); have KB11 := Lib.hid (blk_below HKA.out hb11); have HB11 := keepB HBA hb11; clear hv hb11))
      | ((with_reducible refine gate_builtin (b := .append) (xs := #[.tmp 48, .tmp 51]) rfl ?_); at_builtin; go_must (refine appI (w0 := w) w.heap.size rfl (.tmp 48) (.tmp 51) rfl _ X2 r Av _ cv (fun _ => True) rfl rfl HO11.out (Kd.R_reads' HV11.out).2.2 (fun _ _ => trivial) HB11.out HB11.out.size HLX.out ?_; intro v52 w12 ho hb hg hat; have HO12 := Lib.hid ho; have HB12 := Lib.hid hb; have KB12 := Lib.hid (blk_grown KB11.out hg (Kd.R_ne HO11.out KB11.out (by decide))); clear ho hb hg hat)))
     go_roundw
     case rel => exact ⟨m + 1, by go_num, by omega, Lib.hid (by rw [HS2.out, ← List.append_assoc, hX2]; exact HO12.out), KB12, HB12⟩
     case measure => simp [intOf]; omega
    ·obtain rfl : m = b.f2.length := by omega
     have HUC : Hid (∀ W, Below w.heap.size w W → Calls Tryz.prog 17 #[.agg #[.string b.f0, .int .i64 b.f1, .slice A2 b.f2.length c2, .slice A3 b.f3.length c3, .int .u64 b.f4]] W fun e w' => ∃ v0_ : Value, e = .returned v0_ ∧ Kd.R k43 43 w' W.heap.size (fun _ => True) v0_ (upsL b.f0 b.f3) ∧ Below W.heap.size W w') := fun W h => uploads.walk b.f0 b.f1 b.f4 A2 b.f2.length c2 A3 c3 b.f3 W (Kd.C_below HCE.out.2 h) HGS.out (check_mem HGC.out).1 (fun u hu => by
      obtain ⟨_, y2, y3, y4⟩ := fine_small ((check_mem HGC.out).2 u hu)
      exact ⟨key_size y2, y3, fun p hp => (mayB_small (y4 p hp)).2.2⟩)
     have HRL : Hid ((upsL b.f0 b.f3).length ≤ 310) := by
      have c0 := flat_le (upItems b.f0) 31 b.f3 (fun u hu => by rw [upItems_len]; have := (fine_small ((check_mem HGC.out).2 u hu)).2.2.1; omega)
      have c1 := (check_mem HGC.out).1
      unfold Hid upsL; omega
     have HLX : Hid (((XS ++ [bItem b]) ++ (b.f2.take b.f2.length).flatMap (versL b.f0)).length + (upsL b.f0 b.f3).length ≤ 1000000) := by have := HLM.out; have := HRL.out; unfold Hid; omega
     have HEND : Hid ((((XS ++ [bItem b]) ++ (b.f2.take b.f2.length).flatMap (versL b.f0)) ++ upsL b.f0 b.f3) = tItem now :: (l.take (k + 1)).flatMap bItems) := by
      unfold Hid
      rw [List.take_length, HSN.out, ← List.cons_append, hXS]
      unfold bItems
      simp
     generalize hr : upsL b.f0 b.f3 = r at HUC HRL HLX HEND
     generalize hX2 : (XS ++ [bItem b]) ++ (b.f2.take b.f2.length).flatMap (versL b.f0) = X2 at *
     clear hr hX2
     go_wp2_with (first
      | (go_at_call 17; go_must (refine (HUC.out _ hbz.out).mono ?_; rintro e w11 ⟨v11, rfl, hv, hb11⟩; obtain ⟨Av, cv, rfl⟩ := Kd.R_slice hv; have HV11 := Lib.hid hv; have HO11 := Lib.hid (Kd.R_below hoz.out hb11); have HB11 := keepB hbz hb11; clear hv hb11))
      | ((with_reducible refine gate_builtin (b := .append) (xs := #[.tmp 54, .tmp 56]) rfl ?_); at_builtin; go_must (refine appI (w0 := w) w.heap.size rfl (.tmp 54) (.tmp 56) rfl _ X2 r Av _ cv (fun _ => True) rfl rfl HO11.out (Kd.R_reads' HV11.out).2.2 (fun _ _ => trivial) HB11.out HB11.out.size HLX.out ?_; intro v57 w12 ho hb hg hat; rw [HEND.out] at ho; have HO12 := Lib.hid ho; have HB12 := Lib.hid hb; clear ho hb hg hat)))
     go_roundw
     case rel => exact ⟨k + 1, by go_num, by omega, HO12, HB12⟩
     case measure => simp [intOf]; omega
  ·obtain rfl : k = l.length := by omega
   have HN : Hid (NRow35 wr w.heap.size u4 (depL now l)) := by
    have := NRow35.of_R ho.out
    rw [List.take_length] at this
    exact this
   have HLD : Hid ((depL now l).length ≤ 1000000) := by
    obtain ⟨g1, g2, g3, g4⟩ := depot_at HD.out
    have := flat_le bItems 2000 l (fun x hx => by
     obtain ⟨j, hj, rfl⟩ := List.getElem_of_mem hx
     exact bItems_len (g4 j hj).1)
    unfold Hid depL
    rw [List.length_cons]
    omega
   clear ho
   generalize hys : depL now l = ys at HN HLD
   have HYS := Lib.hid hys; clear hys
   go_wp2_with (first
    | (go_at_call 18; refine (sort_notes35 w.heap.size u4 ys _ HN.out HLD.out).mono ?_; rintro e w7 ⟨rfl, zs, hz, hp, hs, hg⟩; have HZ := Lib.hid hz; have HP := Lib.hid hp; have HS := Lib.hid hs; have HB7 := Lib.hid (hb.out.grown hg hb.out.size (own_base HN.out)); clear hz hp hs hg))
   go_ret2
   exact ⟨_, zs, rfl, HZ.out, by rw [HYS.out]; exact HP.out, HS.out, HB7.out⟩
theorem of_no.walk (now : Int) (A : Option Addr) (c : Nat) (l : List S35) (w : World) (hr : Kd.C k35 w A l.length l) (hd : depotB now l = false) :
  Calls Tryz.prog 6 #[.agg #[.int .i64 now, .slice A l.length c]] w fun e w' => e = .returned (.tuple #[.slice none 0 0, .int .i64 1]) ∧ Below w.heap.size w w' := by
 have HCK := Lib.hid (fun (W : World) (h : Below w.heap.size w W) => depot.walk now A c l W (Kd.C_below hr h))
 rw [hd, show errB false = 1 from rfl] at HCK
 have HB0 := Lib.hid ((Below.refl w.heap.size w).alloc (Nat.le_refl _) (.cells #[.int .i64 now, .slice A l.length c] 24))
 clear hr hd
 go_enter Tryz.func6, Tryz.ntmps6
 go_wp2_with (go_at_call 12; refine (HCK.out _ HB0.out).mono ?_; rintro e w2 ⟨rfl, hb⟩; have HB2 := keepB HB0 hb; clear hb)
 go_ret2
 exact ⟨rfl, HB2.out⟩
end Go.Proofs.YtafeepdlcilicaaGreat.Q

-- J0
namespace Go.Proofs.YtafeepdlcilicaaGreat.Q
open Go.WideMaps Go.RowKit Go.Proofs.YtafeepdlcilicaaGreatW.PrintWords Go.Proofs.YtafeepdlcilicaaGreatW.PrintLast Go.Proofs.YtafeepdlcilicaaGreatW.PrintMore Go.Maps
set_option linter.unusedVariables false
set_option linter.unusedSimpArgs false

/-! ### the laws' Few in plain words -/

/-! law08.Few in plain words. -/
def fewKey (s : ByteArray) : ByteArray := if (s.size : Int) > 80 then s.extract 0 80 else s
def cutP (p : S82) : S82 := ⟨p.f0, if (p.f1.size : Int) > 2001 then p.f1.extract 0 2001 else p.f1⟩
def cutU (u : S41) : S41 := ⟨u.f0, fewKey u.f1, (u.f2.take 31).map cutP⟩
def fewUs (l : List S41) : List S41 := (l.take 11).map cutU
theorem few_key (s : ByteArray) : cellarerlaw01_Few.f s = some (fewKey s) := by
 unfold cellarerlaw01_Few.f fewKey
 by_cases h : (s.size : Int) > 80
 ·rw [if_pos h, if_pos (by decide), if_pos (by omega), if_pos h]
 ·rw [if_neg h, if_neg h]
theorem one_part (p : S82) : cellarerlaw08_One.f p.f0 p.f1 = some ((cutP p).f0, (cutP p).f1) := by
 unfold cellarerlaw08_One.f cutP
 by_cases h : (p.f1.size : Int) > 2001
 ·rw [if_pos h, if_pos (by decide), if_pos (by omega)]; simp only [if_pos h]
 ·rw [if_neg h]; simp only [if_neg h]
theorem fewU_l1 (l : List S41) (out : List S41) (i : Nat) (hi : i < l.length) (hi2 : i < 11) (hout : out.length ≤ i) (a : Int) (b : ByteArray) (k : Nat) :
  ∀ (d j : Nat) (acc : List S82), j + d = min 31 (l.getD i z41).f2.length → acc.length ≤ j →
  cellarerlaw08_Few.l1 (k + d + 1) l out (i : Int) (j : Int) a b acc = cellarerlaw08_Few.l0 k l (out ++ [⟨a, b, acc ++ ((((l.getD i z41).f2.take 31).drop j).map cutP)⟩]) ((i + 1 : Nat) : Int) := by
 have er : rd_T41 l (i : Int) = l.getD i z41 := by unfold rd_T41; rw [Int.toNat_natCast]
 have ew : wrap64 ((i : Int) + 1) = ((i + 1 : Nat) : Int) := by rw [wrap64_of (by omega) (by omega)]; omega
 intro d
 induction d with
 | zero =>
  intro j acc hj hacc
  rw [show k + 0 + 1 = k + 1 from rfl]
  simp only [cellarerlaw08_Few.l1]
  rw [if_pos (by omega), if_pos (by omega), er, ew]
  have hd : (((l.getD i z41).f2.take 31).drop j) = [] := List.drop_eq_nil_of_le (by rw [List.length_take]; omega)
  rw [hd, List.map_nil, List.append_nil]
  by_cases h1 : (j : Int) < ((l.getD i z41).f2.length : Int)
  ·rw [if_pos h1, if_neg (by omega), if_pos (by omega)]
  ·rw [if_neg h1, if_pos (by omega)]
 | succ d ih =>
  intro j acc hj hacc
  rw [show k + (d + 1) + 1 = (k + d + 1) + 1 from rfl]
  generalize hK : k + d + 1 = K
  simp only [cellarerlaw08_Few.l1]
  subst hK
  rw [if_pos (by omega), if_pos (by omega), er, if_pos (by omega), if_pos (by omega), if_pos (by omega)]
  have e2 : rd_T82 (l.getD i z41).f2 (j : Int) = (l.getD i z41).f2.getD j z82 := by unfold rd_T82; rw [Int.toNat_natCast]
  rw [e2, one_part, Option.bind_some, if_pos (by omega), show wrap64 ((j : Int) + 1) = ((j + 1 : Nat) : Int) by rw [wrap64_of (by omega) (by omega)]; omega,
   ih (j + 1) _ (by omega) (by rw [List.length_append, List.length_singleton]; omega)]
  have hj1 : j < ((l.getD i z41).f2.take 31).length := by rw [List.length_take]; omega
  rw [List.drop_eq_getElem_cons hj1, List.map_cons, List.append_assoc, List.singleton_append]
  have : ((l.getD i z41).f2.take 31)[j] = (l.getD i z41).f2.getD j z82 := by
   rw [List.getElem_take, List.getD_eq_getElem?_getD (l := (l.getD i z41).f2), List.getElem?_eq_getElem (l := (l.getD i z41).f2) (by rw [List.length_take] at hj1; omega)]; rfl
  rw [this]
def needFU : List S41 → Nat
 | [] => 2
 | u :: us => needFU us + min 31 u.f2.length + 3
theorem fewU_l0 (l : List S41) (hn : (l.length : Int) ≤ 9223372036854775807) : ∀ (us : List S41) (i : Nat) (out : List S41), us = (l.take 11).drop i → out.length = i → i ≤ min 11 l.length →
  cellarerlaw08_Few.l0 (needFU us) l out (i : Int) = some (out ++ us.map cutU) := by
 intro us
 induction us with
 | nil =>
  intro i out hu ho hi
  have hl : min 11 l.length ≤ i := by
   have := congrArg List.length hu
   rw [List.length_drop, List.length_take] at this
   simp at this; omega
  show cellarerlaw08_Few.l0 (1 + 1) l out (i : Int) = _
  simp only [cellarerlaw08_Few.l0]
  by_cases h : (i : Int) < (l.length : Int)
  ·rw [if_pos h, show decide ((i : Int) < 11) = false by simp; omega]
   simp [cellarerlaw08_Few.j1]
  ·rw [if_neg h]; simp [cellarerlaw08_Few.j1]
 | cons u us ih =>
  intro i out hu ho hi
  have hlen : i < (l.take 11).length := by
   have := congrArg List.length hu
   rw [List.length_drop] at this
   simp only [List.length_cons] at this; omega
  rw [List.drop_eq_getElem_cons hlen] at hu
  injection hu with hu1 hu2
  rw [List.length_take] at hlen
  have hu3 : l.getD i z41 = u := by rw [hu1, List.getElem_take, List.getD_eq_getElem?_getD, List.getElem?_eq_getElem (by omega)]; rfl
  have er : rd_T41 l (i : Int) = u := by unfold rd_T41; rw [Int.toNat_natCast, hu3]
  show cellarerlaw08_Few.l0 (needFU us + min 31 u.f2.length + 1 + 1 + 1) l out (i : Int) = _
  generalize hK : needFU us + min 31 u.f2.length + 1 = K
  simp only [cellarerlaw08_Few.l0]
  rw [if_pos (by omega), show decide ((i : Int) < 11) = true by simp; omega]
  simp only [cellarerlaw08_Few.j1]
  subst hK
  rw [if_pos trivial, if_pos (by omega), if_pos (by omega), er, few_key, Option.bind_some]
  have := fewU_l1 l out i (by omega) (by omega) (by omega) u.f0 (fewKey u.f1) (needFU us) (min 31 u.f2.length) 0 [] (by rw [hu3]; omega) (by simp)
  rw [show ((0 : Nat) : Int) = 0 from rfl] at this
  rw [this, hu3, List.drop_zero, List.nil_append, ih (i + 1) _ hu2 (by simp [ho]) (by omega), List.map_cons, List.append_assoc]
  rfl
theorem needFU_le : ∀ us : List S41, needFU us ≤ 34 * us.length + 2
 | [] => by simp [needFU]
 | u :: us => by
  have := needFU_le us
  show needFU us + min 31 u.f2.length + 3 ≤ _
  rw [List.length_cons]; omega
theorem fewUs_ge (l : List S41) (hn : (l.length : Int) ≤ 9223372036854775807) (k : Nat) (hk : 400 ≤ k) : cellarerlaw08_Few.f k l = some (fewUs l) := by
 have h := fewU_l0 l hn (l.take 11) 0 [] rfl rfl (by omega)
 have hl := needFU_le (l.take 11)
 rw [List.length_take] at hl
 obtain ⟨d, rfl⟩ : ∃ d, k = needFU (l.take 11) + d := ⟨k - needFU (l.take 11), by omega⟩
 refine fuel_up (fun k => cellarerlaw08_Few.mono l k) ?_ d
 unfold cellarerlaw08_Few.f
 exact h
def cutV (v : S80) : S80 := ⟨v.f0, if (v.f1.size : Int) > 2001 then v.f1.extract 0 2001 else v.f1, v.f2, v.f3⟩
def fewV (l : List S80) : List S80 := (l.take 21).map cutV
def cutE (x : S38) : S38 := ⟨fewKey x.f0, fewV x.f1⟩
def fewE (l : List S38) : List S38 := (l.take 61).map cutE
def cutB (b : S35) : S35 := ⟨fewKey b.f0, b.f1, fewE b.f2, fewUs b.f3, b.f4⟩
def fewD (l : List S35) : List S35 := (l.take 7).map cutB
theorem one_v (v : S80) : cellarerlaw05_One.f v.f0 v.f1 v.f2 v.f3 = some ((cutV v).f0, (cutV v).f1, (cutV v).f2, (cutV v).f3) := by
 unfold cellarerlaw05_One.f cutV
 by_cases h : (v.f1.size : Int) > 2001
 ·rw [if_pos h, if_pos (by decide), if_pos (by omega)]; simp only [if_pos h]
 ·rw [if_neg h]; simp only [if_neg h]
theorem drop_take_map {α β : Type} (f : α → β) (l : List α) (m i : Nat) (hi : i < l.length) (hm : i < m) : ((l.take m).drop i).map f = f l[i] :: ((l.take m).drop (i + 1)).map f := by
 have h : i < (l.take m).length := by rw [List.length_take]; omega
 rw [List.drop_eq_getElem_cons h, List.map_cons, List.getElem_take]
theorem drop_take_nil {α β : Type} (f : α → β) (l : List α) (m i : Nat) (h : min m l.length ≤ i) : ((l.take m).drop i).map f = [] := by
 rw [List.drop_eq_nil_of_le (by rw [List.length_take]; omega)]; rfl
theorem few5_l0 (l : List S80) (K : Nat) : ∀ (d i : Nat) (acc : List S80), i + d = min 21 l.length → acc.length = i →
  cellarerlaw05_Few.l0 (K + d + 1) l acc (i : Int) = some (acc ++ ((l.take 21).drop i).map cutV) := by
 intro d
 induction d with
 | zero =>
  intro i acc hi ha
  rw [show K + 0 + 1 = K + 1 from rfl]
  simp only [cellarerlaw05_Few.l0]
  rw [drop_take_nil _ _ _ _ (by omega), List.append_nil]
  by_cases h : (i : Int) < (l.length : Int)
  ·rw [if_pos h, if_neg (by omega)]
  ·rw [if_neg h]
 | succ d ih =>
  intro i acc hi ha
  have hi' : i < l.length := by omega
  rw [show K + (d + 1) + 1 = (K + d + 1) + 1 from rfl]
  generalize hM : K + d + 1 = M
  simp only [cellarerlaw05_Few.l0]
  subst hM
  rw [if_pos (by omega), if_pos (by omega), if_pos (by omega), rdV' l i hi', one_v, Option.bind_some, if_pos (by omega), succ_w i (by unfold bigN; omega), ih (i + 1) _ (by omega) (by simp [ha]), drop_take_map cutV l 21 i hi' (by omega), List.append_assoc]
  rfl
theorem few5_ge (l : List S80) (k : Nat) (hk : 30 ≤ k) : cellarerlaw05_Few.f k l = some (fewV l) := by
 obtain ⟨K, rfl⟩ : ∃ K, k = K + min 21 l.length + 1 := ⟨k - (min 21 l.length + 1), by omega⟩
 unfold cellarerlaw05_Few.f
 have := few5_l0 l K (min 21 l.length) 0 [] (by omega) rfl
 rw [List.drop_zero, List.nil_append] at this
 exact this
theorem few6_l0 (l : List S38) (K : Nat) (hK : 30 ≤ K) : ∀ (d i : Nat) (acc : List S38), i + d = min 61 l.length → acc.length = i →
  cellarerlaw06_Few.l0 (K + 2 * d + 2) l acc (i : Int) = some (acc ++ ((l.take 61).drop i).map cutE) := by
 intro d
 induction d with
 | zero =>
  intro i acc hi ha
  rw [show K + 2 * 0 + 2 = (K + 1) + 1 from rfl]
  generalize hM : K + 1 = M
  simp only [cellarerlaw06_Few.l0]
  subst hM
  rw [drop_take_nil _ _ _ _ (by omega), List.append_nil]
  by_cases h : (i : Int) < (l.length : Int)
  ·rw [if_pos h, show decide ((i : Int) < 61) = false by simp; omega]; simp [cellarerlaw06_Few.j1]
  ·rw [if_neg h]; simp [cellarerlaw06_Few.j1]
 | succ d ih =>
  intro i acc hi ha
  have hi' : i < l.length := by omega
  rw [show K + 2 * (d + 1) + 2 = (K + 2 * d + 2 + 1) + 1 by omega]
  generalize hM : K + 2 * d + 2 + 1 = M
  simp only [cellarerlaw06_Few.l0]
  subst hM
  rw [if_pos (by omega), show decide ((i : Int) < 61) = true by simp; omega]
  generalize hM : K + 2 * d + 2 = M
  simp only [cellarerlaw06_Few.j1]
  subst hM
  rw [if_pos trivial, if_pos (by omega), if_pos (by omega), rdE' l i hi', few_key, Option.bind_some, few5_ge _ _ (by omega), Option.bind_some, if_pos (by omega), succ_w i (by unfold bigN; omega), ih (i + 1) _ (by omega) (by simp [ha]), drop_take_map cutE l 61 i hi' (by omega), List.append_assoc]
  rfl
theorem few6_ge (l : List S38) (k : Nat) (hk : 200 ≤ k) : cellarerlaw06_Few.f k l = some (fewE l) := by
 obtain ⟨K, rfl⟩ : ∃ K, k = K + 2 * min 61 l.length + 2 := ⟨k - (2 * min 61 l.length + 2), by omega⟩
 unfold cellarerlaw06_Few.f
 have := few6_l0 l K (by omega) (min 61 l.length) 0 [] (by omega) rfl
 rw [List.drop_zero, List.nil_append] at this
 exact this
theorem few9_ge (b : S35) (hn : (b.f3.length : Int) ≤ 9223372036854775807) (k : Nat) (hk : 400 ≤ k) : cellarerlaw09_Few.f k b.f0 b.f1 b.f2 b.f3 b.f4 = some ((cutB b).f0, (cutB b).f1, (cutB b).f2, (cutB b).f3, (cutB b).f4) := by
 unfold cellarerlaw09_Few.f
 rw [few_key, Option.bind_some, few6_ge _ _ (by omega), Option.bind_some, fewUs_ge _ hn _ hk, Option.bind_some]
 rfl
theorem rdB' (l : List S35) (i : Nat) (h : i < l.length) : rd_T35 l (i : Int) = l[i] := rdBucket l i h
theorem few10_l0 (now : Int) (l : List S35) (hn : ∀ b ∈ l, (b.f3.length : Int) ≤ 9223372036854775807) (K : Nat) (hK : 400 ≤ K) : ∀ (d i : Nat) (acc : List S35), i + d = min 7 l.length → acc.length = i →
  cellarerlaw10_Few.l0 (K + d + 1) (i : Int) now l now acc = some (now, acc ++ ((l.take 7).drop i).map cutB) := by
 intro d
 induction d with
 | zero =>
  intro i acc hi ha
  rw [show K + 0 + 1 = K + 1 from rfl]
  simp only [cellarerlaw10_Few.l0]
  rw [drop_take_nil _ _ _ _ (by omega), List.append_nil]
  by_cases h : (i : Int) < (l.length : Int)
  ·rw [if_pos h, if_neg (by omega)]
  ·rw [if_neg h]
 | succ d ih =>
  intro i acc hi ha
  have hi' : i < l.length := by omega
  rw [show K + (d + 1) + 1 = (K + d + 1) + 1 from rfl]
  generalize hM : K + d + 1 = M
  simp only [cellarerlaw10_Few.l0]
  subst hM
  rw [if_pos (by omega), if_pos (by omega), if_pos (by omega), rdB' l i hi', few9_ge _ (hn _ (List.getElem_mem hi')) _ (by omega), Option.bind_some, if_pos (by omega), succ_w i (by unfold bigN; omega), ih (i + 1) _ (by omega) (by simp [ha]), drop_take_map cutB l 7 i hi' (by omega), List.append_assoc]
  rfl
theorem few10_ge (now : Int) (l : List S35) (hn : ∀ b ∈ l, (b.f3.length : Int) ≤ 9223372036854775807) (k : Nat) (hk : 500 ≤ k) : cellarerlaw10_Few.f k now l = some (now, fewD l) := by
 obtain ⟨K, rfl⟩ : ∃ K, k = K + min 7 l.length + 1 := ⟨k - (min 7 l.length + 1), by omega⟩
 unfold cellarerlaw10_Few.f
 have := few10_l0 now l hn K (by omega) (min 7 l.length) 0 [] (by omega) rfl
 rw [List.drop_zero, List.nil_append] at this
 exact this
/-- The lists inside of buckets that are read are no longer than a number may be. -/
theorem inner_buckets {w : World} {A : Option Addr} {l : List S35} (hr : Kd.C k35 w A l.length l) : ∀ b ∈ l, (b.f3.length : Int) ≤ 9223372036854775807 := by
 intro b hb
 obtain ⟨k, hk, rfl⟩ := List.getElem_of_mem hb
 obtain ⟨ad, A2, c2, A3, c3, _, _, _, _, _, _, _, _, _, h⟩ := atBucket hr (Below.refl _ _) k hk
 have := h.2.1
 omega
end Go.Proofs.YtafeepdlcilicaaGreat.Q

-- J1
namespace Go.Proofs.YtafeepdlcilicaaGreat.Q
open Go.WideMaps Go.RowKit Go.Proofs.YtafeepdlcilicaaGreatW.PrintWords Go.Proofs.YtafeepdlcilicaaGreatW.PrintLast Go.Proofs.YtafeepdlcilicaaGreatW.PrintMore Go.Maps
set_option linter.unusedVariables false
set_option linter.unusedSimpArgs false

/-! ### no two items of one name -/
def LB8 (a : ByteArray) : List UInt8 := a.data.toList
theorem LB8_inj {a b : ByteArray} (h : LB8 a = LB8 b) : a = b := bytes_inj h
theorem LB8_app (a b : ByteArray) : LB8 (a ++ b) = LB8 a ++ LB8 b := by unfold LB8; simp [ByteArray.data_append]
theorem LB8_one (c : UInt8) : LB8 ⟨#[c]⟩ = [c] := rfl
theorem LB8_len (a : ByteArray) : (LB8 a).length = a.size := by unfold LB8; rw [Array.length_toList]; rfl
theorem split10 : ∀ {a b x y : List UInt8}, (10 : UInt8) ∉ a → (10 : UInt8) ∉ b → a ++ 10 :: x = b ++ 10 :: y → a = b ∧ x = y
 | [], [], x, y, _, _, h => by simpa using h
 | [], c :: b, x, y, _, hb, h => by
  rw [List.nil_append, List.cons_append] at h
  injection h with h1 h2
  subst h1
  exact absurd List.mem_cons_self hb
 | c :: a, [], x, y, ha, _, h => by
  rw [List.nil_append, List.cons_append] at h
  injection h with h1 h2
  subst h1
  exact absurd List.mem_cons_self ha
 | c :: a, d :: b, x, y, ha, hb, h => by
  rw [List.cons_append, List.cons_append] at h
  injection h with h1 h2
  obtain ⟨h3, h4⟩ := split10 (fun q => ha (List.mem_cons_of_mem _ q)) (fun q => hb (List.mem_cons_of_mem _ q)) h2
  exact ⟨by rw [h1, h3], h4⟩
theorem bname_no10 {s : ByteArray} (h : bnameB s = true) : (10 : UInt8) ∉ LB8 s := by
 unfold bnameB wordB at h
 simp only [Bool.and_eq_true, List.all_eq_true] at h
 intro hm
 have := h.1.2.2 10 hm
 exact absurd this (by decide)
theorem key_no10 {s : ByteArray} (h : keyB s = true) : (10 : UInt8) ∉ LB8 s := by
 unfold keyB at h
 simp only [Bool.and_eq_true, List.all_eq_true] at h
 intro hm
 have := h.2.2 10 hm
 exact absurd this (by decide)
theorem num8_inj {a b : Int} (ha : wfu a) (hb : wfu b) (h : num8 a = num8 b) : a = b := by
 unfold wfu at ha hb
 obtain ⟨n, rfl⟩ := Int.eq_ofNat_of_zero_le ha.1
 obtain ⟨m, rfl⟩ := Int.eq_ofNat_of_zero_le hb.1
 have h1 := num_laid n (by omega)
 have h2 := num_laid m (by omega)
 rw [h, h2] at h1
 injection h1 with h1
 exact h1.symm
theorem pw_of_step {α : Type} (R : α → α → Prop) (htr : ∀ a b c, R a b → R b c → R a c) : ∀ (l : List α), (∀ j (h1 : j + 1 < l.length), R l[j] l[j + 1]) → l.Pairwise R
 | [], _ => List.Pairwise.nil
 | x :: l, h => by
  have ih := pw_of_step R htr l (fun j h1 => h (j + 1) (by simp only [List.length_cons]; omega))
  refine List.Pairwise.cons (fun y hy => ?_) ih
  match l, h, ih, hy with
  | z :: l, h, ih, hy =>
   have h0 : R x z := h 0 (by simp)
   rcases List.mem_cons.1 hy with rfl | hy
   ·exact h0
   ·exact htr _ _ _ h0 (List.rel_of_pairwise_cons ih hy)
def NeI (a b : S43) : Prop := a.f0 ≠ b.f0
theorem hd_ne {a b : S43} {c d : UInt8} {x y : List UInt8} (ha : LB8 a.f0 = c :: x) (hb : LB8 b.f0 = d :: y) (h : c ≠ d) : NeI a b := fun e => by
 rw [e, hb] at ha
 injection ha with h1 _
 exact h h1.symm
theorem verName_L (nm key : ByteArray) (id : Int) : LB8 (verName nm key id) = 118 :: (LB8 nm ++ 10 :: (LB8 key ++ 10 :: LB8 (num8 id))) := by
 unfold verName
 simp only [LB8_app, LB8_one, List.append_assoc, List.singleton_append, List.cons_append, List.nil_append]
theorem upId_L (nm : ByteArray) (id : Int) : LB8 (upId nm id) = LB8 nm ++ 10 :: LB8 (num8 id) := by
 unfold upId
 simp only [LB8_app, LB8_one, List.append_assoc, List.singleton_append, List.cons_append, List.nil_append]
theorem mem_verFrom {nm key : ByteArray} {n : Nat} {x : S43} : ∀ {vs : List S80} {i : Nat}, x ∈ verFrom nm key n i vs → ∃ v ∈ vs, x.f0 = verName nm key v.f0
 | [], _, h => by cases h
 | v :: vs, i, h => by
  rcases List.mem_cons.1 h with rfl | h
  ·exact ⟨v, List.mem_cons_self, rfl⟩
  ·obtain ⟨u, hu, e⟩ := mem_verFrom h
   exact ⟨u, List.mem_cons_of_mem _ hu, e⟩
theorem verFrom_pw (nm key : ByteArray) (n : Nat) : ∀ (vs : List S80) (i : Nat), (∀ v ∈ vs, wfVersion v) → vs.Pairwise (fun a b => a.f0 ≠ b.f0) → (verFrom nm key n i vs).Pairwise NeI
 | [], _, _, _ => List.Pairwise.nil
 | v :: vs, i, hw, hp => by
  rw [List.pairwise_cons] at hp
  refine List.Pairwise.cons (fun y hy => ?_) (verFrom_pw nm key n vs (i + 1) (fun u hu => hw u (List.mem_cons_of_mem _ hu)) hp.2)
  obtain ⟨u, hu, e⟩ := mem_verFrom hy
  intro e2
  have e3 : verName nm key v.f0 = verName nm key u.f0 := by rw [← e]; exact e2
  have e4 := congrArg LB8 e3
  rw [verName_L, verName_L] at e4
  injection e4 with _ e4
  have e5 := List.append_cancel_left e4
  injection e5 with _ e5
  have e6 := List.append_cancel_left e5
  injection e6 with _ e6
  exact hp.1 u hu (num8_inj (hw v List.mem_cons_self).1 (hw u (List.mem_cons_of_mem _ hu)).1 (LB8_inj e6))
theorem ch_ids : ∀ (vs : List S80) (pa last : Int) (null : Bool), chFrom vs pa last null = true →
  (∀ v ∈ vs, v.f0 ≠ 0 → v.f0 < last) ∧ (null = true → ∀ v ∈ vs, v.f0 ≠ 0) ∧ vs.Pairwise (fun a b => a.f0 ≠ b.f0)
 | [], _, _, _, _ => ⟨fun _ h => (by cases h), fun _ _ h => (by cases h), List.Pairwise.nil⟩
 | v :: vs, pa, last, null, h => by
  unfold chFrom at h
  simp only [Bool.and_eq_true, Bool.not_eq_true'] at h
  obtain ⟨_, h2, h3, h4⟩ := h
  have h3' : v.f0 < last := by simpa using h3
  cases hz : (v.f0 == 0)
  ·rw [hz, if_neg (by simp)] at h4
   have hz' : v.f0 ≠ 0 := by simpa using hz
   obtain ⟨i1, i2, i3⟩ := ch_ids vs _ _ _ h4
   refine ⟨fun u hu hn => ?_, fun hn u hu => ?_, List.Pairwise.cons (fun u hu e => ?_) i3⟩
   ·rcases List.mem_cons.1 hu with rfl | hu
    ·exact h3'
    ·have := i1 u hu hn; omega
   ·rcases List.mem_cons.1 hu with rfl | hu
    ·exact hz'
    ·exact i2 hn u hu
   ·have := i1 u hu (by rw [← e]; exact hz')
    rw [← e] at this
    exact absurd this (by omega)
  ·rw [hz, if_pos rfl] at h4
   have hz' : v.f0 = 0 := by simpa using hz
   rw [hz, Bool.true_and] at h2
   obtain ⟨i1, i2, i3⟩ := ch_ids vs _ _ _ h4
   refine ⟨fun u hu hn => ?_, fun hn u hu => ?_, List.Pairwise.cons (fun u hu e => ?_) i3⟩
   ·rcases List.mem_cons.1 hu with rfl | hu
    ·exact absurd hz' hn
    ·exact i1 u hu hn
   ·rw [hn] at h2; cases h2
   ·exact i2 rfl u hu (by rw [← e]; exact hz')
theorem versL_pw {nm : ByteArray} {x : S38} (h : chainB x.f1 = true) (hw : wfEntry x) : (versL nm x).Pairwise NeI := by
 obtain ⟨_, _, h3⟩ := chain_small h
 exact verFrom_pw nm x.f0 _ _ _ hw (ch_ids _ _ _ _ h3).2.2
theorem vers_ne {nm : ByteArray} {x y : S38} (hx : keyB x.f0 = true) (hy : keyB y.f0 = true) (hne : x.f0 ≠ y.f0) : ∀ a ∈ versL nm x, ∀ b ∈ versL nm y, NeI a b := by
 intro a ha b hb e
 obtain ⟨u, _, e1⟩ := mem_verFrom ha
 obtain ⟨v, _, e2⟩ := mem_verFrom hb
 have e3 : verName nm x.f0 u.f0 = verName nm y.f0 v.f0 := by rw [← e1, ← e2]; exact e
 have e4 := congrArg LB8 e3
 rw [verName_L, verName_L] at e4
 injection e4 with _ e4
 have e5 := List.append_cancel_left e4
 injection e5 with _ e5
 exact hne (LB8_inj (split10 (key_no10 hx) (key_no10 hy) e5).1)
theorem index_pw {l : List S38} (h : indexB l = true) : l.Pairwise (fun a b => a.f0 ≠ b.f0) := by
 have hp : l.Pairwise (fun a b => ltN a.f0 b.f0) := pw_of_step (fun a b : S38 => ltN a.f0 b.f0) (fun _ _ _ => ltN_trans) l (fun j h1 => by
  obtain ⟨_, h2, _⟩ := (index_at h).2 (j + 1) h1
  unfold upB at h2
  rw [getD_at l (j + 1) _ h1, Nat.add_sub_cancel, getD_at l j _ (by omega), decide_eq_false (Nat.succ_ne_zero j), Bool.false_or] at h2
  exact bless_ltN.1 h2)
 refine hp.imp ?_
 intro a b h e
 rw [e] at h
 exact ltN_irrefl _ h
theorem parts_pw {u : Int} {key : ByteArray} {l : List S82} (h : fineB u key l = true) : l.Pairwise (fun a b => a.f0 < b.f0) := by
 refine pw_of_step (fun a b : S82 => a.f0 < b.f0) (fun _ _ _ => Int.lt_trans) l (fun j h1 => ?_)
 unfold fineB at h
 simp only [Bool.and_eq_true, decide_eq_true_eq] at h
 have := allFrom_at h.2.2.2 (j + 1) (Nat.zero_le _) (by omega)
 unfold adjB at this
 rw [getD_at l (j + 1) _ h1, Nat.add_sub_cancel, getD_at l j _ (by omega), decide_eq_false (Nat.succ_ne_zero j), Bool.false_or] at this
 simp only [Bool.and_eq_true, decide_eq_true_eq] at this
 exact this.2
theorem ups_pw {l : List S41} (h : checkB l = true) : l.Pairwise (fun a b => a.f0 < b.f0) := by
 refine pw_of_step (fun a b : S41 => a.f0 < b.f0) (fun _ _ _ => Int.lt_trans) l (fun j h1 => ?_)
 unfold checkB at h
 simp only [Bool.and_eq_true, decide_eq_true_eq] at h
 have := allFrom_at h.2 (j + 1) (Nat.zero_le _) (by omega)
 unfold adjU at this
 rw [getD_at l (j + 1) _ h1, Nat.add_sub_cancel, getD_at l j _ (by omega), decide_eq_false (Nat.succ_ne_zero j), Bool.false_or] at this
 simp only [Bool.and_eq_true, decide_eq_true_eq] at this
 exact this.2
theorem depots_pw {now : Int} {l : List S35} (h : depotB now l = true) : l.Pairwise (fun a b => ltN a.f0 b.f0) := by
 refine pw_of_step (fun a b : S35 => ltN a.f0 b.f0) (fun _ _ _ => ltN_trans) l (fun j h1 => ?_)
 obtain ⟨_, _, h2⟩ := (depot_at h).2.2.2 (j + 1) h1
 unfold upD at h2
 rw [getD_at l (j + 1) _ h1, Nat.add_sub_cancel, getD_at l j _ (by omega), decide_eq_false (Nat.succ_ne_zero j), Bool.false_or] at h2
 exact bless_ltN.1 h2
theorem numB_wf {i : Int} (h : numB i = true) : wfu i := by
 unfold numB at h
 simp only [Bool.and_eq_true, decide_eq_true_eq] at h
 unfold wfu; omega
theorem numB8_of {n : Int} (h0 : 0 ≤ n) (h1 : n ≤ 9223372036854775807) : numB8 n = num8 n := by
 unfold numB8
 rw [show IntKind.u64.wrap n = n by simp [IntKind.wrap, IntKind.bits, IntKind.signed]; omega]
theorem partItem_L (id : ByteArray) (p : S82) : LB8 (partItem id p).f0 = 112 :: (LB8 id ++ LB8 (numB8 p.f0)) := by
 unfold partItem
 simp only [LB8_app, LB8_one, List.append_assoc, List.singleton_append, List.cons_append, List.nil_append]
theorem mem_upItems {nm : ByteArray} {u : S41} {x : S43} (h : x ∈ upItems nm u) : LB8 x.f0 = 117 :: LB8 (upId nm u.f0) ∨ ∃ p ∈ u.f2, LB8 x.f0 = 112 :: (LB8 (upId nm u.f0) ++ LB8 (numB8 p.f0)) := by
 unfold upItems at h
 rcases List.mem_cons.1 h with rfl | h
 ·left
  simp only [LB8_app, LB8_one, List.singleton_append]
 ·obtain ⟨p, hp, rfl⟩ := List.mem_map.1 h
  exact Or.inr ⟨p, hp, partItem_L _ _⟩
theorem app8 {a b x y : List UInt8} (ha : a.length = b.length) (h : a ++ x = b ++ y) : a = b ∧ x = y := List.append_inj h ha
theorem upItems_pw {nm : ByteArray} {u : S41} (h : fineB u.f0 u.f1 u.f2 = true) : (upItems nm u).Pairwise NeI := by
 unfold upItems
 refine List.Pairwise.cons (fun y hy => ?_) ?_
 ·obtain ⟨p, _, rfl⟩ := List.mem_map.1 hy
  exact hd_ne (c := 117) (d := 112) (x := LB8 (upId nm u.f0)) (by simp only [LB8_app, LB8_one, List.singleton_append]) (partItem_L _ _) (by decide)
 ·rw [List.pairwise_map]
  refine List.Pairwise.imp_of_mem ?_ (parts_pw h)
  intro a b ha hb hlt e
  have e4 := congrArg LB8 e
  rw [partItem_L, partItem_L] at e4
  injection e4 with _ e4
  have e5 := LB8_inj (List.append_cancel_left e4)
  obtain ⟨_, _, _, hm⟩ := fine_small h
  obtain ⟨a1, a2, _⟩ := mayB_small (hm a ha)
  obtain ⟨b1, b2, _⟩ := mayB_small (hm b hb)
  rw [numB8_of (by omega) (by omega), numB8_of (by omega) (by omega)] at e5
  have := num8_inj (by unfold wfu; omega) (by unfold wfu; omega) e5
  omega
theorem ups_ne {nm : ByteArray} {u v : S41} (hu : fineB u.f0 u.f1 u.f2 = true) (hv : fineB v.f0 v.f1 v.f2 = true) (hlt : u.f0 < v.f0) : ∀ a ∈ upItems nm u, ∀ b ∈ upItems nm v, NeI a b := by
 have key : LB8 (upId nm u.f0) ≠ LB8 (upId nm v.f0) := fun e => by
  rw [upId_L, upId_L] at e
  have e1 := List.append_cancel_left e
  injection e1 with _ e1
  have := num8_inj (numB_wf (fine_small hu).1) (numB_wf (fine_small hv).1) (LB8_inj e1)
  omega
 have hlen : (LB8 (upId nm u.f0)).length = (LB8 (upId nm v.f0)).length := by
  rw [upId_L, upId_L, List.length_append, List.length_append, List.length_cons, List.length_cons, LB8_len (num8 _), LB8_len (num8 _), num8_size, num8_size]
 intro a ha b hb
 rcases mem_upItems ha with e1 | ⟨p, _, e1⟩ <;> rcases mem_upItems hb with e2 | ⟨q, _, e2⟩
 ·intro e
  rw [e, e2] at e1
  injection e1 with _ e1
  exact key e1.symm
 ·exact hd_ne e1 e2 (by decide)
 ·exact hd_ne e1 e2 (by decide)
 ·intro e
  rw [e, e2] at e1
  injection e1 with _ e1
  exact key (app8 hlen.symm e1).1.symm
theorem mem_bItems {b : S35} {x : S43} (h : x ∈ bItems b) : LB8 x.f0 = 98 :: LB8 b.f0 ∨ ∃ c r, (c = 118 ∨ c = 117 ∨ c = 112) ∧ LB8 x.f0 = c :: (LB8 b.f0 ++ 10 :: r) := by
 unfold bItems at h
 rcases List.mem_cons.1 h with rfl | h
 ·left
  unfold bItem
  simp only [LB8_app, LB8_one, List.singleton_append]
 ·rcases List.mem_append.1 h with h | h
  ·obtain ⟨e, _, h⟩ := List.mem_flatMap.1 h
   obtain ⟨v, _, e1⟩ := mem_verFrom h
   exact Or.inr ⟨118, _, Or.inl rfl, by rw [e1, verName_L]⟩
  ·unfold upsL at h
   obtain ⟨u, _, h⟩ := List.mem_flatMap.1 h
   rcases mem_upItems h with e1 | ⟨p, _, e1⟩
   ·exact Or.inr ⟨117, _, Or.inr (Or.inl rfl), by rw [e1, upId_L]⟩
   ·exact Or.inr ⟨112, LB8 (num8 u.f0) ++ LB8 (numB8 p.f0), Or.inr (Or.inr rfl), by rw [e1, upId_L]; simp⟩
theorem bItems_pw {b : S35} (h : bucketB b = true) (hw : wfBucket b) : (bItems b).Pairwise NeI := by
 obtain ⟨_, hi, hc, _⟩ := bucket_at h
 have hb98 : LB8 (bItem b).f0 = 98 :: LB8 b.f0 := by unfold bItem; simp only [LB8_app, LB8_one, List.singleton_append]
 have hver : ∀ x ∈ b.f2.flatMap (versL b.f0), ∃ r, LB8 x.f0 = 118 :: r := fun x hx => by
  obtain ⟨e, _, hx⟩ := List.mem_flatMap.1 hx
  obtain ⟨v, _, e1⟩ := mem_verFrom hx
  exact ⟨_, by rw [e1, verName_L]⟩
 have hup : ∀ x ∈ upsL b.f0 b.f3, ∃ c r, (c = 117 ∨ c = 112) ∧ LB8 x.f0 = c :: r := fun x hx => by
  unfold upsL at hx
  obtain ⟨u, _, hx⟩ := List.mem_flatMap.1 hx
  rcases mem_upItems hx with e1 | ⟨p, _, e1⟩
  ·exact ⟨117, _, Or.inl rfl, e1⟩
  ·exact ⟨112, _, Or.inr rfl, e1⟩
 unfold bItems
 refine List.Pairwise.cons (fun y hy => ?_) ?_
 ·rcases List.mem_append.1 hy with hy | hy
  ·obtain ⟨r, e⟩ := hver y hy
   exact hd_ne hb98 e (by decide)
  ·obtain ⟨c, r, hcc, e⟩ := hup y hy
   exact hd_ne hb98 e (by rcases hcc with rfl | rfl <;> decide)
 ·rw [List.pairwise_append]
  refine ⟨?_, ?_, fun x hx y hy => ?_⟩
  ·rw [List.pairwise_flatMap]
   refine ⟨fun x hx => versL_pw (index_mem hi x hx).2.2 (hw.2.1 x hx), ?_⟩
   refine List.Pairwise.imp_of_mem ?_ (index_pw hi)
   intro x y hx hy hne
   exact vers_ne (index_mem hi x hx).1 (index_mem hi y hy).1 hne
  ·unfold upsL
   rw [List.pairwise_flatMap]
   refine ⟨fun u hu => upItems_pw ((check_mem hc).2 u hu), ?_⟩
   refine List.Pairwise.imp_of_mem ?_ (ups_pw hc)
   intro u v hu hv hlt
   exact ups_ne ((check_mem hc).2 u hu) ((check_mem hc).2 v hv) hlt
  ·obtain ⟨r, e1⟩ := hver x hx
   obtain ⟨c, r2, hcc, e2⟩ := hup y hy
   exact hd_ne e1 e2 (by rcases hcc with rfl | rfl <;> decide)
theorem buckets_ne {a b : S35} (ha : bnameB a.f0 = true) (hb : bnameB b.f0 = true) (hne : a.f0 ≠ b.f0) : ∀ x ∈ bItems a, ∀ y ∈ bItems b, NeI x y := by
 intro x hx y hy
 rcases mem_bItems hx with e1 | ⟨c, r, hc, e1⟩ <;> rcases mem_bItems hy with e2 | ⟨d, s, hd, e2⟩
 ·intro e
  rw [e, e2] at e1
  injection e1 with _ e1
  exact hne (LB8_inj e1).symm
 ·exact hd_ne e1 e2 (by rcases hd with rfl | rfl | rfl <;> decide)
 ·exact hd_ne e1 e2 (by rcases hc with rfl | rfl | rfl <;> decide)
 ·intro e
  rw [e, e2] at e1
  injection e1 with _ e1
  exact hne (LB8_inj (split10 (bname_no10 hb) (bname_no10 ha) e1).1).symm
theorem depL_pw {now : Int} {l : List S35} (h : depotB now l = true) (hw : ∀ b ∈ l, wfBucket b) : (depL now l).Pairwise NeI := by
 obtain ⟨_, _, _, h4⟩ := depot_at h
 have hb : ∀ b ∈ l, bucketB b = true := fun b hb => by
  obtain ⟨j, hj, rfl⟩ := List.getElem_of_mem hb
  exact (h4 j hj).1
 have ht : LB8 (tItem now).f0 = [116] := rfl
 unfold depL
 refine List.Pairwise.cons (fun y hy => ?_) ?_
 ·obtain ⟨b, _, hy⟩ := List.mem_flatMap.1 hy
  rcases mem_bItems hy with e2 | ⟨d, s, hd, e2⟩
  ·exact hd_ne ht e2 (by decide)
  ·exact hd_ne ht e2 (by rcases hd with rfl | rfl | rfl <;> decide)
 ·rw [List.pairwise_flatMap]
  refine ⟨fun b hbm => bItems_pw (hb b hbm) (hw b hbm), ?_⟩
  refine List.Pairwise.imp_of_mem ?_ (depots_pw h)
  intro a b ha hbm hlt
  exact buckets_ne (head_at (bucket_at (hb a ha)).1).1 (head_at (bucket_at (hb b hbm)).1).1 (fun e => ltN_irrefl _ (by rw [e] at hlt; exact hlt))
/-- Sorted by names, and no name twice: rising. -/
theorem si_of {zs ys : List S43} (hp : zs.Perm ys) (hd : ys.Pairwise NeI) (hs : zs.Pairwise (fun a b => ¬ ltN b.f0 a.f0)) : SI zs := by
 have hz : zs.Pairwise NeI := (hp.pairwise_iff (fun {a b} h => Ne.symm h)).2 hd
 exact (hz.and hs).imp (fun ⟨h1, h2⟩ => ltN_of h1 h2)
end Go.Proofs.YtafeepdlcilicaaGreat.Q

-- J3
namespace Go.Proofs.YtafeepdlcilicaaGreat.Q
open Go.WideMaps Go.RowKit Go.Proofs.YtafeepdlcilicaaGreatW.PrintWords Go.Proofs.YtafeepdlcilicaaGreatW.PrintLast Go.Proofs.YtafeepdlcilicaaGreatW.PrintMore Go.Maps
set_option linter.unusedVariables false
set_option linter.unusedSimpArgs false

/-! ### items.Of in the print's form -/
theorem valF_ne : ∀ (l : List S43) (f : ByteArray → Option ByteArray), l.Pairwise NeI → (∀ x ∈ l, valF f l x.f0 = some x.f1) ∧ (∀ nm, (∀ x ∈ l, x.f0 ≠ nm) → valF f l nm = f nm)
 | [], f, _ => ⟨fun _ h => (by cases h), fun _ _ => rfl⟩
 | x :: l, f, h => by
  rw [List.pairwise_cons] at h
  obtain ⟨i1, i2⟩ := valF_ne l (putF f x.f0 x.f1) h.2
  have e : valF f (x :: l) = valF (putF f x.f0 x.f1) l := rfl
  rw [e]
  refine ⟨fun y hy => ?_, fun nm hn => ?_⟩
  ·rcases List.mem_cons.1 hy with rfl | hy
   ·rw [i2 _ (fun z hz => Ne.symm (h.1 z hz))]
    unfold putF; rw [if_pos rfl]
   ·exact i1 y hy
  ·rw [i2 nm (fun z hz => hn z (List.mem_cons_of_mem _ hz))]
   unfold putF; rw [if_neg (Ne.symm (hn x List.mem_cons_self))]
theorem repF_ne {l : List S43} (h : l.Pairwise NeI) : RepF l (valL l) := by
 obtain ⟨i1, i2⟩ := valF_ne l (fun _ => none) h
 intro it
 refine ⟨fun hm => i1 it hm, fun hv => ?_⟩
 by_cases hx : ∃ x ∈ l, x.f0 = it.f0
 ·obtain ⟨x, hxm, e⟩ := hx
  have := i1 x hxm
  rw [e] at this
  have h2 : valF (fun _ => none) l it.f0 = some it.f1 := hv
  rw [this] at h2
  injection h2 with h2
  obtain ⟨a, b⟩ := x; obtain ⟨c, d⟩ := it
  simp only at e h2
  subst e h2
  exact hxm
 ·have := i2 it.f0 (fun x hxm e => hx ⟨x, hxm, e⟩)
  have h2 : valF (fun _ => none) l it.f0 = some it.f1 := hv
  rw [this] at h2
  cases h2
theorem sorted_norm {zs ys : List S43} (hp : zs.Perm ys) (hd : ys.Pairwise NeI) (hs : zs.Pairwise (fun a b => ¬ ltN b.f0 a.f0)) : zs = normL ys := by
 refine sortedI_ext (si_of hp hd hs) (normL_ok ys).1 (fun n => ?_)
 rw [(normL_ok ys).2 n, ← repF_ne hd n]
 exact hp.mem_iff
def ofL (now : Int) (l : List S35) : List S43 := normL (depL now l)
theorem ofL_perm {now : Int} {l : List S35} (h : depotB now l = true) (hw : ∀ b ∈ l, wfBucket b) : ∀ x, x ∈ ofL now l ↔ x ∈ depL now l := fun x => by
 unfold ofL
 rw [(normL_ok _).2 x, ← repF_ne (depL_pw h hw) x]
theorem ofL_SI (now : Int) (l : List S35) : SI (ofL now l) := (normL_ok _).1
theorem si_nodup {l : List S43} (h : SI l) : l.Nodup := h.imp (fun h e => by rw [e] at h; exact ltN_irrefl _ h)
theorem ne_nodup {l : List S43} (h : l.Pairwise NeI) : l.Nodup := h.imp (fun h e => h (by rw [e]))
theorem ofL_is_perm {now : Int} {l : List S35} (h : depotB now l = true) (hw : ∀ b ∈ l, wfBucket b) : (ofL now l).Perm (depL now l) :=
 (List.perm_ext_iff_of_nodup (si_nodup (ofL_SI now l)) (ne_nodup (depL_pw h hw))).2 (ofL_perm h hw)
open Classical in
noncomputable def items_Of.f (a0_0 : Int) (l0_1 : List S35) : Option (List S43 × Int) := if depotB a0_0 l0_1 = true then (if ∀ b ∈ l0_1, wfBucket b then some (ofL a0_0 l0_1, 0) else none) else some ([], 1)
theorem items_Of.calls (a0_0 : Int) (A0_1 : Option Addr) (c0_1 : Nat) (l0_1 : List S35) (r1 : List S43) (r2 : Int) (w : World) (hr0_1 : Kd.C k35 w A0_1 l0_1.length l0_1) (hc0_1 : l0_1.length ≤ c0_1) (h : items_Of.f a0_0 l0_1 = some (r1, r2)) :
  Calls Tryz.prog 6 #[.agg #[.int .i64 a0_0, .slice A0_1 l0_1.length c0_1]] w fun e w' => ∃ v1_ : Value, e = .returned (.tuple #[v1_, .int .i64 r2]) ∧ Kd.R k43 43 w' w.heap.size (fun _ => True) v1_ r1 ∧ Below w.heap.size w w' := by
 unfold items_Of.f at h
 split at h
 ·rename_i hd
  split at h
  ·rename_i hw
   injection h with h; injection h with h1 h2
   subst h1 h2
   refine (of_yes.walk a0_0 A0_1 c0_1 l0_1 w hr0_1 hd).mono ?_
   rintro e w' ⟨v, zs, rfl, hz, hp, hs, hb⟩
   rw [sorted_norm hp (depL_pw hd hw) hs] at hz
   exact ⟨v, rfl, NRow35.R hz, hb⟩
  ·cases h
 ·rename_i hd
  injection h with h; injection h with h1 h2
  subst h1 h2
  refine (of_no.walk a0_0 A0_1 c0_1 l0_1 w hr0_1 (by simpa using hd)).mono ?_
  rintro e w' ⟨rfl, hb⟩
  exact ⟨_, rfl, NRow35.R (NRow35.nil _ _), hb⟩
end Go.Proofs.YtafeepdlcilicaaGreat.Q

-- K0
namespace Go.Proofs.YtafeepdlcilicaaGreat.Q
open Go.WideMaps Go.RowKit Go.Proofs.YtafeepdlcilicaaGreatW.PrintWords Go.Proofs.YtafeepdlcilicaaGreatW.PrintLast Go.Proofs.YtafeepdlcilicaaGreatW.PrintMore Go.Maps
set_option linter.unusedVariables false
set_option linter.unusedSimpArgs false

/-! ### ItemsNames in plain words -/
theorem wf_cutB {b : S35} (h : wfBucket b) : wfBucket (cutB b) := by
 obtain ⟨h1, h2, h3, h4⟩ := h
 refine ⟨h1, fun x hx => ?_, fun u hu => ?_, h4⟩
 ·obtain ⟨e, he, rfl⟩ := List.mem_map.1 hx
  intro v hv
  obtain ⟨v', hv', rfl⟩ := List.mem_map.1 hv
  exact h2 e (List.mem_of_mem_take he) v' (List.mem_of_mem_take hv')
 ·obtain ⟨u', hu', rfl⟩ := List.mem_map.1 hu
  obtain ⟨g1, g2⟩ := h3 u' (List.mem_of_mem_take hu')
  refine ⟨g1, fun p hp => ?_⟩
  obtain ⟨p', hp', rfl⟩ := List.mem_map.1 hp
  exact g2 p' (List.mem_of_mem_take hp')
theorem wf_fewD {l : List S35} (h : ∀ b ∈ l, wfBucket b) : ∀ b ∈ fewD l, wfBucket b := by
 intro b hb
 obtain ⟨b', hb', rfl⟩ := List.mem_map.1 hb
 exact wf_cutB (h b' (List.mem_of_mem_take hb'))
theorem of_yes {now : Int} {l : List S35} (h : depotB now l = true) (hw : ∀ b ∈ l, wfBucket b) : items_Of.f now l = some (ofL now l, 0) := by
 unfold items_Of.f
 rw [if_pos h, if_pos hw]
theorem of_no {now : Int} {l : List S35} (h : depotB now l = false) : items_Of.f now l = some ([], 1) := by
 unfold items_Of.f
 rw [if_neg (by simp [h])]
theorem cntD_le {now : Int} {l : List S35} (h : depotB now l = true) : (depL now l).length ≤ 12001 := by
 obtain ⟨_, _, g3, g4⟩ := depot_at h
 have := flat_le bItems 2000 l (fun x hx => by
  obtain ⟨j, hj, rfl⟩ := List.getElem_of_mem hx
  exact bItems_len (g4 j hj).1)
 unfold depL
 rw [List.length_cons]
 omega
end Go.Proofs.YtafeepdlcilicaaGreat.Q
