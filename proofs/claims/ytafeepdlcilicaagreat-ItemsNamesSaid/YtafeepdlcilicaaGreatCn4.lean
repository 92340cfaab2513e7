/- The law ItemsNames of the seat: the names of items are said once. Part 25 of 26. -/
import Derived.Test.YtafeepdlcilicaaGreatCn3
import Derived.Laws.Bits64b
import Derived.Deep.DeepMust
import Derived.Deep.RegionHeld3
-- C4
namespace Go.Proofs.YtafeepdlcilicaaGreat.Q
open Go.WideMaps Go.RowKit Go.Proofs.YtafeepdlcilicaaGreatW.PrintWords Go.Proofs.YtafeepdlcilicaaGreatW.PrintLast Go.Proofs.YtafeepdlcilicaaGreatW.PrintMore Go.Maps
set_option linter.unusedVariables false
set_option linter.unusedSimpArgs false

/-! ### items.With -/
/-- What was met of the map so far. -/
def CollS (F : ByteArray → Option ByteArray) (left : Lit → Bool) (ys : List S43) : Prop :=
 (∀ y ∈ ys, F y.f0 = some y.f1 ∧ left (.string y.f0.data.toList) = false) ∧ (∀ it : S43, F it.f0 = some it.f1 → left (.string it.f0.data.toList) = false → it ∈ ys) ∧ ys.Pairwise (fun a b => a.f0 ≠ b.f0)
theorem collS_start {D : DataW Unit} {F : ByteArray → Option ByteArray} (h : HasS D F) : CollS F (Maps.has D) [] :=
 ⟨fun y hy => by simp at hy, fun n hn hl => by rw [(h.2 n.f0).1, hn] at hl; exact absurd hl (by simp), List.Pairwise.nil⟩
theorem hasS_some {D : DataW Unit} {F : ByteArray → Option ByteArray} (h : HasS D F) {s v : ByteArray} (hat : ∀ z, D.atKey (.string s.data.toList) z = .lit (.string v.data.toList)) : F s = some v := by
 have h1 : Maps.has D (.string s.data.toList) = true := has_true_of_atKey hat
 obtain ⟨m, hm⟩ : ∃ m, F s = some m := by
  rw [(h.2 s).1] at h1
  exact Option.isSome_iff_exists.1 h1
 have := strD_inj (((h.2 s).2 m hm (.map [])).symm.trans (hat _))
 rw [hm, this]
theorem collS_step {F : ByteArray → Option ByteArray} {ys : List S43} {left : Lit → Bool} {s v : ByteArray} (hC : CollS F left ys) (hl : left (.string s.data.toList) = true) (hF : F s = some v) :
  CollS F (fun z => left z && !z.sameKey (.string s.data.toList)) (ys ++ [⟨s, v⟩]) := by
 refine ⟨fun y hy => ?_, fun x hx hlx => ?_, ?_⟩
 ·rcases List.mem_append.1 hy with hy | hy
  ·obtain ⟨a1, a2⟩ := hC.1 y hy
   exact ⟨a1, by show (left _ && _) = false; rw [a2]; rfl⟩
  ·obtain rfl := List.mem_singleton.1 hy
   refine ⟨hF, ?_⟩
   simp only [lit_self, Bool.not_true, Bool.and_false]
 ·simp only [Bool.and_eq_false_iff, Bool.not_eq_false'] at hlx
  rcases hlx with hlx | hlx
  ·exact List.mem_append_left _ (hC.2.1 x hx hlx)
  ·have e := lit_same hlx
   rw [e, hF] at hx
   injection hx with hx
   obtain ⟨x0, x1⟩ := x
   simp only at e hx
   rw [e, ← hx]
   exact List.mem_append_right _ (List.mem_singleton.2 rfl)
 ·rw [List.pairwise_append]
  refine ⟨hC.2.2, List.pairwise_singleton _ _, fun a ha b hb e => ?_⟩
  obtain rfl := List.mem_singleton.1 hb
  have h2 := (hC.1 a ha).2
  simp only at e
  rw [e, hl] at h2
  cases h2
theorem collS_end {F : ByteArray → Option ByteArray} {ys zs : List S43} {left : Lit → Bool} (hC : CollS F left ys) (hl : ∀ z, left z = false) (hp : zs.Perm ys) (hs : zs.Pairwise (fun a b => ¬ ltN b.f0 a.f0)) : SI zs ∧ RepF zs F := by
 refine ⟨?_, fun n => ⟨fun hn => (hC.1 n (hp.mem_iff.1 hn)).1, fun hn => hp.mem_iff.2 (hC.2.1 n hn (hl _))⟩⟩
 have h1 : zs.Pairwise (fun a b => a.f0 ≠ b.f0) := (hp.pairwise_iff (fun {_ _} h => Ne.symm h)).2 hC.2.2
 exact (h1.and hs).imp (fun {a b} h => ltN_of h.1 h.2)
theorem chgF_snoc (f : ByteArray → Option ByteArray) (C : List S66) (c : S66) : chgF f (C ++ [c]) = stepF (chgF f C) c := by unfold chgF; rw [List.foldl_append]; rfl
theorem turned_below {w w1 : World} {b B : Nat} (h : w.mapTurned w1 b) (hB : B ≤ b) : Below B w w1 := by
 obtain ⟨es, clock, es', clock', hb, rfl⟩ := h
 refine ⟨rfl, rfl, rfl, ?_, fun k hk => ?_⟩
 ·simp [ChangeMaps.setBlock]
 ·simp [ChangeMaps.setBlock, Array.getElem?_modify, show b ≠ k by omega]
set_option maxHeartbeats 4000000 in
set_option maxRecDepth 100000 in
theorem with.walk (A0 : Option Addr) (c0 : Nat) (l0 : List S43) (A1 : Option Addr) (c1 : Nat) (l1 : List S66) (w : World) (hr0 : Kd.C k43 w A0 l0.length l0) (hr1 : Kd.C k66 w A1 l1.length l1) (hn : l0.length + l1.length ≤ 1000000) (hs0 : ∀ n ∈ l0, n.f0.size ≤ maxLen) (hs1 : ∀ n ∈ l1, n.f0.size ≤ maxLen) :
  Calls Tryz.prog 10 #[.slice A0 l0.length c0, .slice A1 l1.length c1] w fun e w' => ∃ v zs, e = .returned v ∧ NRow35 w' w.heap.size v zs ∧ SI zs ∧ RepF zs (chgF (valL l0) l1) ∧ Below w.heap.size w w' := by
 have HC := Lib.hid (gathered.walk A0 c0 l0 w hr0 (by omega) hs0)
 have HR1 := Lib.hid hr1
 have HS1 := Lib.hid hs1
 obtain ⟨i0, hi, hy0, hy1, hy2⟩ := info_parts info43
 clear hr0 hr1 hs0 hs1
 go_enter Tryz.func10, Tryz.ntmps10
 go_wp2_with (go_at_call 22; go_must (refine HC.out.mono ?_; rintro e w1 ⟨D, rfl, hm, hH, hb⟩; have HM := Lib.hid hm; have HH := Lib.hid hH; have HB := Lib.hid hb; clear hm hH hb))
 go_loopw [15] (fun i wr => ∃ (k : Nat) (D : DataW Unit), i = .int .i64 k ∧ k ≤ l1.length ∧ Hid (HasS D (chgF (valL l0) (l1.take k))) ∧ Hid (wr.ownsMap Tryz.prog 9 strR w.heap.size (l0.length + k) D) ∧ Hid (Below w.heap.size w wr)) (fun i _ => l1.length - (intOf i).toNat)
 case atStart => exact ⟨0, D, rfl, Nat.zero_le _, HH, HM, HB⟩
 case round =>
  clear HM HH HB D
  obtain ⟨k, D, rfl, hk, hH, hM, hB⟩ := hrel
  by_cases hlt : k < l1.length
  ·obtain ⟨ad, e', c0, c1, c2⟩ := at37 HR1.out hB.out k hlt
   subst e'
   have p0 : (0 : Int) ≤ (k : Int) := by omega
   have p1 : (k : Int) < (l1.length : Int) := by omega
   have hsz : Hid (l1[k].f0.size ≤ maxLen) := HS1.out _ (List.getElem_mem hlt)
   have hnx := Lib.hid (take_snoc l1 k hlt)
   have hBs : Hid (w.heap.size < wr.heap.size) := hM.out.lt
   generalize l1[k] = n at *
   have HSN := Lib.hid (chgF_snoc (valL l0) (l1.take k) n)
   cases hf : n.f2
   ·have HH := Lib.hid (hasS_put hH.out n.f0 n.f1)
    have HST : Hid (stepF (chgF (valL l0) (l1.take k)) n = putF (chgF (valL l0) (l1.take k)) n.f0 n.f1) := by unfold Hid stepF; rw [hf]; rfl
    rw [hf] at c2
    have HF := Lib.hid hf
    clear hf
    go_wp2_with (first | ((with_reducible refine gate_dst (N := 7) rfl ?_); refine box_event ?hg (N := 7) ?hd (cs := #[.string (⟨#[]⟩ : ByteArray), .string (⟨#[]⟩ : ByteArray), .bool false]) (t := 66) ?hr ?_; (case hd => rfl); (case hg => rfl); (case hr => first | (go_simp; done) | (go_simp; rfl)); intro g5 hg5 w5 hb5 hbel5; have HM5 := Lib.hid (owns_below hM.out hbel5); have HB5 := keepB hB hbel5; have G5 := Lib.hid (hg5 ▸ hBs.out : w.heap.size < g5); have K5 := Lib.hid hb5; clear hg5 hb5 hbel5) | ((with_reducible refine gate_ (.store 66 (.tmp 7) (.tmp 18)) rfl ?_); go_must (refine store37_law rfl rfl (.tmp 7) (.tmp 18) rfl g5 _ _ _ ⟨n.f0, n.f1, false⟩ rfl rfl K5.out ?_; intro w6 hk6 hb6; have K6 := Lib.hid hk6; have HM6 := Lib.hid (owns_blk HM5.out ((hb6 (w.heap.size + 1) G5.out).block _ (Nat.lt_succ_self _))); have HB6 := Lib.hid (HB5.out.trans (hb6 w.heap.size (Nat.le_of_lt G5.out))); have d0 := (blk_cell K6.out 0).trans (rfl : _ = some (Value.string n.f0)); have d1 := (blk_cell K6.out 1).trans (rfl : _ = some (Value.string n.f1)); have d2 := (blk_cell K6.out 2).trans (rfl : _ = some (Value.bool false)); have z0 := blk_frozen K6.out 0; have z1 := blk_frozen K6.out 1; have z2 := blk_frozen K6.out 2; clear hk6 hb6)) | (at_mapUpdate; go_must (refine wpList_mapUpdate_own _ rfl _ _ _ 62 rfl 9 9 slaw Tryz.underlying62 strR w.heap.size (l0.length + k) D rfl HM6.out (by unfold maxLen; omega) _ _ _ rfl rfl (skey hsz.out) _ [] (strR_mk n.f1) ?_; intro w7 hM7 hg7; have HM7 := Lib.hid hM7; have HB7 := Lib.hid (HB6.out.grown hg7 HB6.out.size (fun j hj => by cases hj; exact Nat.le_refl _)); clear hM7 hg7)))
    go_roundw
    case rel => exact ⟨k + 1, _, by go_num, hlt, by unfold Hid; rw [hnx.out, HSN.out, HST.out]; exact HH, HM7, HB7⟩
    case measure => simp [intOf]; omega
   ·have HH := Lib.hid (hasS_del hH.out n.f0)
    have HST : Hid (stepF (chgF (valL l0) (l1.take k)) n = delF (chgF (valL l0) (l1.take k)) n.f0) := by unfold Hid stepF; rw [hf]; rfl
    rw [hf] at c2
    have HF := Lib.hid hf
    clear hf
    go_wp2_with (first | ((with_reducible refine gate_dst (N := 7) rfl ?_); refine box_event ?hg (N := 7) ?hd (cs := #[.string (⟨#[]⟩ : ByteArray), .string (⟨#[]⟩ : ByteArray), .bool false]) (t := 66) ?hr ?_; (case hd => rfl); (case hg => rfl); (case hr => first | (go_simp; done) | (go_simp; rfl)); intro g5 hg5 w5 hb5 hbel5; have HM5 := Lib.hid (owns_below hM.out hbel5); have HB5 := keepB hB hbel5; have G5 := Lib.hid (hg5 ▸ hBs.out : w.heap.size < g5); have K5 := Lib.hid hb5; clear hg5 hb5 hbel5) | ((with_reducible refine gate_ (.store 66 (.tmp 7) (.tmp 18)) rfl ?_); go_must (refine store37_law rfl rfl (.tmp 7) (.tmp 18) rfl g5 _ _ _ ⟨n.f0, n.f1, true⟩ rfl rfl K5.out ?_; intro w6 hk6 hb6; have K6 := Lib.hid hk6; have HM6 := Lib.hid (owns_blk HM5.out ((hb6 (w.heap.size + 1) G5.out).block _ (Nat.lt_succ_self _))); have HB6 := Lib.hid (HB5.out.trans (hb6 w.heap.size (Nat.le_of_lt G5.out))); have d0 := (blk_cell K6.out 0).trans (rfl : _ = some (Value.string n.f0)); have d1 := (blk_cell K6.out 1).trans (rfl : _ = some (Value.string n.f1)); have d2 := (blk_cell K6.out 2).trans (rfl : _ = some (Value.bool true)); have z0 := blk_frozen K6.out 0; have z1 := blk_frozen K6.out 1; have z2 := blk_frozen K6.out 2; clear hk6 hb6)) | (at_delete; go_must (refine wpList_delete_own _ rfl _ _ 62 9 rfl 9 slaw Tryz.underlying62 strR w.heap.size (l0.length + k) D rfl HM6.out _ _ rfl (skey hsz.out) ?_; intro w7 hM7 ht7; have HM7 := Lib.hid hM7; have HB7 := Lib.hid (HB6.out.trans (turned_below ht7 (Nat.le_refl _))); clear hM7 ht7)))
    go_roundw
    case rel => exact ⟨k + 1, _, by go_num, hlt, by unfold Hid; rw [hnx.out, HSN.out, HST.out]; exact HH, HM7.out.mono (by omega), HB7⟩
    case measure => simp [intOf]; omega
  ·obtain rfl : k = l1.length := by omega
   rw [List.take_length] at hH
   go_wp2_with (at_range; go_must (refine wpList_range_own _ rfl _ 62 rfl 9 9 slaw Tryz.underlying62 strR w.heap.size (l0.length + l1.length) D rfl hM.out ?_; intro w0 hrg0 hg0 hs0))
   go_frame
   have HR0 := Lib.hid hrg0
   have HB0 : Hid (Below w.heap.size w w0) := hB.out.grown hg0 hB.out.size (fun j hj => by cases hj)
   have HSz := Lib.hid hM.out.size_le
   have HRr : Hid (w.heap.size ≤ wr.heap.size) := hB.out.size
   clear hrg0 hg0 hs0
   generalize wr.heap.size = r at *
   have hH' := Lib.hid hH.out
   generalize hFe : chgF (valL l0) l1 = F at *
   have HFE := Lib.hid hFe
   clear hFe
   go_loopw [8] (fun v8 wz => ∃ (left : Lit → Bool) (cn : Nat) (ys : List S43), Hid (wz.ranges Tryz.prog 9 strR w.heap.size r (l0.length + l1.length) D left cn) ∧ Hid (NRow35 wz (w.heap.size + 1) v8 ys) ∧ Hid (CollS F left ys) ∧ ys.length + cn ≤ l0.length + l1.length ∧ Hid (Below w.heap.size w wz)) (fun _ wz => wz.rangeLeft w.heap.size r)
   case atStart => exact ⟨_, _, [], HR0, NRow35.nil _ _, collS_start hH'.out, by have := HSz.out; simpa using this, HB0⟩
   case round =>
    clear HR0 HB0
    obtain ⟨left, cn, ys, HR, HN, HL, hcn, hB2⟩ := hrel
    go_wp2_with (at_next; go_must (refine wpList_next_ranges _ rfl _ rfl 9 slaw strR Value.string Value.string (fun key kl hk => by obtain ⟨s, e, _⟩ := skey_inv hk; exact ⟨s, e⟩) (fun v y hv => by obtain ⟨n, e, _⟩ := strR_inv hv; exact ⟨n, e⟩) w.heap.size r (l0.length + l1.length) D left cn rfl HR.out ?_ ?_))
    ·intro h0 hl0
     have HL0 := Lib.hid hl0
     clear h0 hl0
     go_wp2_with (go_at_call 18; go_must (refine (sort_notes35 (w.heap.size + 1) _ ys _ HN.out (by omega)).mono ?_; rintro e w8 ⟨rfl, zs, hz, hp, hs8, hg8⟩))
     go_ret
     have hend := collS_end HL.out HL0.out hp hs8
     exact ⟨_, zs, rfl, hz.mono (Nat.le_succ _), hend.1, by rw [HFE.out]; exact hend.2, hB2.out.grown hg8 hB2.out.size (fun j hj => Nat.le_trans (Nat.le_succ _) (own_base HN.out j hj))⟩
    ·intro x v kl yd yp w2 cn2 hkey hlk hv hat hrg2 hlt hg2 hs2 hen
     obtain ⟨s, es, rfl, hss⟩ := skey_inv hkey
     injection es with es
     subst es
     have hv' := (strR_mk v).symm.trans hv
     injection hv' with hv'
     have hyd : (DataW.lit (.string v.data.toList) : DataW Unit) = yd := congrArg Prod.fst hv'
     subst hyd
     have hFx := hasS_some hH'.out hat
     have HL2 := Lib.hid (collS_step HL.out hlk hFx)
     have HR2 := Lib.hid hrg2
     have HN2 := Lib.hid (HN.out.grown hg2 (fun g hg e => HN.out.ne_iter HR.out (by rw [hg]; exact e.symm)))
     have hlt' := Lib.hid hlt
     have HBW : Hid (Below w.heap.size w w2) := hB2.out.grown hg2 hB2.out.size (fun j hj => by cases hj; exact HRr.out)
     have HRW : Hid (w.heap.size + 1 ≤ w2.heap.size) := HR2.out.owns.lt
     clear hg2 hs2 hv hv' hkey hat hlk hFx
     go_wp2_with ((with_reducible refine gate_builtin (b := .append) (xs := #[.tmp 37, .tmp 41]) rfl ?_); at_builtin; go_must (refine wpList_append_own _ rfl _ _ 26 rfl (w.heap.size + 1) 43 i0 (.agg #[(.string ⟨#[]⟩), (.string ⟨#[]⟩)]) 2 32 Tryz.underlying26 hi hy0 hy1 hy2 rfl (by decide) _ ys.length (fl35 ys) rfl (HN2.out.below (belowA w2 _)) _ 1 1 [.string x, .string v] rfl rfl (raw_new _ _ _ _ rfl) (enc35_one ⟨x, v⟩) (by unfold maxLen; omega) (by omega) (by have := HRW.out; simp; omega) ?_; intro v' w7 hown' hgrow hnil; have HN7 := Lib.hid (NRow35.snoc (n := ⟨x, v⟩) hown'); have HR7 := Lib.hid ((HR2.out.kept (below_grown (belowA w2 (.cells #[.string x, .string v] 43))) (by simp) (by simp)).kept hgrow (HN2.out.ne_low (Nat.lt_succ_self _)) (HN2.out.ne_iter HR2.out)); have HB7 := Lib.hid ((HBW.out.trans ((belowA w2 (.cells #[.string x, .string v] 43)).mono HBW.out.size)).grown hgrow (by have := HRW.out; simp; omega) (fun j hj => Nat.le_trans (Nat.le_succ _) (own_base HN2.out j hj))); clear hown' hgrow hnil))
     go_roundw
     case rel => exact ⟨_, cn2, ys ++ [⟨x, v⟩], HR7, HN7, HL2, by have := hlt'.out; simp; omega, HB7⟩
     case measure => rw [HR7.out.left_eq, HR.out.left_eq]; exact hlt'.out
/-! in the print's form -/
def okI (l : List S43) : Bool := decide (l.length ≤ 400000) && l.all (fun n => decide (n.f0.size ≤ maxLen))
def okC (l : List S66) : Bool := decide (l.length ≤ 400000) && l.all (fun n => decide (n.f0.size ≤ maxLen))
theorem okI_len {l : List S43} (h : okI l = true) : l.length ≤ 400000 := by unfold okI at h; simp only [Bool.and_eq_true, decide_eq_true_eq] at h; exact h.1
theorem okI_size {l : List S43} (h : okI l = true) : ∀ n ∈ l, n.f0.size ≤ maxLen := by
 unfold okI at h
 simp only [Bool.and_eq_true, decide_eq_true_eq, List.all_eq_true] at h
 exact h.2
theorem okC_len {l : List S66} (h : okC l = true) : l.length ≤ 400000 := by unfold okC at h; simp only [Bool.and_eq_true, decide_eq_true_eq] at h; exact h.1
theorem okC_size {l : List S66} (h : okC l = true) : ∀ n ∈ l, n.f0.size ≤ maxLen := by
 unfold okC at h
 simp only [Bool.and_eq_true, decide_eq_true_eq, List.all_eq_true] at h
 exact h.2
def items_With.f (l0 : List S43) (l1 : List S66) : Option (List S43) := if okI l0 = true then (if okC l1 = true then some (withL (normL l0) l1) else none) else none
theorem items_With.calls (A0 : Option Addr) (c0 : Nat) (l0 : List S43) (A1 : Option Addr) (c1 : Nat) (l1 : List S66) (r : List S43) (w : World) (hr0 : Kd.C k43 w A0 l0.length l0) (hc0 : l0.length ≤ c0) (hr1 : Kd.C k66 w A1 l1.length l1) (hc1 : l1.length ≤ c1) (h : items_With.f l0 l1 = some r) :
  Calls Tryz.prog 10 #[.slice A0 l0.length c0, .slice A1 l1.length c1] w fun e w' => ∃ v0_ : Value, e = .returned (v0_) ∧ Kd.R k43 43 w' w.heap.size (fun _ => True) v0_ r ∧ Below w.heap.size w w' := by
 unfold items_With.f at h
 split at h
 ·rename_i h0
  split at h
  ·rename_i h1
   injection h with h
   subst h
   refine (with.walk A0 c0 l0 A1 c1 l1 w hr0 hr1 (by have := okI_len h0; have := okC_len h1; omega) (okI_size h0) (okC_size h1)).mono ?_
   rintro e w' ⟨v, zs, rfl, hn, hs, hf, hb⟩
   obtain ⟨n1, n2⟩ := normL_ok l0
   obtain ⟨m1, m2⟩ := withL_ok l1 (normL l0) _ n1 n2
   rw [← repF_unique hs m1 hf m2]
   exact ⟨v, rfl, hn.R, hb⟩
  ·cases h
 ·cases h
end Go.Proofs.YtafeepdlcilicaaGreat.Q

-- C5
namespace Go.Proofs.YtafeepdlcilicaaGreat.Q
open Go.WideMaps Go.RowKit Go.Proofs.YtafeepdlcilicaaGreatW.PrintWords Go.Proofs.YtafeepdlcilicaaGreatW.PrintLast Go.Proofs.YtafeepdlcilicaaGreatW.PrintMore Go.Maps
set_option linter.unusedVariables false
set_option linter.unusedSimpArgs false

/-! ### items.Diff -/
/-- What was found so far: done names' changes. -/
def CollD (fa fb : ByteArray → Option ByteArray) (done : ByteArray → Bool) (ys : List S66) : Prop :=
 (∀ y ∈ ys, diffF fa fb y.f0 = some y ∧ done y.f0 = true) ∧ (∀ c : S66, diffF fa fb c.f0 = some c → done c.f0 = true → c ∈ ys) ∧ ys.Pairwise (fun a b => a.f0 ≠ b.f0)
theorem collD_start (fa fb : ByteArray → Option ByteArray) {done : ByteArray → Bool} (h : ∀ nm, done nm = false) : CollD fa fb done [] :=
 ⟨fun y hy => by simp at hy, fun c _ hd => (by rw [h] at hd; cases hd), List.Pairwise.nil⟩
theorem collD_cong {fa fb : ByteArray → Option ByteArray} {done done' : ByteArray → Bool} {ys : List S66} (h : CollD fa fb done ys) (e : ∀ nm, done' nm = done nm) : CollD fa fb done' ys := by
 have : done' = done := funext e
 rw [this]; exact h
theorem collD_add {fa fb : ByteArray → Option ByteArray} {done done' : ByteArray → Bool} {ys : List S66} {s : ByteArray} {c : S66} (h : CollD fa fb done ys) (h0 : done s = false) (hc : diffF fa fb s = some c) (e : ∀ nm, done' nm = (done nm || decide (nm = s))) : CollD fa fb done' (ys ++ [c]) := by
 have hn := diffF_name hc
 refine ⟨fun y hy => ?_, fun x hx hd => ?_, ?_⟩
 ·rcases List.mem_append.1 hy with hy | hy
  ·obtain ⟨a1, a2⟩ := h.1 y hy
   exact ⟨a1, by rw [e, a2]; rfl⟩
  ·obtain rfl := List.mem_singleton.1 hy
   exact ⟨by rw [hn]; exact hc, by rw [e, hn]; simp⟩
 ·rw [e] at hd
  rcases Bool.or_eq_true_iff.1 hd with hd | hd
  ·exact List.mem_append_left _ (h.2.1 x hx hd)
  ·have e2 : x.f0 = s := of_decide_eq_true hd
   rw [e2, hc] at hx
   injection hx with hx
   rw [← hx]
   exact List.mem_append_right _ (List.mem_singleton.2 rfl)
 ·rw [List.pairwise_append]
  refine ⟨h.2.2, List.pairwise_singleton _ _, fun a ha b hb e2 => ?_⟩
  obtain rfl := List.mem_singleton.1 hb
  have h2 := (h.1 a ha).2
  rw [e2, hn, h0] at h2
  cases h2
theorem collD_skip {fa fb : ByteArray → Option ByteArray} {done done' : ByteArray → Bool} {ys : List S66} {s : ByteArray} (h : CollD fa fb done ys) (hc : diffF fa fb s = none) (e : ∀ nm, done' nm = (done nm || decide (nm = s))) : CollD fa fb done' ys := by
 refine ⟨fun y hy => ?_, fun x hx hd => ?_, h.2.2⟩
 ·obtain ⟨a1, a2⟩ := h.1 y hy
  exact ⟨a1, by rw [e, a2]; rfl⟩
 ·rw [e] at hd
  rcases Bool.or_eq_true_iff.1 hd with hd | hd
  ·exact h.2.1 x hx hd
  ·have e2 : x.f0 = s := of_decide_eq_true hd
   rw [e2, hc] at hx
   cases hx
theorem collD_end {fa fb : ByteArray → Option ByteArray} {done : ByteArray → Bool} {ys zs : List S66} (hC : CollD fa fb done ys) (hd : ∀ nm, done nm = ((fb nm).isSome || (fa nm).isSome)) (hp : zs.Perm ys) (hs : zs.Pairwise (fun a b => ¬ ltN b.f0 a.f0)) : SC zs ∧ ∀ c : S66, c ∈ zs ↔ diffF fa fb c.f0 = some c := by
 refine ⟨?_, fun c => ⟨fun hn => (hC.1 c (hp.mem_iff.1 hn)).1, fun hn => hp.mem_iff.2 (hC.2.1 c hn ?_)⟩⟩
 ·have h1 : zs.Pairwise (fun a b => a.f0 ≠ b.f0) := (hp.pairwise_iff (fun {_ _} h => Ne.symm h)).2 hC.2.2
  exact (h1.and hs).imp (fun {a b} h => ltN_of h.1 h.2)
 ·rw [hd]
  cases h1 : fb c.f0 with
  | some _ => rfl
  | none =>
   cases h2 : fa c.f0 with
   | some _ => rfl
   | none =>
    rw [diffF_none.2 (by rw [h1, h2])] at hn
    cases hn
theorem lit_dec (a b : ByteArray) : (Lit.string a.data.toList).sameKey (.string b.data.toList) = decide (a = b) := by
 by_cases e : a = b
 ·subst e; rw [lit_self]; simp
 ·rw [decide_eq_false e]
  exact Bool.eq_false_iff.2 (fun h => e (lit_same h))
def done1 (fb : ByteArray → Option ByteArray) (left : Lit → Bool) (nm : ByteArray) : Bool := (fb nm).isSome && !left (.string nm.data.toList)
def done2 (fa fb : ByteArray → Option ByteArray) (left : Lit → Bool) (nm : ByteArray) : Bool := (fb nm).isSome || ((fa nm).isSome && !left (.string nm.data.toList))
theorem done1_step {fb : ByteArray → Option ByteArray} {left : Lit → Bool} {s : ByteArray} (h : (fb s).isSome = true) (nm : ByteArray) : done1 fb (fun z => left z && !z.sameKey (.string s.data.toList)) nm = (done1 fb left nm || decide (nm = s)) := by
 unfold done1
 simp only [lit_dec]
 by_cases e : nm = s
 ·subst e; rw [h]; simp
 ·simp [e]
theorem done2_step {fa fb : ByteArray → Option ByteArray} {left : Lit → Bool} {s : ByteArray} (h : (fa s).isSome = true) (nm : ByteArray) : done2 fa fb (fun z => left z && !z.sameKey (.string s.data.toList)) nm = (done2 fa fb left nm || decide (nm = s)) := by
 unfold done2
 simp only [lit_dec]
 by_cases e : nm = s
 ·subst e; rw [h]; simp
 ·simp [e]
set_option maxHeartbeats 8000000 in
set_option maxRecDepth 100000 in
theorem diff.walk (A0 : Option Addr) (c0 : Nat) (l0 : List S43) (A1 : Option Addr) (c1 : Nat) (l1 : List S43) (w : World) (hr0 : Kd.C k43 w A0 l0.length l0) (hr1 : Kd.C k43 w A1 l1.length l1) (hn : l0.length + l1.length ≤ 1000000) (hs0 : ∀ n ∈ l0, n.f0.size ≤ maxLen) (hs1 : ∀ n ∈ l1, n.f0.size ≤ maxLen) :
  Calls Tryz.prog 8 #[.slice A0 l0.length c0, .slice A1 l1.length c1] w fun e w' => ∃ v zs, e = .returned v ∧ NRow33 w' w.heap.size v zs ∧ SC zs ∧ (∀ c : S66, c ∈ zs ↔ diffF (valL l0) (valL l1) c.f0 = some c) ∧ Below w.heap.size w w' := by
 have HC := Lib.hid (gathered.walk A0 c0 l0 w hr0 (by omega) hs0)
 have HR1 := Lib.hid hr1
 have HS1 := Lib.hid hs1
 obtain ⟨i0, hi, hy0, hy1, hy2⟩ := info_parts info66
 clear hr0 hr1 hs0 hs1
 have T1 : True := trivial
 go_enter Tryz.func8, Tryz.ntmps8
 go_wp2_with (first | (go_at_call 22; have _t := T1; go_must (refine HC.out.mono ?_; rintro e w1 ⟨Da, rfl, hm, hH, hb⟩; have HMa1 := Lib.hid hm; have HHa := Lib.hid hH; have HB1 := Lib.hid hb; clear hm hH hb T1 _t)) | (go_at_call 22; go_must (refine (gathered.walk A1 c1 l1 w1 (Kd.C_below HR1.out HB1.out) (by omega) HS1.out).mono ?_; rintro e w2 ⟨Db, rfl, hm, hH, hb⟩; have HMb := Lib.hid hm; have HHb := Lib.hid hH; have HMa := Lib.hid (owns_below HMa1.out hb); have HB2 := keepB HB1 hb; clear hm hH hb)) | (at_range; go_must (refine wpList_range_own _ rfl _ 62 rfl 9 9 slaw Tryz.underlying62 strR w1.heap.size l1.length Db rfl HMb.out ?_; intro w0 hrg0 hg0 hs0)))
 go_frame
 have HR0 := Lib.hid hrg0
 have HB0 : Hid (Below w.heap.size w w0) := HB2.out.grown hg0 HB2.out.size (fun j hj => by cases hj)
 have HM0 : Hid (w0.ownsMap Tryz.prog 9 strR w.heap.size l0.length Da) := owns_blk HMa.out (hg0.block _ HMa.out.lt (by simp))
 have HSz := Lib.hid HMb.out.size_le
 have HSa := Lib.hid HMa.out.size_le
 have HS1w : Hid (w.heap.size ≤ w1.heap.size) := HB1.out.size
 have HS1x : Hid (w.heap.size < w1.heap.size) := HMa1.out.lt
 have HRr : Hid (w1.heap.size < w2.heap.size) := HMb.out.lt
 have HRz : Hid (w2.heap.size < w0.heap.size) := by unfold Hid; omega
 clear hrg0 hg0 hs0 HMa1 HMa HMb HB1 HB2
 generalize w2.heap.size = r at *
 go_loopw [7] (fun v7 wz => ∃ (left : Lit → Bool) (cn : Nat) (ys : List S66), Hid (wz.ranges Tryz.prog 9 strR w1.heap.size r l1.length Db left cn) ∧ Hid (NRow33 wz (w1.heap.size + 1) v7 ys) ∧ Hid (CollD (valL l0) (valL l1) (done1 (valL l1) left) ys) ∧ ys.length + cn ≤ l1.length ∧ Hid (wz.ownsMap Tryz.prog 9 strR w.heap.size l0.length Da) ∧ Hid (Below w.heap.size w wz)) (fun _ wz => wz.rangeLeft w1.heap.size r)
 case atStart => exact ⟨_, _, [], HR0, NRow33.nil _ _, collD_start _ _ (fun nm => by unfold done1; rw [(HHb.out.2 nm).1]; cases (valL l1 nm).isSome <;> rfl), by have := HSz.out; simpa using this, HM0, HB0⟩
 case round =>
  clear HR0 HB0 HM0
  obtain ⟨left, cn, ys, HR, HN, HL, hcn, HM, hB2⟩ := hrel
  go_wp2_with (at_next; go_must (refine wpList_next_ranges _ rfl _ rfl 9 slaw strR Value.string Value.string (fun key kl hk => by obtain ⟨s, e, _⟩ := skey_inv hk; exact ⟨s, e⟩) (fun v y hv => by obtain ⟨n, e, _⟩ := strR_inv hv; exact ⟨n, e⟩) w1.heap.size r l1.length Db left cn rfl HR.out ?_ ?_))
  ·intro h0 hl0
   have HL0 := Lib.hid hl0
   have HMb2 := Lib.hid HR.out.owns
   have HLx : Hid (CollD (valL l0) (valL l1) (done2 (valL l0) (valL l1) (Maps.has Da)) ys) := collD_cong HL.out (fun nm => by unfold done2 done1; rw [HL0.out, (HHa.out.2 nm).1]; cases (valL l1 nm).isSome <;> cases (valL l0 nm).isSome <;> rfl)
   clear h0 hl0 HL
   go_wp2_with (at_range; go_must (refine wpList_range_own _ rfl _ 62 rfl 9 9 slaw Tryz.underlying62 strR w.heap.size l0.length Da rfl HM.out ?_; intro w4 hrg0 hg0 hs0))
   go_frame
   have HR0 := Lib.hid hrg0
   have HBx : Hid (Below w.heap.size w w4) := hB2.out.grown hg0 hB2.out.size (fun j hj => by cases hj)
   have HMx : Hid (w4.ownsMap Tryz.prog 9 strR w1.heap.size l1.length Db) := owns_blk HMb2.out (hg0.block _ HMb2.out.lt (by simp))
   have HNx : Hid (NRow33 w4 (w1.heap.size + 1) _ ys) := HN.out.grown hg0 (fun g hg e => by cases e)
   have HRr2 : Hid (w1.heap.size < wr.heap.size) := HMb2.out.lt
   have HRr3 : Hid (w.heap.size ≤ wr.heap.size) := hB2.out.size
   have hys : ys.length ≤ l1.length := by omega
   clear hrg0 hg0 hs0 HR HN HM hB2 HMb2
   generalize wr.heap.size = r2 at *
   go_loopw [7] (fun v7 wz => ∃ (left : Lit → Bool) (cn : Nat) (ys : List S66), Hid (wz.ranges Tryz.prog 9 strR w.heap.size r2 l0.length Da left cn) ∧ Hid (NRow33 wz (w1.heap.size + 1) v7 ys) ∧ Hid (CollD (valL l0) (valL l1) (done2 (valL l0) (valL l1) left) ys) ∧ ys.length + cn ≤ l0.length + l1.length ∧ Hid (wz.ownsMap Tryz.prog 9 strR w1.heap.size l1.length Db) ∧ Hid (Below w.heap.size w wz)) (fun _ wz => wz.rangeLeft w.heap.size r2)
   case atStart => exact ⟨_, _, ys, HR0, HNx, HLx, by have := HSa.out; omega, HMx, HBx⟩
   case round =>
    clear HR0 HBx HMx HNx HLx hys hcn cn ys
    obtain ⟨left, cn, ys, HR, HN, HL, hcn, HM, hB2⟩ := hrel
    go_wp2_with (at_next; go_must (refine wpList_next_ranges _ rfl _ rfl 9 slaw strR Value.string Value.string (fun key kl hk => by obtain ⟨s, e, _⟩ := skey_inv hk; exact ⟨s, e⟩) (fun v y hv => by obtain ⟨n, e, _⟩ := strR_inv hv; exact ⟨n, e⟩) w.heap.size r2 l0.length Da left cn rfl HR.out ?_ ?_))
    ·intro h0 hl0
     have HL0 := Lib.hid hl0
     clear h0 hl0
     go_wp2_with (go_at_call 23; go_must (refine (sort_notes33 (w1.heap.size + 1) _ ys _ HN.out (by omega)).mono ?_; rintro e w8 ⟨rfl, zs, hz, hp, hs8, hg8⟩))
     go_ret
     have hend := collD_end HL.out (fun nm => by unfold done2; rw [HL0.out]; cases (valL l1 nm).isSome <;> cases (valL l0 nm).isSome <;> rfl) hp hs8
     exact ⟨_, zs, rfl, hz.mono (by have := HS1w.out; omega), hend.1, hend.2, hB2.out.grown hg8 hB2.out.size (fun j hj => Nat.le_trans (by have := HS1w.out; omega) (own_base HN.out j hj))⟩
    ·intro x v kl yd yp w3 cn2 hkey hlk hv hat hrg2 hlt hg2 hs2 hen
     obtain ⟨s, es, rfl, hsz⟩ := skey_inv hkey
     injection es with es
     subst es
     have hv' := (strR_mk v).symm.trans hv
     injection hv' with hv'
     have hyd : (DataW.lit (.string v.data.toList) : DataW Unit) = yd := congrArg Prod.fst hv'
     subst hyd
     have hFx := hasS_some HHa.out hat
     have hss := Lib.hid hsz
     have HR2 := Lib.hid hrg2
     have HN2 := Lib.hid (HN.out.grown hg2 (fun g hg e => HN.out.ne_iter HR.out (by rw [hg]; exact e.symm)))
     have hlt' := Lib.hid hlt
     have HM2 := Lib.hid (owns_blk HM.out (hg2.block _ HM.out.lt (fun e => by cases e; exact absurd (HRr2.out) (Nat.lt_irrefl _))))
     have HBW : Hid (Below w.heap.size w w3) := hB2.out.grown hg2 hB2.out.size (fun j hj => by cases hj; exact HRr3.out)
     have HRW : Hid (w1.heap.size + 1 ≤ w3.heap.size) := HM2.out.lt
     have hFi : (valL l0 x).isSome = true := by rw [hFx]; rfl
     have hdn := done2_step (fa := valL l0) (fb := valL l1) (left := left) hFi
     have hRb : w.heap.size < w1.heap.size + 1 := by have := HS1w.out; omega
     cases hfb : valL l1 x with
     | none =>
      have h0 : done2 (valL l0) (valL l1) left x = false := by unfold done2; rw [hfb, hFi, hlk]; rfl
      have hc : diffF (valL l0) (valL l1) x = some ⟨x, ⟨#[]⟩, true⟩ := by unfold diffF; rw [hfb, hFx]
      have HL2 := Lib.hid (collD_add HL.out h0 hc hdn)
      clear hg2 hs2 hv hv' hkey hat hlk hFx hFi hdn h0 hc
      go_wp2_with (first | (at_lookup; go_must (refine wpList_looks_ok _ rfl _ _ rfl w1.heap.size l1.length Db (valL l1) rfl HM2.out HHb.out x rfl hss.out none hfb ⟨#[]⟩ false rfl rfl ?_)) | ((with_reducible refine gate_builtin (b := .append) (xs := #[.tmp 59, .tmp 62]) rfl ?_); at_builtin; go_must (refine wpList_append_own _ rfl _ _ 45 rfl (w1.heap.size + 1) 66 i0 (.agg #[(.string ⟨#[]⟩), (.string ⟨#[]⟩), (.bool false)]) 3 40 Tryz.underlying45 hi hy0 hy1 hy2 rfl (by decide) _ ys.length (fl33 ys) rfl (HN2.out.below (belowA w3 _)) _ 1 1 [.string x, .string ⟨#[]⟩, .bool true] rfl rfl (raw_new _ _ _ _ rfl) (enc33_one (⟨x, ⟨#[]⟩, true⟩ : S66)) (by unfold maxLen; omega) (by omega) (by have := HRW.out; simp; omega) ?_; intro v' w7 hown' hgrow hnil; have HN7 := Lib.hid (NRow33.snoc (n := (⟨x, ⟨#[]⟩, true⟩ : S66)) hown'); have HR7 := Lib.hid ((HR2.out.kept (below_grown (belowA w3 (.cells #[.string x, .string ⟨#[]⟩, .bool true] 66))) (by simp) (by simp)).kept hgrow (HN2.out.ne_low hRb) (HN2.out.ne_iter HR2.out)); have HM7 := Lib.hid (owns_blk (owns_below HM2.out (belowA w3 (.cells #[.string x, .string ⟨#[]⟩, .bool true] 66))) (hgrow.block _ (owns_below HM2.out (belowA w3 (.cells #[.string x, .string ⟨#[]⟩, .bool true] 66))).lt (HN2.out.ne_low (Nat.lt_succ_self _)))); have HB7 := Lib.hid ((HBW.out.trans ((belowA w3 (.cells #[.string x, .string ⟨#[]⟩, .bool true] 66)).mono HBW.out.size)).grown hgrow (by have := HRW.out; have := HBW.out.size; simp; omega) (fun j hj => Nat.le_trans (by have := HS1w.out; omega) (own_base HN2.out j hj))); clear hown' hgrow hnil)))
      go_roundw
      case rel => exact ⟨_, cn2, ys ++ [⟨x, ⟨#[]⟩, true⟩], HR7, HN7, HL2, by have := hlt'.out; simp; omega, HM7, HB7⟩
      case measure => rw [HR7.out.left_eq, HR.out.left_eq]; exact hlt'.out
     | some t =>
      have h0 : ∀ nm, done2 (valL l0) (valL l1) (fun z => left z && !z.sameKey (.string x.data.toList)) nm = done2 (valL l0) (valL l1) left nm := by
       intro nm
       rw [hdn]
       by_cases e : nm = x
       ·subst e
        have : done2 (valL l0) (valL l1) left nm = true := by unfold done2; rw [hfb]; rfl
        rw [this]; rfl
       ·simp [e]
      have HL2 := Lib.hid (collD_cong HL.out h0)
      clear hg2 hs2 hv hv' hkey hat hlk hFx hFi hdn h0
      go_wp2_with (at_lookup; go_must (refine wpList_looks_ok _ rfl _ _ rfl w1.heap.size l1.length Db (valL l1) rfl HM2.out HHb.out x rfl hss.out (some t) hfb t true rfl rfl ?_))
      go_roundw
      case rel => exact ⟨_, cn2, ys, HR2, HN2, HL2, by have := hlt'.out; omega, HM2, HBW⟩
      case measure => rw [HR2.out.left_eq, HR.out.left_eq]; exact hlt'.out
  ·intro x v kl yd yp w3 cn2 hkey hlk hv hat hrg2 hlt hg2 hs2 hen
   obtain ⟨s, es, rfl, hsz⟩ := skey_inv hkey
   injection es with es
   subst es
   have hv' := (strR_mk v).symm.trans hv
   injection hv' with hv'
   have hyd : (DataW.lit (.string v.data.toList) : DataW Unit) = yd := congrArg Prod.fst hv'
   subst hyd
   have hFx := hasS_some HHb.out hat
   have hss := Lib.hid hsz
   have HR2 := Lib.hid hrg2
   have HN2 := Lib.hid (HN.out.grown hg2 (fun g hg e => HN.out.ne_iter HR.out (by rw [hg]; exact e.symm)))
   have hlt' := Lib.hid hlt
   have HM2 := Lib.hid (owns_blk HM.out (hg2.block _ HM.out.lt (fun e => by cases e; exact absurd (Nat.lt_trans HS1x.out HRr.out) (Nat.lt_irrefl _))))
   have HBW : Hid (Below w.heap.size w w3) := hB2.out.grown hg2 hB2.out.size (fun j hj => by cases hj; exact (Nat.le_of_lt (Nat.lt_of_le_of_lt HS1w.out HRr.out)))
   have HRW : Hid (w1.heap.size + 1 ≤ w3.heap.size) := HR2.out.owns.lt
   have hFi : (valL l1 x).isSome = true := by rw [hFx]; rfl
   have hdn := done1_step (fb := valL l1) (left := left) hFi
   have h0 : done1 (valL l1) left x = false := by unfold done1; rw [hFi, hlk]; rfl
   have hRb : w.heap.size < w1.heap.size + 1 := by have := HS1w.out; omega
   cases hfa : valL l0 x with
   | none =>
    have hc : diffF (valL l0) (valL l1) x = some ⟨x, v, false⟩ := by unfold diffF; rw [hfa, hFx]
    have HL2 := Lib.hid (collD_add HL.out h0 hc hdn)
    clear hg2 hs2 hv hv' hkey hat hlk hFx hFi hdn h0 hc
    go_wp2_with (first | (at_lookup; go_must (refine wpList_looks_ok _ rfl _ _ rfl w.heap.size l0.length Da (valL l0) rfl HM2.out HHa.out x rfl hss.out none hfa ⟨#[]⟩ false rfl rfl ?_)) | ((with_reducible refine gate_builtin (b := .append) (xs := #[.tmp 39, .tmp 43]) rfl ?_); at_builtin; go_must (refine wpList_append_own _ rfl _ _ 45 rfl (w1.heap.size + 1) 66 i0 (.agg #[(.string ⟨#[]⟩), (.string ⟨#[]⟩), (.bool false)]) 3 40 Tryz.underlying45 hi hy0 hy1 hy2 rfl (by decide) _ ys.length (fl33 ys) rfl (HN2.out.below (belowA w3 _)) _ 1 1 [.string x, .string v, .bool false] rfl rfl (raw_new _ _ _ _ rfl) (enc33_one (⟨x, v, false⟩ : S66)) (by unfold maxLen; omega) (by omega) (by have := HRW.out; simp; omega) ?_; intro v' w7 hown' hgrow hnil; have HN7 := Lib.hid (NRow33.snoc (n := (⟨x, v, false⟩ : S66)) hown'); have HR7 := Lib.hid ((HR2.out.kept (below_grown (belowA w3 (.cells #[.string x, .string v, .bool false] 66))) (by simp) (by simp)).kept hgrow (HN2.out.ne_low (Nat.lt_succ_self _)) (HN2.out.ne_iter HR2.out)); have HM7 := Lib.hid (owns_blk (owns_below HM2.out (belowA w3 (.cells #[.string x, .string v, .bool false] 66))) (hgrow.block _ (owns_below HM2.out (belowA w3 (.cells #[.string x, .string v, .bool false] 66))).lt (HN2.out.ne_low hRb))); have HB7 := Lib.hid ((HBW.out.trans ((belowA w3 (.cells #[.string x, .string v, .bool false] 66)).mono HBW.out.size)).grown hgrow (by have := HRW.out; have := HBW.out.size; simp; omega) (fun j hj => Nat.le_trans (by have := HS1w.out; omega) (own_base HN2.out j hj))); clear hown' hgrow hnil)))
    go_roundw
    case rel => exact ⟨_, cn2, ys ++ [⟨x, v, false⟩], HR7, HN7, HL2, by have := hlt'.out; simp; omega, HM7, HB7⟩
    case measure => rw [HR7.out.left_eq, HR.out.left_eq]; exact hlt'.out
   | some t =>
    by_cases htv : t = v
    ·subst htv
     have hc : diffF (valL l0) (valL l1) x = none := by unfold diffF; rw [hfa, hFx]; simp
     have HL2 := Lib.hid (collD_skip HL.out hc hdn)
     clear hg2 hs2 hv hv' hkey hat hlk hFx hFi hdn h0 hc
     go_wp2_with (at_lookup; go_must (refine wpList_looks_ok _ rfl _ _ rfl w.heap.size l0.length Da (valL l0) rfl HM2.out HHa.out x rfl hss.out (some t) hfa t true rfl rfl ?_))
     go_roundw
     case rel => exact ⟨_, cn2, ys, HR2, HN2, HL2, by have := hlt'.out; omega, HM2, HBW⟩
     case measure => rw [HR2.out.left_eq, HR.out.left_eq]; exact hlt'.out
    ·have hc : diffF (valL l0) (valL l1) x = some ⟨x, v, false⟩ := by unfold diffF; rw [hfa, hFx]; simp [htv]
     have HL2 := Lib.hid (collD_add HL.out h0 hc hdn)
     have hne : (t.toList == v.toList) = false := beq_eq_false_iff_ne.2 (fun e => htv (bytes_eq e))
     clear hg2 hs2 hv hv' hkey hat hlk hFx hFi hdn h0 hc
     go_wp2_with (first | (at_lookup; go_must (refine wpList_looks_ok _ rfl _ _ rfl w.heap.size l0.length Da (valL l0) rfl HM2.out HHa.out x rfl hss.out (some t) hfa t true rfl rfl ?_)) | ((with_reducible refine gate_builtin (b := .append) (xs := #[.tmp 39, .tmp 43]) rfl ?_); at_builtin; go_must (refine wpList_append_own _ rfl _ _ 45 rfl (w1.heap.size + 1) 66 i0 (.agg #[(.string ⟨#[]⟩), (.string ⟨#[]⟩), (.bool false)]) 3 40 Tryz.underlying45 hi hy0 hy1 hy2 rfl (by decide) _ ys.length (fl33 ys) rfl (HN2.out.below (belowA w3 _)) _ 1 1 [.string x, .string v, .bool false] rfl rfl (raw_new _ _ _ _ rfl) (enc33_one (⟨x, v, false⟩ : S66)) (by unfold maxLen; omega) (by omega) (by have := HRW.out; simp; omega) ?_; intro v' w7 hown' hgrow hnil; have HN7 := Lib.hid (NRow33.snoc (n := (⟨x, v, false⟩ : S66)) hown'); have HR7 := Lib.hid ((HR2.out.kept (below_grown (belowA w3 (.cells #[.string x, .string v, .bool false] 66))) (by simp) (by simp)).kept hgrow (HN2.out.ne_low (Nat.lt_succ_self _)) (HN2.out.ne_iter HR2.out)); have HM7 := Lib.hid (owns_blk (owns_below HM2.out (belowA w3 (.cells #[.string x, .string v, .bool false] 66))) (hgrow.block _ (owns_below HM2.out (belowA w3 (.cells #[.string x, .string v, .bool false] 66))).lt (HN2.out.ne_low hRb))); have HB7 := Lib.hid ((HBW.out.trans ((belowA w3 (.cells #[.string x, .string v, .bool false] 66)).mono HBW.out.size)).grown hgrow (by have := HRW.out; have := HBW.out.size; simp; omega) (fun j hj => Nat.le_trans (by have := HS1w.out; omega) (own_base HN2.out j hj))); clear hown' hgrow hnil)))
     go_roundw
     case rel => exact ⟨_, cn2, ys ++ [⟨x, v, false⟩], HR7, HN7, HL2, by have := hlt'.out; simp; omega, HM7, HB7⟩
     case measure => rw [HR7.out.left_eq, HR.out.left_eq]; exact hlt'.out
end Go.Proofs.YtafeepdlcilicaaGreat.Q

-- C6
namespace Go.Proofs.YtafeepdlcilicaaGreat.Q
open Go.WideMaps Go.RowKit Go.Proofs.YtafeepdlcilicaaGreatW.PrintWords Go.Proofs.YtafeepdlcilicaaGreatW.PrintLast Go.Proofs.YtafeepdlcilicaaGreatW.PrintMore Go.Maps
set_option linter.unusedVariables false
set_option linter.unusedSimpArgs false

/-! ### items.Diff in the print's form -/
def items_Diff.f (l0 : List S43) (l1 : List S43) : Option (List S66) := if okI l0 = true then (if okI l1 = true then some (diffL l0 l1) else none) else none
theorem items_Diff.calls (A0 : Option Addr) (c0 : Nat) (l0 : List S43) (A1 : Option Addr) (c1 : Nat) (l1 : List S43) (r : List S66) (w : World) (hr0 : Kd.C k43 w A0 l0.length l0) (hc0 : l0.length ≤ c0) (hr1 : Kd.C k43 w A1 l1.length l1) (hc1 : l1.length ≤ c1) (h : items_Diff.f l0 l1 = some r) :
  Calls Tryz.prog 8 #[.slice A0 l0.length c0, .slice A1 l1.length c1] w fun e w' => ∃ v0_ : Value, e = .returned (v0_) ∧ Kd.R k66 66 w' w.heap.size (fun _ => True) v0_ r ∧ Below w.heap.size w w' := by
 unfold items_Diff.f at h
 split at h
 ·rename_i h0
  split at h
  ·rename_i h1
   injection h with h
   subst h
   refine (diff.walk A0 c0 l0 A1 c1 l1 w hr0 hr1 (by have := okI_len h0; have := okI_len h1; omega) (okI_size h0) (okI_size h1)).mono ?_
   rintro e w' ⟨v, zs, rfl, hn, hs, hf, hb⟩
   rw [← sortedC_ext hs (diffL_SC l0 l1) (fun c => (hf c).trans (diffL_mem l0 l1 c).symm)]
   exact ⟨v, rfl, hn.R, hb⟩
  ·cases h
 ·cases h
end Go.Proofs.YtafeepdlcilicaaGreat.Q

-- F0
namespace Go.Proofs.YtafeepdlcilicaaGreat.Q
open Go.RowKit Go.Proofs.YtafeepdlcilicaaGreatW.PrintWords Go.Proofs.YtafeepdlcilicaaGreatW.PrintLast Go.Proofs.YtafeepdlcilicaaGreatW.PrintMore
set_option linter.unusedVariables false
set_option linter.unusedSimpArgs false

/-! ### wire.read: octets as a number, the least first -/
def leN : List UInt8 → Nat
 | [] => 0
 | b :: r => b.toNat + 256 * leN r
theorem leN_snoc : ∀ (l : List UInt8) (b : UInt8), leN (l ++ [b]) = leN l + 256 ^ l.length * b.toNat
 | [], b => by simp [leN]
 | a :: l, b => by
  rw [List.cons_append, leN, leN, leN_snoc l b, List.length_cons, Nat.pow_succ, Nat.mul_add]
  rw [show 256 ^ l.length * 256 * b.toNat = 256 * (256 ^ l.length * b.toNat) by rw [Nat.mul_comm (256 ^ l.length) 256, Nat.mul_assoc]]
  omega
theorem leN_lt : ∀ l : List UInt8, leN l < 256 ^ l.length
 | [] => by simp [leN]
 | b :: l => by
  have h := leN_lt l
  have hb := b.toNat_lt
  rw [leN, List.length_cons, Nat.pow_succ]
  omega
theorem bt_val (s : ByteArray) (i : Nat) (h : i < s.size) : bt s (i : Int) = ((s.data.toList[i]'(by simpa using h)).toNat : Int) := by
 unfold bt
 rw [Int.toNat_natCast, dif_pos h]
 rfl
theorem read_step (x b i : Nat) (hi : i < 8) (hx : x < 256 ^ i) (hb : b < 256) : Go.bits .or .u64 (x : Int) (shl .u64 (IntKind.u64.wrap (b : Int)) (wrap64 (8 * (i : Int)))) = ((x + 256 ^ i * b : Nat) : Int) := by
 have e1 : IntKind.u64.wrap (b : Int) = b := by rw [IntKind.wrap_u64]; omega
 have e2 : wrap64 (8 * (i : Int)) = ((8 * i : Nat) : Int) := by unfold wrap64; omega
 have hp : 256 ^ i = 2 ^ (8 * i) := by rw [show (256 : Nat) = 2 ^ 8 from rfl, ← Nat.pow_mul]
 have hp8 : 256 ^ i * 256 ≤ 256 ^ 8 := by rw [← Nat.pow_succ]; exact Nat.pow_le_pow_right (by decide) (by omega)
 have hlt : b * 256 ^ i < 256 ^ i * 256 := by rw [Nat.mul_comm]; exact Nat.mul_lt_mul_of_pos_left hb (Nat.pow_pos (by decide))
 have h64 : (256 : Nat) ^ 8 = 18446744073709551616 := by decide
 have e3 : shl .u64 (b : Int) ((8 * i : Nat) : Int) = ((b * 256 ^ i : Nat) : Int) := by
  unfold shl
  rw [Int.toNat_natCast, show IntKind.u64.bits = 64 from rfl, Nat.min_eq_left (by omega), show ((b : Int) * 2 ^ (8 * i)) = ((b * 2 ^ (8 * i) : Nat) : Int) by push_cast; rfl, ← hp, IntKind.wrap_u64]
  omega
 rw [e1, e2, e3, bits_or_u64_nat x (b * 256 ^ i) (by omega) (by omega)]
 have h2 : b * 256 ^ i = 2 ^ (8 * i) * b := by rw [hp, Nat.mul_comm]
 rw [h2, Nat.or_comm, ← Nat.two_pow_add_eq_or_of_lt (by rw [← hp]; exact hx) b, hp]
 congr 1
 omega
theorem read_from (s : ByteArray) (hs : s.size ≤ 8) : ∀ (n i K : Nat), i + n = s.size → wire_read.l0 (K + n + 1) s (leN (s.data.toList.take i) : Int) (s.size : Int) (i : Int) = some (leN s.data.toList : Int)
 | 0, i, K, e => by
  unfold wire_read.l0
  rw [if_neg (by omega), List.take_of_length_le (by rw [Array.length_toList]; show s.size ≤ i; omega)]
 | n + 1, i, K, e => by
  have hi : i < s.size := by omega
  have hil : i < s.data.toList.length := by rw [Array.length_toList]; exact hi
  unfold wire_read.l0
  have e2 : wrap64 (8 * (i : Int)) = ((8 * i : Nat) : Int) := by unfold wrap64; omega
  rw [if_pos (by omega), if_pos (by omega), if_pos (by omega), if_pos (by rw [e2]; omega), bt_val s i hi, read_step _ _ i (by omega) (Nat.lt_of_lt_of_le (leN_lt _) (Nat.pow_le_pow_right (by decide) (by rw [List.length_take]; omega))) (UInt8.toNat_lt _), show wrap64 ((i : Int) + 1) = ((i + 1 : Nat) : Int) by unfold wrap64; omega]
  have h3 : leN (s.data.toList.take i) + 256 ^ i * (s.data.toList[i]'hil).toNat = leN (s.data.toList.take (i + 1)) := by
   rw [List.take_succ_eq_append_getElem hil, leN_snoc, List.length_take, Nat.min_eq_left (by omega)]
  rw [h3]
  exact read_from s hs n (i + 1) K (by omega)
theorem read_f (s : ByteArray) (hs : s.size ≤ 8) (k : Nat) (hk : s.size + 1 ≤ k) : wire_read.f k s = some (leN s.data.toList : Int) := by
 obtain ⟨K, rfl⟩ : ∃ K, k = K + s.size + 1 := ⟨k - (s.size + 1), by omega⟩
 unfold wire_read.f
 have := read_from s hs s.size 0 K (by omega)
 rw [List.take_zero] at this
 exact this
end Go.Proofs.YtafeepdlcilicaaGreat.Q

-- F1
namespace Go.Proofs.YtafeepdlcilicaaGreat.Q
open Go.WideMaps Go.RowKit Go.Proofs.YtafeepdlcilicaaGreatW.PrintWords Go.Proofs.YtafeepdlcilicaaGreatW.PrintLast Go.Proofs.YtafeepdlcilicaaGreatW.PrintMore Go.Maps
set_option linter.unusedVariables false
set_option linter.unusedSimpArgs false

/-! ### wire.count, wire.TakeText -/
/-- What a length's two octets say: (length, rest, error). -/
def countW (s : ByteArray) : Int × ByteArray × Int :=
 if s.size < 2 then (0, ⟨#[]⟩, 3) else if 4000 < leN (s.extract 0 2).data.toList then (0, ⟨#[]⟩, 2) else ((leN (s.extract 0 2).data.toList : Int), s.extract 2 s.size, 0)
theorem size_two (s : ByteArray) (h : 2 ≤ s.size) : (s.extract 0 2).size = 2 := by rw [ByteArray.size_extract]; omega
theorem leN_two (s : ByteArray) : leN (s.extract 0 2).data.toList < 65536 := by
 have h := leN_lt (s.extract 0 2).data.toList
 have h2 : (s.extract 0 2).data.toList.length ≤ 2 := by
  rw [Array.length_toList]
  show (s.extract 0 2).size ≤ 2
  rw [ByteArray.size_extract]
  omega
 exact Nat.lt_of_lt_of_le h (Nat.le_trans (Nat.pow_le_pow_right (by decide) h2) (by decide))
theorem count_w (s : ByteArray) (k : Nat) (hk : 9 ≤ k) : wire_count.f k s = some (countW s) := by
 unfold wire_count.f wire_cut.f countW
 by_cases h : s.size < 2
 ·rw [if_pos (by omega), if_pos h, Option.bind_some]
  simp only
  rw [read_f ⟨#[]⟩ (by decide) k (by show 0 + 1 ≤ k; omega), Option.bind_some, if_neg (by decide)]
 ·rw [if_neg (by omega), if_pos (by omega), if_pos (by omega), if_neg h, Option.bind_some]
  simp only
  have h2 := leN_two s
  have hs := size_two s (by omega)
  have e : wrap64 ((leN (s.extract 0 2).data.toList : Nat) : Int) = (leN (s.extract 0 2).data.toList : Int) := by unfold wrap64; omega
  rw [show ((2 : Int)).toNat = 2 from rfl, read_f _ (by omega) k (by omega), Option.bind_some, if_pos trivial, e]
  by_cases h3 : 4000 < leN (s.extract 0 2).data.toList
  ·rw [if_pos (by omega), if_pos h3]
  ·rw [if_neg (by omega), if_neg h3]
def cutW (s : ByteArray) (n : Int) : ByteArray × ByteArray × Int := if (s.size : Int) < n then (⟨#[]⟩, ⟨#[]⟩, 3) else (s.extract 0 n.toNat, s.extract n.toNat s.size, 0)
/-- A text taken: (text, rest, error). -/
def takeW (s : ByteArray) : ByteArray × ByteArray × Int :=
 if (countW s).2.2 = 0 then cutW (countW s).2.1 (countW s).1 else (⟨#[]⟩, ⟨#[]⟩, (countW s).2.2)
theorem countW_pos (s : ByteArray) : 0 ≤ (countW s).1 := by
 unfold countW
 split
 ·exact Int.le_refl _
 ·split
  ·exact Int.le_refl _
  ·exact Int.natCast_nonneg _
theorem cut_w (s : ByteArray) (n : Int) (h : 0 ≤ n) : wire_cut.f s n = some (cutW s n) := by
 unfold wire_cut.f cutW
 by_cases h1 : (s.size : Int) < n
 ·rw [if_pos h1, if_pos h1]
 ·rw [if_neg h1, if_neg h1, if_pos h, if_pos (by omega)]
set_option maxHeartbeats 2000000 in
set_option maxRecDepth 100000 in
theorem takeText.walk (s : ByteArray) (w : World) : Calls Tryz.prog 146 #[.string s] w fun e w' => e = .returned (.tuple #[.string (takeW s).1, .string (takeW s).2.1, .int .i64 (takeW s).2.2]) ∧ Below w.heap.size w w' := by
 have HC1 := fun W => wire_count.calls 9 s (countW s).1 (countW s).2.1 (countW s).2.2 W (count_w s 9 (Nat.le_refl _))
 have HB0 : Hid (Below w.heap.size w w) := Below.refl _ _
 have hp := countW_pos s
 unfold takeW
 generalize countW s = c at *
 obtain ⟨n, r, e⟩ := c
 simp only at hp HC1 ⊢
 have HC2 := fun W => wire_cut.calls r n (cutW r n).1 (cutW r n).2.1 (cutW r n).2.2 W (cut_w r n hp)
 generalize hq : cutW r n = q at *
 obtain ⟨q1, q2, q3⟩ := q
 simp only at HC2
 clear hq hp
 by_cases he : e = 0
 ·subst he
  rw [if_pos rfl]
  go_enter Tryz.func146, Tryz.ntmps146
  go_wp2_with (first | (go_at_call 144; go_must (refine (HC1 _).mono ?_; rintro e w1 ⟨rfl, hd⟩; have HB1 := keepB HB0 hd.below; clear hd)) | (go_at_call 120; go_must (refine (HC2 _).mono ?_; rintro e w2 ⟨rfl, hd⟩; have HB2 := keepB HB1 hd.below; clear hd)))
  go_ret3
  exact ⟨rfl, HB2.out⟩
 ·rw [if_neg he]
  go_enter Tryz.func146, Tryz.ntmps146
  go_wp2_with (go_at_call 144; go_must (refine (HC1 _).mono ?_; rintro e w1 ⟨rfl, hd⟩; have HB1 := keepB HB0 hd.below; clear hd))
  go_ret3
  exact ⟨rfl, HB1.out⟩
end Go.Proofs.YtafeepdlcilicaaGreat.Q

-- F2
namespace Go.Proofs.YtafeepdlcilicaaGreat.Q
open Go.WideMaps Go.RowKit Go.Proofs.YtafeepdlcilicaaGreatW.PrintWords Go.Proofs.YtafeepdlcilicaaGreatW.PrintLast Go.Proofs.YtafeepdlcilicaaGreatW.PrintMore Go.Maps
set_option linter.unusedVariables false
set_option linter.unusedSimpArgs false

/-! ### the closure of wire.TakeList -/
theorem info_size27 : (Tryz.prog.info? 27).map (·.size) = some 1 := by kernel_rfl
theorem info_size95 : (Tryz.prog.info? 75).map (·.size) = some 1 := by kernel_rfl
theorem storeC {t : TypeId} (hsz : (Tryz.prog.info? t).map (·.size) = some 1) {ops : Array Oper} {rest : List Oper} {o : Oper} {a : Act} {Q : Exit → Act → World → Prop} {W : World} (hN : o.dst = none) (hgd : o.guard = none) (p x : Operand) (ho : o.op = .store t p x) (g : Nat) (c0 v : Value)
  (haddr : a.eval p = .pointer (some ⟨g, 0, none⟩)) (hx : a.eval x = v) (hv : v.cells.toList = [v]) (hv1 : v.oneCell' = true) (hb : W.heap[g]? = some (.cells #[c0] t (0, 0)))
  (h : ∀ w1, w1.heap[g]? = some (.cells #[v] t (0, 0)) → (∀ k, k ≠ g → w1.heap[k]? = W.heap[k]?) → w1.heap.size = W.heap.size → (∀ B, B ≤ g → Below B W w1) → wpList Tryz.prog ops Q rest a w1) : wpList Tryz.prog ops Q (o :: rest) a W := by
 refine wpList_plain hgd fun K hK => ?_
 have hrun := run_store_run (P := Tryz.prog) (w := W) (g := g) (o := 0) (e := t) (cur := #[c0]) t v [v] hb hv hsz (by show 0 + 1 ≤ 1; decide) (by intro u hu; simp at hu; subst hu; exact hv1)
 unfold Oper.wp execOp
 simp only [ho, haddr, hx, Sem.run_bind, Sem.run_pure, Result.andThen_ok, hrun]
 show K (a.put o.dst undef) _
 rw [hN]
 exact hK _ _ (h _ (blk_set hb 0 v) (fun k hk => RowKit.Below.heap_setCell _ _ _ _ hk) (World.size_setCell _ _ _) (fun B hB => (Below.refl B W).setCell (p := ⟨g, 0, none⟩) hB _))
theorem Kd.R_cells {α : Type} {d : Kd α} {e : TypeId} {W : World} {base : Nat} {ok : Nat → Prop} {v : Value} {xs : List α} (h : Kd.R d e W base ok v xs) : v.cells.toList = [v] := by
 obtain ⟨A, c, rfl⟩ := Kd.R_slice h
 rfl
theorem Kd.R_one {α : Type} {d : Kd α} {e : TypeId} {W : World} {base : Nat} {ok : Nat → Prop} {v : Value} {xs : List α} (h : Kd.R d e W base ok v xs) : v.oneCell' = true := by
 obtain ⟨A, c, rfl⟩ := Kd.R_slice h
 rfl
set_option maxHeartbeats 2000000 in
set_option maxRecDepth 100000 in
theorem closure69.walk (gr ge go B : Nat) (rest : ByteArray) (e0 : Int) (v : Value) (out : List ByteArray) (W : World) (h12 : gr < ge) (h23 : ge < go) (h3 : go < B) (hBW : B ≤ W.heap.size)
  (hr : W.heap[gr]? = some (.cells #[.string rest] 9 (0, 0))) (he : W.heap[ge]? = some (.cells #[.int .i64 e0] 27 (0, 0))) (ho : W.heap[go]? = some (.cells #[v] 75 (0, 0))) (hR : Kd.R Kd.string 9 W B (fun k => B ≤ k) v out) (hl : out.length ≤ 100000) :
  Calls Tryz.prog 145 #[.pointer (some ⟨gr, 0, none⟩), .pointer (some ⟨ge, 0, none⟩), .pointer (some ⟨go, 0, none⟩)] W fun e w' => ∃ v', e = .returned (.tuple #[]) ∧ w'.heap[gr]? = some (.cells #[.string (takeW rest).2.1] 9 (0, 0)) ∧ w'.heap[ge]? = some (.cells #[.int .i64 (takeW rest).2.2] 27 (0, 0)) ∧
   w'.heap[go]? = some (.cells #[v'] 75 (0, 0)) ∧ Kd.R Kd.string 9 w' B (fun k => B ≤ k) v' (if (takeW rest).2.2 = 0 then out ++ [(takeW rest).1] else out) ∧ (∀ B', B' ≤ gr → Below B' W w') := by
 have KR := Lib.hid hr
 have KE := Lib.hid he
 have KO := Lib.hid ho
 have HR := Lib.hid hR
 have HL := Lib.hid hl
 have H12 := Lib.hid h12
 have H23 := Lib.hid h23
 have H3 := Lib.hid h3
 have HBW := Lib.hid hBW
 have x0 := (blk_cell hr 0).trans (rfl : _ = some (Value.string rest))
 clear hr he ho hR hl h12 h23 h3 hBW
 generalize hq : takeW rest = q
 have HQ := Lib.hid hq
 clear hq
 obtain ⟨q1, q2, q3⟩ := q
 simp only
 by_cases hz : q3 = 0
 ·subst hz
  rw [if_pos rfl]
  go_enter Tryz.func145, Tryz.ntmps145
  go_wp2_with (first | (go_at_call 146; go_must (refine (takeText.walk rest _).mono ?_; rintro e w1 ⟨rfl, hb⟩; have KR1 := Lib.hid (blk_below KR.out hb); have KE1 := Lib.hid (blk_below KE.out hb); have KO1 := Lib.hid (blk_below KO.out hb); have HR1 := Lib.hid (Kd.R_below HR.out hb); have HL1 := Lib.hid hb; have HS1 := Lib.hid (Nat.le_trans HBW.out hb.size); rw [HQ.out]; clear hb)) | ((with_reducible refine gate_ (.store 9 (.tmp 0) (.tmp 8)) rfl ?_); go_must (refine storeC info_size9 rfl rfl (.tmp 0) (.tmp 8) rfl gr _ (.string q2) rfl rfl rfl rfl KR1.out ?_; intro w2 hk ho hz hb; have KR2 := Lib.hid hk; have KE2 := Lib.hid ((ho _ (Nat.ne_of_gt H12.out)).trans KE1.out); have KO2 := Lib.hid ((ho _ (Nat.ne_of_gt (Nat.lt_trans H12.out H23.out))).trans KO1.out); have HR2 := Lib.hid (Kd.R_step HR1.out (fun k hk _ => ho k (by have := H12.out; have := H23.out; have := H3.out; omega))); have HL2 : Hid (∀ B', B' ≤ gr → Below B' W w2) := fun B' hB' => (HL1.out.mono (Nat.le_trans hB' (Nat.le_of_lt (Nat.lt_of_lt_of_le (Nat.lt_trans (Nat.lt_trans H12.out H23.out) H3.out) HBW.out)))).trans (hb B' hB'); have HS2 : Hid (B ≤ w2.heap.size) := (by unfold Hid; rw [hz]; exact HS1.out); clear hk ho hz hb)) | ((with_reducible refine gate_ (.store 27 (.tmp 1) (.tmp 9)) rfl ?_); go_must (refine storeC info_size27 rfl rfl (.tmp 1) (.tmp 9) rfl ge _ (.int .i64 0) rfl rfl rfl rfl KE2.out ?_; intro w3 hk ho hz hb; have KE3 := Lib.hid hk; have KR3 := Lib.hid ((ho _ (Nat.ne_of_lt H12.out)).trans KR2.out); have KO3 := Lib.hid ((ho _ (Nat.ne_of_gt H23.out)).trans KO2.out); have HR3 := Lib.hid (Kd.R_step HR2.out (fun k hk _ => ho k (by have := H23.out; have := H3.out; omega))); have HL3 : Hid (∀ B', B' ≤ gr → Below B' W w3) := fun B' hB' => (HL2.out B' hB').trans (hb B' (Nat.le_trans hB' (Nat.le_of_lt H12.out))); have HS3 : Hid (B ≤ w3.heap.size) := (by unfold Hid; rw [hz]; exact HS2.out); have x1 := (blk_cell KE3.out 0).trans (rfl : _ = some (Value.int .i64 0)); have x2 := (blk_cell KO3.out 0).trans (rfl : _ = some v); clear hk ho hz hb)) | ((with_reducible refine gate_builtin (b := .append) (xs := #[.tmp 12, .tmp 14]) rfl ?_); at_builtin; go_must (refine Kd.R_append Kd.string (w0 := w3) B rfl (.tmp 12) (.tmp 14) 75 9 (.string ⟨#[]⟩) 16 rfl Tryz.underlying75 info9 rfl (by decide) (by decide) v out q1 [.string q1] (fun k => B ≤ k) (fun _ => False) rfl rfl rfl (fun _ hk => hk.elim) (fun k hk => Nat.le_trans HS3.out hk) HR3.out (Below.refl _ _) HS3.out (by have := HL.out; omega) ?_; intro v4 w4 ho hb hg hat; have HR4 := Lib.hid ho; have KE4 := Lib.hid ((hb.block _ (Nat.lt_trans H23.out H3.out)).trans KE3.out); have KR4 := Lib.hid ((hb.block _ (Nat.lt_trans (Nat.lt_trans H12.out H23.out) H3.out)).trans KR3.out); have KO4 := Lib.hid ((hb.block _ H3.out).trans KO3.out); have HL4 : Hid (∀ B', B' ≤ gr → Below B' W w4) := fun B' hB' => (HL3.out B' hB').trans (hb.mono (Nat.le_trans hB' (Nat.le_of_lt (Nat.lt_trans (Nat.lt_trans H12.out H23.out) H3.out)))); clear ho hb hg hat)) | ((with_reducible refine gate_ (.store 75 (.tmp 2) (.tmp 15)) rfl ?_); go_must (refine storeC info_size95 rfl rfl (.tmp 2) (.tmp 15) rfl go _ v4 rfl rfl (Kd.R_cells HR4.out) (Kd.R_one HR4.out) KO4.out ?_; intro w5 hk ho hz hb; have KO5 := Lib.hid hk; have KR5 := Lib.hid ((ho _ (Nat.ne_of_lt (Nat.lt_trans H12.out H23.out))).trans KR4.out); have KE5 := Lib.hid ((ho _ (Nat.ne_of_lt H23.out)).trans KE4.out); have HR5 := Lib.hid (Kd.R_step HR4.out (fun k hk _ => ho k (by have := H3.out; omega))); have HL5 : Hid (∀ B', B' ≤ gr → Below B' W w5) := fun B' hB' => (HL4.out B' hB').trans (hb B' (Nat.le_trans hB' (Nat.le_of_lt (Nat.lt_trans H12.out H23.out)))); clear hk ho hz hb)))
  go_end0
  first | exact ⟨v4, rfl, KR5.out, KE5.out, KO5.out, HR5.out, HL5.out⟩ | exact ⟨rfl, KR5.out, KE5.out, v4, KO5.out, HR5.out, HL5.out⟩ | exact ⟨rfl, KR5.out, KE5.out, ⟨v4, KO5.out, HR5.out⟩, HL5.out⟩
 ·rw [if_neg hz]
  go_enter Tryz.func145, Tryz.ntmps145
  go_wp2_with (first | (go_at_call 146; go_must (refine (takeText.walk rest _).mono ?_; rintro e w1 ⟨rfl, hb⟩; have KR1 := Lib.hid (blk_below KR.out hb); have KE1 := Lib.hid (blk_below KE.out hb); have KO1 := Lib.hid (blk_below KO.out hb); have HR1 := Lib.hid (Kd.R_below HR.out hb); have HL1 := Lib.hid hb; have HS1 := Lib.hid (Nat.le_trans HBW.out hb.size); rw [HQ.out]; clear hb)) | ((with_reducible refine gate_ (.store 9 (.tmp 0) (.tmp 8)) rfl ?_); go_must (refine storeC info_size9 rfl rfl (.tmp 0) (.tmp 8) rfl gr _ (.string q2) rfl rfl rfl rfl KR1.out ?_; intro w2 hk ho hz hb; have KR2 := Lib.hid hk; have KE2 := Lib.hid ((ho _ (Nat.ne_of_gt H12.out)).trans KE1.out); have KO2 := Lib.hid ((ho _ (Nat.ne_of_gt (Nat.lt_trans H12.out H23.out))).trans KO1.out); have HR2 := Lib.hid (Kd.R_step HR1.out (fun k hk _ => ho k (by have := H12.out; have := H23.out; have := H3.out; omega))); have HL2 : Hid (∀ B', B' ≤ gr → Below B' W w2) := fun B' hB' => (HL1.out.mono (Nat.le_trans hB' (Nat.le_of_lt (Nat.lt_of_lt_of_le (Nat.lt_trans (Nat.lt_trans H12.out H23.out) H3.out) HBW.out)))).trans (hb B' hB'); have HS2 : Hid (B ≤ w2.heap.size) := (by unfold Hid; rw [hz]; exact HS1.out); clear hk ho hz hb)) | ((with_reducible refine gate_ (.store 27 (.tmp 1) (.tmp 9)) rfl ?_); go_must (refine storeC info_size27 rfl rfl (.tmp 1) (.tmp 9) rfl ge _ (.int .i64 q3) rfl rfl rfl rfl KE2.out ?_; intro w3 hk ho hz hb; have KE3 := Lib.hid hk; have KR3 := Lib.hid ((ho _ (Nat.ne_of_lt H12.out)).trans KR2.out); have KO3 := Lib.hid ((ho _ (Nat.ne_of_gt H23.out)).trans KO2.out); have HR3 := Lib.hid (Kd.R_step HR2.out (fun k hk _ => ho k (by have := H23.out; have := H3.out; omega))); have HL3 : Hid (∀ B', B' ≤ gr → Below B' W w3) := fun B' hB' => (HL2.out B' hB').trans (hb B' (Nat.le_trans hB' (Nat.le_of_lt H12.out))); have HS3 : Hid (B ≤ w3.heap.size) := (by unfold Hid; rw [hz]; exact HS2.out); have x1 := (blk_cell KE3.out 0).trans (rfl : _ = some (Value.int .i64 q3)); have x2 := (blk_cell KO3.out 0).trans (rfl : _ = some v); clear hk ho hz hb)))
  go_end0
  first | exact ⟨v, rfl, KR3.out, KE3.out, KO3.out, HR3.out, HL3.out⟩ | exact ⟨rfl, KR3.out, KE3.out, v, KO3.out, HR3.out, HL3.out⟩ | exact ⟨rfl, KR3.out, KE3.out, ⟨v, KO3.out, HR3.out⟩, HL3.out⟩
end Go.Proofs.YtafeepdlcilicaaGreat.Q

-- F3
namespace Go.Proofs.YtafeepdlcilicaaGreat.Q
open Go.WideMaps Go.RowKit Go.Proofs.YtafeepdlcilicaaGreatW.PrintWords Go.Proofs.YtafeepdlcilicaaGreatW.PrintLast Go.Proofs.YtafeepdlcilicaaGreatW.PrintMore Go.Maps
set_option linter.unusedVariables false
set_option linter.unusedSimpArgs false

/-! ### wire.TakeList -/
def takeLoop : Nat → ByteArray → List ByteArray → ByteArray × Int × List ByteArray
 | 0, rest, out => (rest, 0, out)
 | n + 1, rest, out => if (takeW rest).2.2 = 0 then takeLoop n (takeW rest).2.1 (out ++ [(takeW rest).1]) else ((takeW rest).2.1, (takeW rest).2.2, out)
def finT (n : Nat) (rest : ByteArray) (e : Int) (out : List ByteArray) : ByteArray × Int × List ByteArray := if e = 0 then takeLoop n rest out else (rest, e, out)
def outT (r : ByteArray × Int × List ByteArray) : List ByteArray × ByteArray × Int := if r.2.1 = 0 then (r.2.2, r.1, 0) else ([], ⟨#[]⟩, r.2.1)
def takeListW (s : ByteArray) : List ByteArray × ByteArray × Int := outT (finT (countW s).1.toNat (countW s).2.1 (countW s).2.2 [])
theorem countW_le (s : ByteArray) : (countW s).1 ≤ 4000 := by
 unfold countW
 split
 ·decide
 ·split
  ·decide
  ·simp only; omega
theorem finT_step (n : Nat) (rest : ByteArray) (out : List ByteArray) : finT (n + 1) rest 0 out = finT n (takeW rest).2.1 (takeW rest).2.2 (if (takeW rest).2.2 = 0 then out ++ [(takeW rest).1] else out) := by
 unfold finT
 rw [if_pos rfl, takeLoop]
 split <;> rfl
set_option maxHeartbeats 2000000 in
set_option maxRecDepth 100000 in
theorem takeList.walk (s : ByteArray) (w : World) : Calls Tryz.prog 122 #[.string s] w fun e w' => ∃ v, e = .returned (.tuple #[v, .string (takeListW s).2.1, .int .i64 (takeListW s).2.2]) ∧ Kd.R Kd.string 9 w' w.heap.size (fun _ => True) v (takeListW s).1 ∧ Below w.heap.size w w' := by
 have HC1 := fun W => wire_count.calls 9 s (countW s).1 (countW s).2.1 (countW s).2.2 W (count_w s 9 (Nat.le_refl _))
 have HB0 : Hid (Below w.heap.size w w) := Below.refl _ _
 have hp := countW_pos s
 have hl := countW_le s
 unfold takeListW
 generalize countW s = c at *
 obtain ⟨n0, r0, c0⟩ := c
 simp only at hp hl HC1 ⊢
 generalize hF : finT n0.toNat r0 c0 [] = F
 have HF := Lib.hid hF
 have HP := Lib.hid hp
 have HLn := Lib.hid hl
 clear hF hp hl
 go_enter Tryz.func122, Tryz.ntmps122
 go_wp2_with (first | (go_at_call 144; go_must (refine (HC1 _).mono ?_; rintro e w1 ⟨rfl, hd⟩; have HB1 := keepB HB0 hd.below; clear hd)) | ((with_reducible refine gate_dst (N := 6) rfl ?_); go_must (refine box_event ?hg (N := 6) ?hd (cs := #[.string (⟨#[]⟩ : ByteArray)]) (t := 9) ?hr ?_; (case hd => rfl); (case hg => rfl); (case hr => first | (go_simp; done) | (go_simp; rfl)); intro g6 e6 w2 hk hb; have K6 := Lib.hid hk; have HB2 := keepB HB1 hb; have G6 : Hid (w.heap.size ≤ g6) := (by unfold Hid; rw [e6]; exact HB1.out.size); clear e6 hk hb)) | ((with_reducible refine gate_dst (N := 7) rfl ?_); go_must (refine box_event ?hg (N := 7) ?hd (cs := #[.int .i64 0]) (t := 27) ?hr ?_; (case hd => rfl); (case hg => rfl); (case hr => first | (go_simp; done) | (go_simp; rfl)); intro g7 e7 w3 hk hb; have K7 := Lib.hid hk; have K6b := Lib.hid (blk_below K6.out hb); have G67 : Hid (g6 < g7) := (by unfold Hid; rw [e7]; exact blk_lt K6.out); have HB3 := keepB HB2 hb; clear e7 hk hb)) | ((with_reducible refine gate_ (.store 9 (.tmp 6) (.tmp 14)) rfl ?_); go_must (refine storeC info_size9 rfl rfl (.tmp 6) (.tmp 14) rfl g6 _ (.string r0) rfl rfl rfl rfl K6b.out ?_; intro w4 hk ho hz hb; have K6c := Lib.hid hk; have K7c := Lib.hid ((ho _ (Nat.ne_of_gt G67.out)).trans K7.out); have HB4 := Lib.hid (HB3.out.trans (hb _ G6.out)); clear hk ho hz hb)) | ((with_reducible refine gate_ (.store 27 (.tmp 7) (.tmp 15)) rfl ?_); go_must (refine storeC info_size27 rfl rfl (.tmp 7) (.tmp 15) rfl g7 _ (.int .i64 c0) rfl rfl rfl rfl K7c.out ?_; intro w5 hk ho hz hb; have K7d := Lib.hid hk; have K6d := Lib.hid ((ho _ (Nat.ne_of_lt G67.out)).trans K6c.out); have HB5 := Lib.hid (HB4.out.trans (hb _ (Nat.le_of_lt (Nat.lt_of_le_of_lt G6.out G67.out)))); clear hk ho hz hb)) | ((with_reducible refine gate_dst (N := 8) rfl ?_); go_must (refine box_event ?hg (N := 8) ?hd (cs := #[.slice none 0 0]) (t := 75) ?hr ?_; (case hd => rfl); (case hg => rfl); (case hr => first | (go_simp; done) | (go_simp; rfl)); intro g8 e8 w6 hk hb; have K8 := Lib.hid hk; have K6e := Lib.hid (blk_below K6d.out hb); have K7e := Lib.hid (blk_below K7d.out hb); have G78 : Hid (g7 < g8) := (by unfold Hid; rw [e8]; exact blk_lt K7d.out); have HB6 := keepB HB5 hb; have G8 := Lib.hid (blk_lt K8.out); clear e8 hk hb)))
 go_loopw [5] (fun v5 wr => ∃ (n : Nat) (rest : ByteArray) (er : Int) (v : Value) (out : List ByteArray), v5 = .int .i64 n ∧ n + out.length ≤ 4000 ∧ Hid (wr.heap[g6]? = some (.cells #[.string rest] 9 (0, 0))) ∧ Hid (wr.heap[g7]? = some (.cells #[.int .i64 er] 27 (0, 0))) ∧
  Hid (wr.heap[g8]? = some (.cells #[v] 75 (0, 0))) ∧ Hid (Kd.R Kd.string 9 wr w6.heap.size (fun k => w6.heap.size ≤ k) v out) ∧ Hid (Below w.heap.size w wr) ∧ Hid (finT n rest er out = F) ∧ Hid (w6.heap.size ≤ wr.heap.size)) (fun v5 _ => (intOf v5).toNat)
 case atStart => exact ⟨n0.toNat, r0, c0, .slice none 0 0, [], by have := HP.out; simp; omega, by have := HLn.out; have := HP.out; simp; omega, K6e, K7e, K8, Kd.R_nil _ _ _ _ _, HB6, HF, Nat.le_refl _⟩
 case round =>
  obtain ⟨n, rest, er, v, out, rfl, hn, KA, KB, KC, HR, HB, HFN, HSZ⟩ := hrel
  have d1 := (blk_cell KB.out 0).trans (rfl : _ = some (Value.int .i64 er))
  have d0 := (blk_cell KA.out 0).trans (rfl : _ = some (Value.string rest))
  have d2 := (blk_cell KC.out 0).trans (rfl : _ = some v)
  by_cases he : er = 0
  ·subst he
   cases n with
   | zero =>
    have HX : Hid ((rest, 0, out) = F) := by have := HFN.out; unfold Hid; unfold finT at this; rw [if_pos rfl] at this; exact this
    have hF := HX.out
    subst hF
    go_wp2
    go_region
    go_wp2
    go_ret3
    rw [show outT (rest, 0, out) = (out, rest, 0) from if_pos rfl]
    first
     | exact ⟨v, rfl, Kd.R_mono (Kd.R_lower (Kd.R_drew HR.out) (Nat.le_trans HB6.out.size (Nat.le_refl _))) (fun _ _ => trivial), below_drew1 HB.out⟩
     | exact ⟨v, rfl, Kd.R_mono (Kd.R_lower HR.out HB6.out.size) (fun _ _ => trivial), HB.out⟩
   | succ n =>
    have HX := Lib.hid (finT_step n rest out)
    have p0 : (0 : Int) < ((n + 1 : Nat) : Int) := by omega
    have hbig : ((n + 1 : Nat) : Int) ≤ 9223372036854775807 := by omega
    go_wp2_with (go_at_call 145; go_must (refine (closure69.walk g6 g7 g8 w6.heap.size rest 0 v out _ G67.out G78.out G8.out HSZ.out KA.out KB.out KC.out HR.out (by omega)).mono ?_; rintro e w7 ⟨v', rfl, ka, kb, kc, hr, hb⟩; have KA7 := Lib.hid ka; have KB7 := Lib.hid kb; have KC7 := Lib.hid kc; have HR7 := Lib.hid hr; have HB7 := Lib.hid (HB.out.trans (hb _ G6.out)); have HS7 := Lib.hid (Nat.le_trans HSZ.out (hb _ G6.out).size); clear ka kb kc hr hb))
    go_roundw
    case rel => exact ⟨n, _, _, v', _, by go_num, by split <;> (first | (rw [List.length_append, List.length_singleton]; omega) | omega), KA7, KB7, KC7, HR7, HB7, by unfold Hid; rw [← HX.out]; exact HFN.out, HS7⟩
    case measure => simp [intOf]
  ·have HX : Hid ((rest, er, out) = F) := by have := HFN.out; unfold Hid; unfold finT at this; rw [if_neg he] at this; exact this
   have hF := HX.out
   subst hF
   cases n with
   | zero =>
    go_wp2
    go_region
    go_wp2
    go_ret3
    rw [show outT (rest, er, out) = ([], ⟨#[]⟩, er) from if_neg he]
    first
     | exact ⟨_, rfl, Kd.R_nil _ _ _ _ _, below_drew1 HB.out⟩
     | exact ⟨_, rfl, Kd.R_nil _ _ _ _ _, HB.out⟩
   | succ n =>
    have p0 : (0 : Int) < ((n + 1 : Nat) : Int) := by omega
    go_wp2
    go_region
    go_wp2
    go_ret3
    rw [show outT (rest, er, out) = ([], ⟨#[]⟩, er) from if_neg he]
    first
     | exact ⟨_, rfl, Kd.R_nil _ _ _ _ _, below_drew1 HB.out⟩
     | exact ⟨_, rfl, Kd.R_nil _ _ _ _ _, HB.out⟩
end Go.Proofs.YtafeepdlcilicaaGreat.Q

-- F4
namespace Go.Proofs.YtafeepdlcilicaaGreat.Q
open Go.WideMaps Go.RowKit Go.Proofs.YtafeepdlcilicaaGreatW.PrintWords Go.Proofs.YtafeepdlcilicaaGreatW.PrintLast Go.Proofs.YtafeepdlcilicaaGreatW.PrintMore Go.Maps
set_option linter.unusedVariables false
set_option linter.unusedSimpArgs false

/-! ### wire.Whole -/
def wholeW (s : ByteArray) : List ByteArray × Int :=
 if (takeListW s).2.2 = 0 then (if (takeListW s).2.1.toList.isEmpty = true then ((takeListW s).1, 0) else ([], 2)) else ([], (takeListW s).2.2)
set_option maxHeartbeats 2000000 in
set_option maxRecDepth 100000 in
theorem whole.walk (s : ByteArray) (w : World) : Calls Tryz.prog 76 #[.string s] w fun e w' => ∃ v, e = .returned (.tuple #[v, .int .i64 (wholeW s).2]) ∧ Kd.R Kd.string 9 w' w.heap.size (fun _ => True) v (wholeW s).1 ∧ Below w.heap.size w w' := by
 have HC := Lib.hid (takeList.walk s)
 have HB0 : Hid (Below w.heap.size w w) := Below.refl _ _
 unfold wholeW
 generalize takeListW s = t at *
 obtain ⟨l, r, e⟩ := t
 simp only
 by_cases he : e = 0
 ·subst he
  rw [if_pos rfl]
  cases hr : r.toList.isEmpty
  ·rw [if_neg (by decide)]
   go_enter Tryz.func76, Tryz.ntmps76
   go_wp2_with (go_at_call 122; go_must (refine (HC.out _).mono ?_; rintro e w1 ⟨v, rfl, ho, hb⟩; have HO := Lib.hid ho; have HB := Lib.hid hb; clear ho hb))
   go_ret2
   exact ⟨_, rfl, Kd.R_nil _ _ _ _ _, HB.out⟩
  ·rw [if_pos rfl]
   go_enter Tryz.func76, Tryz.ntmps76
   go_wp2_with (go_at_call 122; go_must (refine (HC.out _).mono ?_; rintro e w1 ⟨v, rfl, ho, hb⟩; have HO := Lib.hid ho; have HB := Lib.hid hb; clear ho hb))
   go_ret2
   exact ⟨_, rfl, HO.out, HB.out⟩
 ·rw [if_neg he]
  go_enter Tryz.func76, Tryz.ntmps76
  go_wp2_with (go_at_call 122; go_must (refine (HC.out _).mono ?_; rintro e w1 ⟨v, rfl, ho, hb⟩; have HO := Lib.hid ho; have HB := Lib.hid hb; clear ho hb))
  go_ret2
  exact ⟨_, rfl, Kd.R_nil _ _ _ _ _, HB.out⟩
end Go.Proofs.YtafeepdlcilicaaGreat.Q

-- F5
namespace Go.Proofs.YtafeepdlcilicaaGreat.Q
open Go.RowKit Go.Proofs.YtafeepdlcilicaaGreatW.PrintWords Go.Proofs.YtafeepdlcilicaaGreatW.PrintLast Go.Proofs.YtafeepdlcilicaaGreatW.PrintMore
set_option linter.unusedVariables false
set_option linter.unusedSimpArgs false

/-! ### what was laid is taken -/
theorem lay2_le (n : Nat) (h : n < 65536) : leN (lay2B n).data.toList = n := by
 unfold lay2B strOfNums
 simp [leN, shr, show IntKind.u64.bits = 64 from rfl]
 omega
theorem dig_of (n d : Nat) (hd : 0 < d) : ((n : Int) / (d : Int) % 256).toNat % 256 = n / d % 256 := by
 rw [show ((n : Int) / (d : Int)) = ((n / d : Nat) : Int) from rfl]
 omega
theorem mod_step (n d : Nat) : n % d + d * (n / d % 256) = n % (d * 256) := (Nat.mod_mul (x := n) (a := d) (b := 256)).symm
theorem num8_le (n : Nat) (h : n < 18446744073709551616) : leN (num8 n).data.toList = n := by
 have e : leN (num8 n).data.toList = n % 256 + 256 * (n / 256 % 256) + 65536 * (n / 65536 % 256) + 16777216 * (n / 16777216 % 256) + 4294967296 * (n / 4294967296 % 256) + 1099511627776 * (n / 1099511627776 % 256) + 281474976710656 * (n / 281474976710656 % 256) + 72057594037927936 * (n / 72057594037927936 % 256) := by
  have d1 : ((n : Int) / 256 % 256).toNat % 256 = n / 256 % 256 := dig_of n 256 (by decide)
  have d2 : ((n : Int) / 65536 % 256).toNat % 256 = n / 65536 % 256 := dig_of n 65536 (by decide)
  have d3 : ((n : Int) / 16777216 % 256).toNat % 256 = n / 16777216 % 256 := dig_of n 16777216 (by decide)
  have d4 : ((n : Int) / 4294967296 % 256).toNat % 256 = n / 4294967296 % 256 := dig_of n 4294967296 (by decide)
  have d5 : ((n : Int) / 1099511627776 % 256).toNat % 256 = n / 1099511627776 % 256 := dig_of n 1099511627776 (by decide)
  have d6 : ((n : Int) / 281474976710656 % 256).toNat % 256 = n / 281474976710656 % 256 := dig_of n 281474976710656 (by decide)
  have d7 : ((n : Int) / 72057594037927936 % 256).toNat % 256 = n / 72057594037927936 % 256 := dig_of n 72057594037927936 (by decide)
  have d0 : ((n : Int) % 256).toNat % 256 = n % 256 := by omega
  unfold num8 strOfNums
  simp [leN, shr, show IntKind.u64.bits = 64 from rfl]
  generalize ((n : Int) % 256).toNat % 256 = x0 at *
  generalize ((n : Int) / 256 % 256).toNat % 256 = x1 at *
  generalize ((n : Int) / 65536 % 256).toNat % 256 = x2 at *
  generalize ((n : Int) / 16777216 % 256).toNat % 256 = x3 at *
  generalize ((n : Int) / 4294967296 % 256).toNat % 256 = x4 at *
  generalize ((n : Int) / 1099511627776 % 256).toNat % 256 = x5 at *
  generalize ((n : Int) / 281474976710656 % 256).toNat % 256 = x6 at *
  generalize ((n : Int) / 72057594037927936 % 256).toNat % 256 = x7 at *
  rw [← d0, ← d1, ← d2, ← d3, ← d4, ← d5, ← d6, ← d7]
  clear d0 d1 d2 d3 d4 d5 d6 d7 h
  omega
 have m1 := mod_step n 256
 have m2 := mod_step n 65536
 have m3 := mod_step n 16777216
 have m4 := mod_step n 4294967296
 have m5 := mod_step n 1099511627776
 have m6 := mod_step n 281474976710656
 have m7 := mod_step n 72057594037927936
 rw [e, m1, m2, m3, m4, m5, m6, m7]
 exact Nat.mod_eq_of_lt h
theorem ext_list (s : ByteArray) (a b : Nat) : (s.extract a b).data.toList = (s.data.toList.take b).drop a := by
 rw [ByteArray.data_extract, Array.toList_extract, List.extract_eq_take_drop, List.drop_take]
theorem lay2_len (n : Int) : (lay2B n).data.toList.length = 2 := by rw [Array.length_toList]; exact lay2B_size n
theorem size_list (s : ByteArray) : s.data.toList.length = s.size := by rw [Array.length_toList]; rfl
theorem count_laid (s r : ByteArray) (n : Nat) (hn : n ≤ 4000) (h : s.data.toList = (lay2B n).data.toList ++ r.data.toList) : countW s = ((n : Int), r, 0) := by
 have hl : s.size = 2 + r.size := by rw [← size_list, h, List.length_append, lay2_len, size_list]
 have h0 : (s.extract 0 2).data.toList = (lay2B n).data.toList := by
  rw [ext_list, h, List.drop_zero, List.take_left' (lay2_len n)]
 have h1 : s.extract 2 s.size = r := by
  apply bytes_inj
  rw [ext_list, List.take_of_length_le (by rw [size_list]; exact Nat.le_refl _), h, List.drop_left' (lay2_len n)]
 unfold countW
 rw [if_neg (by omega), h0, lay2_le n (by omega), if_neg (by omega), h1]
theorem take_laid (s t r : ByteArray) (ht : t.size ≤ 4000) (h : s.data.toList = textL t ++ r.data.toList) : takeW s = (t, r, 0) := by
 have ht2 : textL t = (lay2B t.size).data.toList ++ t.data.toList := by
  unfold textL textB
  rw [ByteArray.data_append, Array.toList_append]
 have hc : countW s = ((t.size : Int), t ++ r, 0) := count_laid s (t ++ r) t.size ht (by rw [h, ht2, ByteArray.data_append, Array.toList_append, List.append_assoc])
 unfold takeW
 rw [hc]
 simp only
 rw [if_pos trivial]
 unfold cutW
 rw [if_neg (by rw [ByteArray.size_append]; omega), Int.toNat_natCast]
 congr 1
 ·apply bytes_inj
  rw [ext_list, List.drop_zero, ByteArray.data_append, Array.toList_append, List.take_left' (size_list t)]
 ·congr 1
  apply bytes_inj
  rw [ext_list, List.take_of_length_le (by rw [size_list]; exact Nat.le_refl _), ByteArray.data_append, Array.toList_append, List.drop_left' (size_list t)]
theorem loop_laid : ∀ (ts : List ByteArray) (s : ByteArray) (out : List ByteArray), (∀ t ∈ ts, t.size ≤ 4000) → s.data.toList = ts.flatMap textL → takeLoop ts.length s out = (⟨#[]⟩, 0, out ++ ts)
 | [], s, out, _, h => by
  have : s = ⟨#[]⟩ := bytes_inj (by rw [h]; rfl)
  rw [this, List.append_nil]
  rfl
 | t :: ts, s, out, ht, h => by
  rw [List.flatMap_cons] at h
  have hk := take_laid s t ⟨(ts.flatMap textL).toArray⟩ (ht t List.mem_cons_self) (by rw [h])
  rw [List.length_cons, takeLoop, hk]
  simp only
  rw [if_pos trivial, loop_laid ts _ _ (fun x hx => ht x (List.mem_cons_of_mem _ hx)) rfl, List.append_assoc]
  rfl
theorem whole_laid (ts : List ByteArray) (hl : ts.length ≤ 4000) (ht : ∀ t ∈ ts, t.size ≤ 4000) : wholeW (listB ts) = (ts, 0) := by
 have hc : countW (listB ts) = ((ts.length : Int), ⟨(ts.flatMap textL).toArray⟩, 0) := count_laid _ _ _ hl rfl
 have hL : takeListW (listB ts) = (ts, ⟨#[]⟩, 0) := by
  unfold takeListW
  rw [hc]
  simp only
  unfold finT
  rw [if_pos rfl, Int.toNat_natCast, loop_laid ts _ [] ht rfl]
  unfold outT
  rw [if_pos rfl, List.nil_append]
 unfold wholeW
 rw [hL]
 simp only
 rw [if_pos trivial, if_pos (by rw [Lib.toList_data]; rfl)]
end Go.Proofs.YtafeepdlcilicaaGreat.Q

-- F8
namespace Go.Proofs.YtafeepdlcilicaaGreat.Q
open Go.RowKit Go.Proofs.YtafeepdlcilicaaGreatW.PrintWords Go.Proofs.YtafeepdlcilicaaGreatW.PrintLast Go.Proofs.YtafeepdlcilicaaGreatW.PrintMore
set_option linter.unusedVariables false
set_option linter.unusedSimpArgs false

/-! ### wire.TakeNum -/
/-- A number taken: (number, rest, error). -/
def numW (s : ByteArray) : Int × ByteArray × Int := if s.size < 8 then (0, ⟨#[]⟩, 3) else ((leN (s.extract 0 8).data.toList : Int), s.extract 8 s.size, 0)
theorem num_w (s : ByteArray) (k : Nat) (hk : 9 ≤ k) : wire_TakeNum.f k s = some (numW s) := by
 unfold wire_TakeNum.f wire_cut.f numW
 by_cases h : s.size < 8
 ·rw [if_pos (by omega), if_pos h, Option.bind_some]
  simp only
  rw [if_neg (by decide)]
 ·rw [if_neg (by omega), if_pos (by omega), if_pos (by omega), if_neg h, Option.bind_some]
  simp only
  have hs : (s.extract 0 8).size = 8 := by rw [ByteArray.size_extract]; omega
  rw [show ((8 : Int)).toNat = 8 from rfl, if_pos trivial, read_f _ (by omega) k (by omega), Option.bind_some]
theorem num_laid (n : Nat) (h : n < 18446744073709551616) : numW (num8 n) = ((n : Int), ⟨#[]⟩, 0) := by
 have hs : (num8 n).size = 8 := num8_size n
 have h0 : (num8 (n : Int)).extract 0 8 = num8 n := by
  apply bytes_inj
  rw [ext_list, List.drop_zero, List.take_of_length_le (by rw [size_list]; omega)]
 have h1 : (num8 (n : Int)).extract 8 (num8 (n : Int)).size = ⟨#[]⟩ := by
  apply bytes_inj
  rw [ext_list, List.drop_eq_nil_of_le (by rw [List.length_take, size_list]; omega)]
 unfold numW
 rw [if_neg (by omega), h0, num8_le n h, h1]
theorem takeNum.walk (s : ByteArray) (w : World) : Calls Tryz.prog 75 #[.string s] w fun e w' => e = .returned (.tuple #[.int .u64 (numW s).1, .string (numW s).2.1, .int .i64 (numW s).2.2]) ∧ Drawn0 w w' := wire_TakeNum.calls 9 s _ _ _ w (num_w s 9 (Nat.le_refl _))
end Go.Proofs.YtafeepdlcilicaaGreat.Q

-- O1
namespace Go.Proofs.YtafeepdlcilicaaGreat.Q
open Go.WideMaps Go.RowKit Go.Proofs.YtafeepdlcilicaaGreatW.PrintWords Go.Proofs.YtafeepdlcilicaaGreatW.PrintLast Go.Proofs.YtafeepdlcilicaaGreatW.PrintMore Go.Maps
set_option linter.unusedVariables false
set_option linter.unusedSimpArgs false

/-! ### the leaves of awake -/
theorem info_size4 : (Tryz.prog.info? 4).map (·.size) = some 1 := by kernel_rfl
theorem info_size24 : (Tryz.prog.info? 24).map (·.size) = some 2 := by kernel_rfl
theorem info_size86 : (Tryz.prog.info? 86).map (·.size) = some 1 := by kernel_rfl
theorem setCell_self {w : World} {g j : Nat} {cs : Array Value} {t : TypeId} {v : Value} (h : w.heap[g]? = some (.cells cs t (0, 0))) (hj : cs[j]? = some v) : w.setCell ⟨g, j, none⟩ v = w := by
 have e : (w.setCell ⟨g, j, none⟩ v).heap = w.heap := by
  apply Array.ext_getElem?
  intro k
  by_cases hk : k = g
  ·subst hk
   rw [blk_set h j v, h]
   congr 2
   apply Array.ext_getElem?
   intro i
   rw [Array.getElem?_setIfInBounds]
   split
   ·rename_i e
    subst e
    rw [hj]
    split
    ·rfl
    ·rename_i hn
     exact absurd (Array.getElem?_eq_some_iff.1 hj).1 hn
   ·rfl
  ·exact Below.heap_setCell _ _ _ _ hk
 cases w
 simp only [World.setCell] at e ⊢
 rw [e]
theorem store_self {t : TypeId} {ops : Array Oper} {rest : List Oper} {o : Oper} {a : Act} {Q : Exit → Act → World → Prop} {W : World} (hN : o.dst = none) (hgd : o.guard = none) (p x : Operand) (ho : o.op = .store t p x) (g j : Nat) (cs : Array Value) (e : TypeId) (v : Value)
  (haddr : a.eval p = .pointer (some ⟨g, j, none⟩)) (hx : a.eval x = v) (hv : v.cells.toList = [v]) (hv1 : v.oneCell' = true) (hsz : (Tryz.prog.info? t).map (·.size) = some 1) (hb : W.heap[g]? = some (.cells cs e (0, 0))) (hj : cs[j]? = some v)
  (h : wpList Tryz.prog ops Q rest a W) : wpList Tryz.prog ops Q (o :: rest) a W := by
 refine wpList_plain hgd fun K hK => ?_
 have hlt : j + 1 ≤ cs.size := (Array.getElem?_eq_some_iff.1 hj).1
 have hrun := run_store_run (P := Tryz.prog) (w := W) (g := g) (o := j) (e := e) (cur := cs) t v [v] hb hv hsz hlt (by intro u hu; simp at hu; subst hu; exact hv1)
 have hs : W.setCells g j [v] = W := setCell_self hb hj
 rw [hs] at hrun
 unfold Oper.wp execOp
 simp only [ho, haddr, hx, Sem.run_bind, Sem.run_pure, Result.andThen_ok, hrun]
 show K (a.put o.dst undef) _
 rw [hN]
 exact hK _ _ h
def lay0 : ByteArray := listB [num8 0]
def it0 : S43 := ⟨⟨#[116]⟩, lay0⟩
/-- The builder's block as it stays. -/
def Bd (g : Nat) (w : World) : Prop := w.heap[g]? = some (.cells #[.int .i64 0, .slice none 0 0, .bool false] 88 (0, 0))
set_option maxHeartbeats 2000000 in
set_option maxRecDepth 100000 in
theorem check0 (w : World) : Calls Tryz.prog 12 #[.agg #[.int .i64 0, .slice none 0 0]] w fun e w' => e = .returned (.int .i64 0) ∧ Below w.heap.size w w' := by
 have HB := Below.refl w.heap.size w
 go_enter Tryz.func12, Tryz.ntmps12
 go_wp2
 refine wp_loop_rounds 1 ?_
 rw [rounds_succ]
 go_wp2
 go_ret
 exact ⟨rfl, by repeat (first | (with_reducible first | exact HB | apply below_alloc | apply pw_below_drewN | apply below_drew1) | exact HB)⟩
set_option maxHeartbeats 2000000 in
set_option maxRecDepth 100000 in
theorem val0 (A : Option Addr) (c : Nat) (l : List ByteArray) (w : World) (hr : Kd.C Kd.string w A l.length l) (hn : l.length ≤ 4000) (hs : ∀ s ∈ l, s.size ≤ 4000) :
  Calls Tryz.prog 13 #[.slice A l.length c] w fun e w' => e = .returned (.string (listB l)) ∧ Below w.heap.size w w' := by
 have HC := Lib.hid (list.walk A c l w hr hn hs)
 clear hr hn hs
 go_enter Tryz.func13, Tryz.ntmps13
 go_wp2_with (go_at_call 31; refine HC.out.mono ?_; rintro e w1 ⟨rfl, hb⟩; have HB1 := Lib.hid hb; clear hb)
 go_ret
 exact ⟨rfl, HB1.out⟩
set_option maxHeartbeats 2000000 in
set_option maxRecDepth 100000 in
theorem number0 (g : Nat) (w : World) (hg : Bd g w) : Calls Tryz.prog 37 #[.pointer (some ⟨g, 0, none⟩), .string (num8 0)] w fun e w' => e = .returned (.int .u64 0) ∧ Below w.heap.size w w' := by
 have HC := takeNum.walk (num8 0)
 rw [show numW (num8 0) = (0, ⟨#[]⟩, 0) from num_laid 0 (by decide)] at HC
 have K := Lib.hid hg
 clear hg
 generalize num8 0 = s at *
 go_enter Tryz.func37, Tryz.ntmps37
 go_wp2_with (first
  | (go_at_call 75; refine (HC _).mono ?_; rintro e w1 ⟨rfl, hd⟩; have HB1 := Lib.hid hd.below; have K1 : Hid (Bd g w1) := Lib.hid (blk_below K.out hd.below); have p2 := (blk_cell K1.out 2).trans (rfl : _ = some (Value.bool false)); have z2 := blk_frozen K1.out 2; clear hd)
  | ((with_reducible refine gate_ (.store 4 (.tmp 28) (.tmp 26)) rfl ?_); go_must (refine store_self rfl rfl (.tmp 28) (.tmp 26) rfl g 2 _ 88 (.bool false) rfl rfl rfl rfl info_size4 K1.out rfl ?_)))
 go_ret
 exact ⟨rfl, HB1.out⟩
set_option maxHeartbeats 2000000 in
set_option maxRecDepth 100000 in
theorem texts0 (g : Nat) (w : World) : Calls Tryz.prog 38 #[.pointer (some ⟨g, 0, none⟩), .string lay0, .int .i64 1] w fun e w' => ∃ v, e = .returned v ∧ Kd.R Kd.string 9 w' w.heap.size (fun _ => True) v [num8 0] ∧ Below w.heap.size w w' := by
 have HC := whole.walk lay0
 rw [show wholeW lay0 = ([num8 0], 0) from whole_laid [num8 0] (by decide) (by intro t ht; simp at ht; subst ht; rw [num8_size]; decide)] at HC
 generalize lay0 = s at *
 generalize num8 0 = t at *
 go_enter Tryz.func38, Tryz.ntmps38
 go_wp2_with (go_at_call 76; refine (HC _).mono ?_; rintro e w1 ⟨v, rfl, hv, hb⟩; obtain ⟨A, c, rfl⟩ := Kd.R_slice hv; have HB1 := Lib.hid hb; have HV := Lib.hid hv; clear hb hv)
 go_ret
 exact ⟨_, rfl, HV.out, HB1.out⟩
end Go.Proofs.YtafeepdlcilicaaGreat.Q

-- O2
namespace Go.Proofs.YtafeepdlcilicaaGreat.Q
open Go.WideMaps Go.RowKit Go.Proofs.YtafeepdlcilicaaGreatW.PrintWords Go.Proofs.YtafeepdlcilicaaGreatW.PrintLast Go.Proofs.YtafeepdlcilicaaGreatW.PrintMore Go.Maps
set_option linter.unusedVariables false
set_option linter.unusedSimpArgs false

/-! ### the first closure of Build, at the one row -/
theorem keepBB {w w1 w2 : World} (hb : Below w1.heap.size w1 w2) (h : Hid (Below w.heap.size w w1)) : Hid (Below w.heap.size w w2) := keepB h hb
theorem blkB {w w1 : World} {g : Nat} {o : Obj} (hb : Below w.heap.size w w1) (h : Hid (w.heap[g]? = some o)) : Hid (w1.heap[g]? = some o) := blk_below h.out hb
theorem keep8D {w w1 : World} (h : Hid (Below w.heap.size w w1)) : Hid (Below w.heap.size w w1.drew) := h.out.trans ⟨rfl, rfl, rfl, Nat.le_refl _, fun _ _ => rfl⟩
theorem str_one {w : World} {base : Nat} {A : Option Addr} {c : Nat} {s : ByteArray} (h : Kd.R Kd.string 9 w base (fun _ => True) (.slice A [s].length c) [s]) : ∃ ad, A = some ad ∧ w.cell? ad = some (.string s) := by
 obtain ⟨ad, e, h⟩ := at_str (Kd.R_reads' h).2.2 (Below.refl _ _) 0 Nat.zero_lt_one
 refine ⟨ad, e, ?_⟩
 have e2 : ad.add 0 = ad := by cases ad; rfl
 rw [e2] at h
 exact h
attribute [local go_sem] Oper.semAt_some
theorem bdB {w w' : World} {g : Nat} (h : Below w.heap.size w w') (hb : Hid (Bd g w)) : Hid (Bd g w') := blk_below hb.out h
theorem bdS {w : World} {g : Nat} (hb : Hid (Bd g w)) : w.setCell ⟨g, 0, none⟩ (.int .i64 0) = w := setCell_self hb.out rfl
def SX (g gb : Nat) (w W : World) : Prop := Hid (Bd g W) ∧ Hid (W.heap[gb]? = some (.cells #[.pointer (some ⟨g, 0, none⟩)] 86 (0, 0))) ∧ Hid (Below w.heap.size w W)
theorem SX.step {g gb : Nat} {w W W' : World} (h : SX g gb w W) (hb : Below W.heap.size W W') : SX g gb w W' := ⟨bdB hb h.1, blkB hb h.2.1, keepBB hb h.2.2⟩
theorem SX.drew {g gb : Nat} {w W : World} (h : SX g gb w W) : SX g gb w W.drew := ⟨h.1, h.2.1, keep8D h.2.2⟩
theorem SX.set {g gb : Nat} {w W : World} (h : SX g gb w W) : SX g gb w (W.setCell ⟨g, 0, none⟩ (.int .i64 0)) := by rw [bdS h.1]; exact h
theorem SX.c0 {g gb : Nat} {w W : World} (h : Hid (SX g gb w W)) : W.cell? ⟨gb, 0, none⟩ = some (.pointer (some ⟨g, 0, none⟩)) := blk_cell h.out.2.1.out 0
theorem SX.c1 {g gb : Nat} {w W : World} (h : Hid (SX g gb w W)) : W.cell? ⟨g, 0, none⟩ = some (.int .i64 0) := blk_cell h.out.1.out 0
theorem SX.z {g gb : Nat} {w W : World} (h : Hid (SX g gb w W)) : W.frozen? ⟨g, 0, none⟩ = false := blk_frozen h.out.1.out 0
theorem SX.all {g gb : Nat} {w W : World} (h : Hid (SX g gb w W)) : W.cell? ⟨gb, 0, none⟩ = some (.pointer (some ⟨g, 0, none⟩)) ∧ W.cell? ⟨g, 0, none⟩ = some (.int .i64 0) ∧ W.frozen? ⟨g, 0, none⟩ = false ∧ Hid (SX g gb w W) := ⟨SX.c0 h, SX.c1 h, SX.z h, h⟩
set_option maxHeartbeats 4000000 in
set_option maxRecDepth 100000 in
theorem build1 (g gb : Nat) (w : World) (rest : ByteArray) (hg : Bd g w) (hb : w.heap[gb]? = some (.cells #[.pointer (some ⟨g, 0, none⟩)] 86 (0, 0))) :
  Calls Tryz.prog 36 #[.string rest, .string lay0, .pointer (some ⟨gb, 0, none⟩)] w fun e w' => e = .returned (.tuple #[]) ∧ Below w.heap.size w w' := by
 have HX : Hid (SX g gb w w) := ⟨hg, hb, Below.refl _ _⟩
 obtain ⟨x0, x1, x2, x3⟩ := SX.all HX
 have HT := Lib.hid (texts0 g)
 have HNM := Lib.hid (number0 g)
 clear hg hb HX
 generalize num8 0 = s at *
 generalize lay0 = t at *
 go_enter Tryz.func36, Tryz.ntmps36
 refine wp_region_held_drew (S := fun W => W.cell? ⟨gb, 0, none⟩ = some (.pointer (some ⟨g, 0, none⟩)) ∧ W.cell? ⟨g, 0, none⟩ = some (.int .i64 0) ∧ W.frozen? ⟨g, 0, none⟩ = false ∧ Hid (SX g gb w W)) (by kernel_rfl) ?_ (fun hHeld => ?_)
 ·exact SX.all (SX.drew (Hid.out (by assumption)))
 refine wpAnyH_take (i := 0) (oi := { dst := some 5, op := Op.load 86 (Operand.tmp 2), type := 86, pos := "items.go:197", after := #[], guard := none }) (v := ?v1) rfl (by kernel_rfl) (by kernel_rfl) (by kernel_rfl) (fun _ _ _ h => h) (Or.inl ⟨by rfl, ?y1⟩) (by assumption) ?r1
 case y1 => (intro w hSw; obtain ⟨s1, s2, s3, s4⟩ := hSw; go_simp; try with_reducible rfl)
 try simp only [Act.put, List.setIfInBounds_toArray, List.set_cons_zero, List.set_cons_succ]
 refine wpAnyH_take (i := 1) (oi := { dst := some 6, op := Op.load 86 (Operand.tmp 2), type := 86, pos := "items.go:197", after := #[], guard := none }) (v := ?v2) rfl (by kernel_rfl) (by kernel_rfl) (by kernel_rfl) (fun _ _ _ h => h) (Or.inl ⟨by rfl, ?y2⟩) (by assumption) ?r2
 case y2 => (intro w hSw; obtain ⟨s1, s2, s3, s4⟩ := hSw; go_simp; try with_reducible rfl)
 try simp only [Act.put, List.setIfInBounds_toArray, List.set_cons_zero, List.set_cons_succ]
 refine wpAnyH_take (i := 2) (oi := { dst := some 7, op := Op.load 86 (Operand.tmp 2), type := 86, pos := "items.go:197", after := #[], guard := none }) (v := ?v3) rfl (by kernel_rfl) (by kernel_rfl) (by kernel_rfl) (fun _ _ _ h => h) (Or.inl ⟨by rfl, ?y3⟩) (by assumption) ?r3
 case y3 => (intro w hSw; obtain ⟨s1, s2, s3, s4⟩ := hSw; go_simp; try with_reducible rfl)
 try simp only [Act.put, List.setIfInBounds_toArray, List.set_cons_zero, List.set_cons_succ]
 refine wpAnyH_take (i := 3) (oi := { dst := some 8, op := Op.move (Operand.tmp 1), type := 9, pos := "items.go:197", after := #[], guard := none }) (v := ?v4) rfl (by kernel_rfl) (by kernel_rfl) (by kernel_rfl) (fun _ _ _ h => h) (Or.inl ⟨by rfl, ?y4⟩) (by assumption) ?r4
 case y4 => (intro w hSw; obtain ⟨s1, s2, s3, s4⟩ := hSw; go_simp; try with_reducible rfl)
 try simp only [Act.put, List.setIfInBounds_toArray, List.set_cons_zero, List.set_cons_succ]
 refine wpAnyH_ready (rs := [4]) (by kernel_rfl) (by simp) ?_
 refine AllReadyH.cons (o := { dst := some 9, op := Op.call { callee := Callee.value (Operand.func 38), args := #[Operand.tmp 7, Operand.tmp 8, Operand.const (Value.int IntKind.i64 1)], argTypes := #[86, 9, 3] }, type := 75, pos := "items.go:197", after := #[{ on := 2, ground := Ground.data }, { on := 3, ground := Ground.data }], guard := none }) rfl (fun K hK => ?_) AllReadyH.nil
 rw [if_pos (by rfl)]
 go_simp
 refine (HT.out _).mono ?_
 rintro e8 w8 ⟨v, rfl, hv, hb8⟩
 obtain ⟨A, c, rfl⟩ := Kd.R_slice hv
 obtain ⟨ad, rfl, y0⟩ := str_one hv
 refine hK.out _ _ (SX.all (SX.step (Hid.out hHeld.2.2.2) hb8)) (fun hHeld => ?_)
 clear hK K hb8 hv
 try simp only [Act.put, List.setIfInBounds_toArray, List.set_cons_zero, List.set_cons_succ]
 refine wpAnyH_take (i := 5) (oi := { dst := some 10, op := Op.indexAddr 75 (Operand.tmp 9) (Operand.const (Value.int IntKind.i64 0)), type := 0, pos := "items.go:197", after := #[{ on := 4, ground := Ground.data }], guard := none }) (v := ?v5) rfl (by kernel_rfl) (by kernel_rfl) (by kernel_rfl) (fun _ _ _ h => h) (Or.inl ⟨by rfl, ?y5⟩) (by assumption) ?r5
 case y5 => (intro w hSw; obtain ⟨s1, s2, s3, s4⟩ := hSw; go_simp; try with_reducible rfl)
 try simp only [Act.put, List.setIfInBounds_toArray, List.set_cons_zero, List.set_cons_succ]
 refine wpAnyH_ready (rs := [6]) (by kernel_rfl) (by simp) ?_
 refine AllReadyH.cons (o := { dst := some 11, op := Op.load 9 (Operand.tmp 10), type := 9, pos := "items.go:197", after := #[{ on := 5, ground := Ground.data }], guard := none }) rfl (fun K hK => ?_) AllReadyH.nil
 rw [if_pos (by rfl)]
 go_simp
 refine hK.out _ _ hHeld (fun hHeld => ?_)
 clear hK K
 try simp only [Act.put, List.setIfInBounds_toArray, List.set_cons_zero, List.set_cons_succ]
 refine wpAnyH_ready (rs := [7]) (by kernel_rfl) (by simp) ?_
 refine AllReadyH.cons (o := { dst := some 12, op := Op.call { callee := Callee.value (Operand.func 37), args := #[Operand.tmp 6, Operand.tmp 11], argTypes := #[86, 9] }, type := 33, pos := "items.go:197", after := #[{ on := 1, ground := Ground.data }, { on := 6, ground := Ground.data }, { on := 4, ground := Ground.chain }], guard := none }) rfl (fun K hK => ?_) AllReadyH.nil
 rw [if_pos (by rfl)]
 go_simp
 refine (HNM.out _ (Hid.out (And.left (Hid.out hHeld.2.2.2)))).mono ?_
 rintro e9 w9 ⟨rfl, hb9⟩
 refine hK.out _ _ (SX.all (SX.step (Hid.out hHeld.2.2.2) hb9)) (fun hHeld => ?_)
 clear hK K hb9
 try simp only [Act.put, List.setIfInBounds_toArray, List.set_cons_zero, List.set_cons_succ]
 refine wpAnyH_take (i := 8) (oi := { dst := some 13, op := Op.convert 33 3 (Operand.tmp 12), type := 3, pos := "items.go:197", after := #[{ on := 7, ground := Ground.data }], guard := none }) (v := ?v6) rfl (by kernel_rfl) (by kernel_rfl) (by kernel_rfl) (fun _ _ _ h => h) (Or.inl ⟨by rfl, ?y6⟩) (by assumption) ?r6
 case y6 => (intro w hSw; obtain ⟨s1, s2, s3, s4⟩ := hSw; go_simp; try with_reducible rfl)
 try simp only [Act.put, List.setIfInBounds_toArray, List.set_cons_zero, List.set_cons_succ]
 refine wpAnyH_take (i := 9) (oi := { dst := some 14, op := Op.nilCheck (Operand.tmp 5), type := 0, pos := "items.go:197", after := #[{ on := 0, ground := Ground.data }, { on := 0, ground := Ground.phase }, { on := 1, ground := Ground.phase }, { on := 2, ground := Ground.phase }, { on := 3, ground := Ground.phase }, { on := 4, ground := Ground.phase }, { on := 5, ground := Ground.phase }, { on := 6, ground := Ground.phase }, { on := 7, ground := Ground.phase }, { on := 8, ground := Ground.phase }], guard := none }) (v := ?v7) rfl (by kernel_rfl) (by kernel_rfl) (by kernel_rfl) (fun _ _ _ h => h) (Or.inl ⟨by rfl, ?y7⟩) (by assumption) ?r7
 case y7 => (intro w hSw; obtain ⟨s1, s2, s3, s4⟩ := hSw; go_simp; try with_reducible rfl)
 try simp only [Act.put, List.setIfInBounds_toArray, List.set_cons_zero, List.set_cons_succ]
 refine wpAnyH_take (i := 10) (oi := { dst := some 15, op := Op.fieldAddr 88 (Operand.tmp 14) 0, type := 0, pos := "items.go:197", after := #[{ on := 9, ground := Ground.data }, { on := 0, ground := Ground.phase }, { on := 1, ground := Ground.phase }, { on := 2, ground := Ground.phase }, { on := 3, ground := Ground.phase }, { on := 4, ground := Ground.phase }, { on := 5, ground := Ground.phase }, { on := 6, ground := Ground.phase }, { on := 7, ground := Ground.phase }, { on := 8, ground := Ground.phase }], guard := none }) (v := ?v8) rfl (by kernel_rfl) (by kernel_rfl) (by kernel_rfl) (fun _ _ _ h => h) (Or.inl ⟨by rfl, ?y8⟩) (by assumption) ?r8
 case y8 => (intro w hSw; obtain ⟨s1, s2, s3, s4⟩ := hSw; go_simp; try with_reducible rfl)
 try simp only [Act.put, List.setIfInBounds_toArray, List.set_cons_zero, List.set_cons_succ]
 refine wpAnyH_take (i := 11) (oi := { dst := some 16, op := Op.fieldAddr 24 (Operand.tmp 15) 0, type := 0, pos := "items.go:197", after := #[{ on := 10, ground := Ground.data }, { on := 0, ground := Ground.phase }, { on := 1, ground := Ground.phase }, { on := 2, ground := Ground.phase }, { on := 3, ground := Ground.phase }, { on := 4, ground := Ground.phase }, { on := 5, ground := Ground.phase }, { on := 6, ground := Ground.phase }, { on := 7, ground := Ground.phase }, { on := 8, ground := Ground.phase }], guard := none }) (v := ?v9) rfl (by kernel_rfl) (by kernel_rfl) (by kernel_rfl) (fun _ _ _ h => h) (Or.inl ⟨by rfl, ?y9⟩) (by assumption) ?r9
 case y9 => (intro w hSw; obtain ⟨s1, s2, s3, s4⟩ := hSw; go_simp; try with_reducible rfl)
 try simp only [Act.put, List.setIfInBounds_toArray, List.set_cons_zero, List.set_cons_succ]
 refine wpAnyH_ready (rs := [12]) (by kernel_rfl) (by simp) ?_
 refine AllReadyH.cons (o := { dst := none, op := Op.store 3 (Operand.tmp 16) (Operand.tmp 13), type := 0, pos := "items.go:197", after := #[{ on := 11, ground := Ground.data }, { on := 8, ground := Ground.data }, { on := 7, ground := Ground.chain }, { on := 0, ground := Ground.phase }, { on := 1, ground := Ground.phase }, { on := 2, ground := Ground.phase }, { on := 3, ground := Ground.phase }, { on := 4, ground := Ground.phase }, { on := 5, ground := Ground.phase }, { on := 6, ground := Ground.phase }, { on := 7, ground := Ground.phase }, { on := 8, ground := Ground.phase }], guard := none }) rfl (fun K hK => ?_) AllReadyH.nil
 rw [if_pos (by rfl)]
 have hz1 := hHeld.2.1
 have hz2 := hHeld.2.2.1
 go_simp
 refine hK.out _ _ (SX.all (SX.set (Hid.out hHeld.2.2.2))) (fun hHeld => ?_)
 clear hK K hz1 hz2
 have HE := hHeld.2.2.2.out.2.2
 clear hHeld
 generalize World.setCell _ _ _ = W9 at HE ⊢
 refine wpAnyH_done (by kernel_rfl) ?_ _
 go_end0
 exact ⟨rfl, HE.out⟩
end Go.Proofs.YtafeepdlcilicaaGreat.Q

-- O3
namespace Go.Proofs.YtafeepdlcilicaaGreat.Q
open Go.WideMaps Go.RowKit Go.Proofs.YtafeepdlcilicaaGreatW.PrintWords Go.Proofs.YtafeepdlcilicaaGreatW.PrintLast Go.Proofs.YtafeepdlcilicaaGreatW.PrintMore Go.Maps
set_option linter.unusedVariables false
set_option linter.unusedSimpArgs false

/-! ### the builder's all and done, at no row and at the one row -/
theorem all_nil (p fv : Value) (kind : ByteArray) (w : World) : Calls Tryz.prog 35 #[p, .slice none 0 0, .string kind, fv] w fun e w' => e = .returned (.tuple #[]) ∧ w' = w := by
 go_enter Tryz.func35, Tryz.ntmps35
 go_wp2
 refine wp_loop_rounds 1 ?_
 rw [rounds_succ]
 go_wp2
 go_end0
 exact ⟨rfl, rfl⟩
theorem done0 (g : Nat) (w : World) (hg : Bd g w) : Calls Tryz.prog 43 #[.pointer (some ⟨g, 0, none⟩)] w fun e w' => e = .returned (.tuple #[]) ∧ w' = w := by
 have x1 := (blk_cell hg 1).trans (rfl : _ = some (Value.slice none 0 0))
 clear hg
 go_enter Tryz.func43, Tryz.ntmps43
 go_wp2
 refine wp_loop_rounds 1 ?_
 rw [rounds_succ]
 go_wp2
 go_end0
 exact ⟨rfl, rfl⟩
theorem cut_no (k : ByteArray) (w : World) (h : strings_CutPrefix.f ⟨#[116]⟩ k = some (⟨#[116]⟩, false)) : Calls Tryz.prog 74 #[.string ⟨#[116]⟩, .string k] w fun e w' => e = .returned (.tuple #[.string ⟨#[116]⟩, .bool false]) ∧ Below w.heap.size w w' :=
 (strings_CutPrefix.calls _ k _ _ w h).mono (by rintro e w' ⟨rfl, hd⟩; exact ⟨rfl, hd.below⟩)
theorem cut_yes (w : World) : Calls Tryz.prog 74 #[.string ⟨#[116]⟩, .string ⟨#[116]⟩] w fun e w' => e = .returned (.tuple #[.string ⟨#[]⟩, .bool true]) ∧ Below w.heap.size w w' :=
 (strings_CutPrefix.calls ⟨#[116]⟩ ⟨#[116]⟩ ⟨#[]⟩ true w (by kernel_rfl)).mono (by rintro e w' ⟨rfl, hd⟩; exact ⟨rfl, hd.below⟩)
set_option maxHeartbeats 4000000 in
set_option maxRecDepth 100000 in
theorem all_no (p fv : Value) (kind : ByteArray) (A : Option Addr) (c : Nat) (w : World) (hr : Kd.C k43 w A 1 [it0]) (h : strings_CutPrefix.f ⟨#[116]⟩ kind = some (⟨#[116]⟩, false)) : Calls Tryz.prog 35 #[p, .slice A 1 c, .string kind, fv] w fun e w' => e = .returned (.tuple #[]) ∧ Below w.heap.size w w' := by
 have HC := fun W => cut_no kind W h
 clear h
 obtain ⟨ad, rfl, c0, c1⟩ := at35 hr (Below.refl _ _) 0 Nat.zero_lt_one
 have e2 : ad.add (0 * 2) = ad := by cases ad; rfl
 rw [e2] at c0 c1
 have y0 : w.cell? ad = some (.string ⟨#[116]⟩) := c0
 have y1 : w.cell? ⟨ad.block, ad.off + 1, none⟩ = some (.string lay0) := c1
 clear c0 c1 e2 hr
 generalize lay0 = s at *
 generalize hs0 : (⟨#[116]⟩ : ByteArray) = s0 at *
 clear hs0
 go_enter Tryz.func35, Tryz.ntmps35
 go_wp2
 refine wp_loop_rounds 2 ?_
 rw [rounds_succ]
 go_wp2_with (first
  | ((with_reducible refine gate_dst (N := 9) rfl ?_); refine box_event ?hg (N := 9) ?hd (cs := #[.string (⟨#[]⟩ : ByteArray), .string (⟨#[]⟩ : ByteArray)]) (t := 43) ?hr ?_; (case hd => rfl); (case hg => rfl); (case hr => first | (go_simp; done) | (go_simp; rfl)); intro g5 hg5 w5 hb5 hbel5; have HB5 := Lib.hid hbel5; have G5 := Lib.hid (Nat.le_of_eq hg5.symm : w.heap.size ≤ g5); have K5 := Lib.hid hb5; clear hg5 hb5 hbel5)
  | ((with_reducible refine gate_ (.store 43 (.tmp 9) (.tmp 17)) rfl ?_); go_must (refine store35_law rfl rfl (.tmp 9) (.tmp 17) rfl g5 _ _ ⟨s0, s⟩ rfl rfl K5.out ?_; intro w6 hk6 hb6; have K6 := Lib.hid hk6; have HB6 := Lib.hid (HB5.out.trans (hb6 w.heap.size G5.out)); have q0 := (blk_cell K6.out 0).trans (rfl : _ = some (Value.string s0)); have q1 := (blk_cell K6.out 1).trans (rfl : _ = some (Value.string s)); clear hk6 hb6))
  | (go_at_call 74; refine (HC _).mono ?_; rintro e w7 ⟨rfl, hb⟩; have HB7 := Lib.hid (HB6.out.trans (hb.mono HB6.out.size)); clear hb))
 rw [rounds_succ]
 go_wp2
 go_end0
 exact ⟨rfl, HB7.out⟩
set_option maxHeartbeats 4000000 in
set_option maxRecDepth 100000 in
theorem all_yes (p : Value) (g gb : Nat) (A : Option Addr) (c : Nat) (w : World) (hr : Kd.C k43 w A 1 [it0]) (hg : Bd g w) (hb : w.heap[gb]? = some (.cells #[.pointer (some ⟨g, 0, none⟩)] 86 (0, 0))) : Calls Tryz.prog 35 #[p, .slice A 1 c, .string ⟨#[116]⟩, .func (.func 36) #[] #[.pointer (some ⟨gb, 0, none⟩)]] w fun e w' => e = .returned (.tuple #[]) ∧ Below w.heap.size w w' := by
 have HC := fun W => cut_yes W
 have HCL := Lib.hid (build1 g gb)
 have KG : Hid (Bd g w) := hg
 have KB := Lib.hid hb
 clear hg hb
 obtain ⟨ad, rfl, c0, c1⟩ := at35 hr (Below.refl _ _) 0 Nat.zero_lt_one
 have e2 : ad.add (0 * 2) = ad := by cases ad; rfl
 rw [e2] at c0 c1
 have y0 : w.cell? ad = some (.string ⟨#[116]⟩) := c0
 have y1 : w.cell? ⟨ad.block, ad.off + 1, none⟩ = some (.string lay0) := c1
 clear c0 c1 e2 hr
 generalize lay0 = s at *
 generalize hs0 : (⟨#[116]⟩ : ByteArray) = s0 at *
 clear hs0
 go_enter Tryz.func35, Tryz.ntmps35
 go_wp2
 refine wp_loop_rounds 2 ?_
 rw [rounds_succ]
 go_wp2_with (first
  | ((with_reducible refine gate_dst (N := 9) rfl ?_); refine box_event ?hg (N := 9) ?hd (cs := #[.string (⟨#[]⟩ : ByteArray), .string (⟨#[]⟩ : ByteArray)]) (t := 43) ?hr ?_; (case hd => rfl); (case hg => rfl); (case hr => first | (go_simp; done) | (go_simp; rfl)); intro g5 hg5 w5 hb5 hbel5; have HB5 := Lib.hid hbel5; have G5 := Lib.hid (Nat.le_of_eq hg5.symm : w.heap.size ≤ g5); have K5 := Lib.hid hb5; clear hg5 hb5 hbel5)
  | ((with_reducible refine gate_ (.store 43 (.tmp 9) (.tmp 17)) rfl ?_); go_must (refine store35_law rfl rfl (.tmp 9) (.tmp 17) rfl g5 _ _ ⟨s0, s⟩ rfl rfl K5.out ?_; intro w6 hk6 hb6; have K6 := Lib.hid hk6; have HB6 := Lib.hid (HB5.out.trans (hb6 w.heap.size G5.out)); have q0 := (blk_cell K6.out 0).trans (rfl : _ = some (Value.string s0)); have q1 := (blk_cell K6.out 1).trans (rfl : _ = some (Value.string s)); clear hk6 hb6))
  | (go_at_call 74; refine (HC _).mono ?_; rintro e w7 ⟨rfl, hb⟩; have HB7 := Lib.hid (HB6.out.trans (hb.mono HB6.out.size)); have K7 := Lib.hid (blk_below K6.out hb); have r0 := (blk_cell K7.out 0).trans (rfl : _ = some (Value.string s0)); have r1 := (blk_cell K7.out 1).trans (rfl : _ = some (Value.string s)); clear hb)
  | (go_at_call 36; refine (HCL.out _ _ (blk_below KG.out HB7.out) (blk_below KB.out HB7.out)).mono ?_; rintro e w8 ⟨rfl, hb⟩; have HB8 := Lib.hid (HB7.out.trans (hb.mono HB7.out.size)); clear hb))
 rw [rounds_succ]
 go_wp2
 go_end0
 exact ⟨rfl, HB8.out⟩
end Go.Proofs.YtafeepdlcilicaaGreat.Q

-- O4
namespace Go.Proofs.YtafeepdlcilicaaGreat.Q
open Go.WideMaps Go.RowKit Go.Proofs.YtafeepdlcilicaaGreatW.PrintWords Go.Proofs.YtafeepdlcilicaaGreatW.PrintLast Go.Proofs.YtafeepdlcilicaaGreatW.PrintMore Go.Maps
set_option linter.unusedVariables false
set_option linter.unusedSimpArgs false

/-! ### items.Of at the empty depot -/
theorem num0 (w : World) : Calls Tryz.prog 14 #[.int .i64 0] w fun e w' => e = .returned (.string (num8 0)) ∧ Below w.heap.size w w' :=
 items_num.calls 9 0 (num8 0) w (by unfold items_num.f; rw [show IntKind.u64.wrap 0 = 0 by decide, num8_eq]; rfl)
theorem lit35 {ops : Array Oper} {rest : List Oper} {o : Oper} {a : Act} {Q : Exit → Act → World → Prop} {W : World} (hgd : o.guard = none) {N : Tmp} (_hd : o.dst = some N) (x : S43)
  (hrun : (execOp a.eval o).run Tryz.prog W = .ok (.value (.slice (some ⟨W.heap.size, 0, none⟩) 1 1)) (W.alloc (.cells #[.string x.f0, .string x.f1] 43)))
  (h : ∀ v w1, NRow35 w1 W.heap.size v [x] → Below W.heap.size W w1 → wpList Tryz.prog ops Q rest (a.put o.dst v) w1) : wpList Tryz.prog ops Q (o :: rest) a W := by
 refine Kd.event_run hgd hrun (h _ _ ?_ (below_alloc (Below.refl _ _) _))
 have h2 := World.ownsRow_lit (base := W.heap.size) (e := 43) (size := 2) W #[.string x.f0, .string x.f1] 1 (Nat.le_refl _) (by decide) rfl
 exact h2
theorem str_lit1 {W : World} {s : ByteArray} : Reps (Kd.string.M W W.heap.size (fun _ => True)) Kd.string.sz [s] [.string s] := ⟨rfl, fun j p hj => by
 cases j with
 | zero =>
  simp at hj
  subst hj
  first | exact rfl | exact ⟨rfl, trivial⟩ | (show _ ∧ _; exact ⟨rfl, rfl⟩)
 | succ j => simp at hj⟩
set_option maxHeartbeats 4000000 in
set_option maxRecDepth 100000 in
theorem of0 (w : World) : Calls Tryz.prog 6 #[.agg #[.int .i64 0, .slice none 0 0]] w fun e w' => ∃ v, e = .returned (.tuple #[v, .int .i64 0]) ∧ NRow35 w' w.heap.size v [it0] ∧ Below w.heap.size w w' := by
 have HV := fun A c W h => val0 A c [num8 0] W h (by decide) (by intro t ht; simp at ht; subst ht; rw [num8_size]; decide)
 have HN := num0
 have HI : Hid (it0 = ⟨⟨#[116]⟩, lay0⟩) := rfl
 simp only [show listB [num8 0] = lay0 from rfl] at HV
 generalize num8 0 = s at *
 generalize it0 = it at *
 generalize lay0 = t at *
 go_enter Tryz.func6, Tryz.ntmps6
 go_wp2_with (first
  | ((with_reducible refine gate_dst (N := 1) rfl ?_); refine box_event ?hg (N := 1) ?hd (cs := #[.int .i64 0, .slice none 0 0]) (t := 24) ?hr ?_; (case hd => rfl); (case hg => rfl); (case hr => first | (go_simp; done) | (go_simp; rfl)); intro g5 hg5 w1 hb5 hbel5; have HB1 := Lib.hid hbel5; have K1 := Lib.hid hb5; have p0 := (blk_cell K1.out 0).trans (rfl : _ = some (Value.int .i64 0)); have p1 := (blk_cell K1.out 1).trans (rfl : _ = some (Value.slice none 0 0)); clear hg5 hb5 hbel5)
  | (go_at_call 12; refine (check0 _).mono ?_; rintro e w2 ⟨rfl, hb⟩; have HB2 := Lib.hid (HB1.out.trans (hb.mono HB1.out.size)); have K2 := Lib.hid (blk_below K1.out hb); have q0 := (blk_cell K2.out 0).trans (rfl : _ = some (Value.int .i64 0)); have q1 := (blk_cell K2.out 1).trans (rfl : _ = some (Value.slice none 0 0)); clear hb)
  | (go_at_call 14; refine (HN _).mono ?_; rintro e w3 ⟨rfl, hb⟩; have HB3 := Lib.hid (HB2.out.trans (hb.mono HB2.out.size)); have K3 := Lib.hid (blk_below K2.out hb); clear hb)
  | ((with_reducible refine gate_dst (N := 15) rfl ?_); go_must (refine Kd.R_lit Kd.string w3.heap.size 9 ?hg (N := 15) ?hd (w0 := w3) (xs := [s]) (inner := [.string s]) (ok := fun _ => True) (okp := fun _ => True) ?hr ?hp (fun _ hk => hk) trivial ?hB ?hS (by show (1 : Nat) ≤ _; decide) ?_; (case hd => rfl); (case hg => rfl); (case hr => first | (go_simp; done) | (go_simp; rfl)); (case hp => exact str_lit1); (case hB => exact Below.refl _ _); (case hS => exact Nat.le_refl _); intro v4 w4 ho hb _ _; have HB4 := Lib.hid (HB3.out.trans (hb.mono HB3.out.size)); have K4 := Lib.hid (blk_below K3.out hb); obtain ⟨A4, c4, rfl⟩ := Kd.R_slice ho; have HO4 := Lib.hid ho; clear ho hb))
  | (go_at_call 13; refine (HV _ _ _ (Kd.R_reads' HO4.out).2.2).mono ?_; rintro e w5 ⟨rfl, hb⟩; have HB5 := Lib.hid (HB4.out.trans (hb.mono HB4.out.size)); have K5 := Lib.hid (blk_below K4.out hb); clear hb)
  | ((with_reducible refine gate_dst (N := 18) rfl ?_); go_must (refine lit35 ?hg (N := 18) ?hd ⟨⟨#[116]⟩, t⟩ ?hr ?_; (case hd => rfl); (case hg => rfl); (case hr => first | (go_simp; done) | (go_simp; rfl)); intro v6 w6 ho hb; have HO6 := Lib.hid (ho.mono HB5.out.size); have HB6 := Lib.hid (HB5.out.trans (hb.mono HB5.out.size)); have K6 := Lib.hid (blk_below K5.out hb); have r1 := (blk_cell K6.out 1).trans (rfl : _ = some (Value.slice none 0 0)); clear ho hb)))
 refine wp_loop_rounds 1 ?_
 rw [rounds_succ]
 go_wp2_with (first
  | (go_at_call 18; refine (sort_notes35 w.heap.size v6 _ _ HO6.out (by show (1 : Nat) ≤ _; decide)).mono ?_; rintro e w7 ⟨rfl, zs, hz, hp, hs, hg⟩; have HZ := Lib.hid hz; have HP := Lib.hid hp; have HB7 := Lib.hid (HB6.out.grown hg HB6.out.size (own_base HO6.out)); clear hz hp hs hg))
 go_ret2
 obtain rfl := List.perm_singleton.1 HP.out
 rw [← HI.out] at HZ
 exact ⟨_, rfl, HZ.out, HB7.out⟩
end Go.Proofs.YtafeepdlcilicaaGreat.Q

-- O5
namespace Go.Proofs.YtafeepdlcilicaaGreat.Q
open Go.WideMaps Go.RowKit Go.Proofs.YtafeepdlcilicaaGreatW.PrintWords Go.Proofs.YtafeepdlcilicaaGreatW.PrintLast Go.Proofs.YtafeepdlcilicaaGreatW.PrintMore Go.Maps
set_option linter.unusedVariables false
set_option linter.unusedSimpArgs false

/-! ### items.Build at no row and at the one row -/
theorem store51_self {ops : Array Oper} {rest : List Oper} {o : Oper} {a : Act} {Q : Exit → Act → World → Prop} {W : World} (hN : o.dst = none) (hgd : o.guard = none) (p x : Operand) (ho : o.op = .store 24 p x) (g : Nat)
  (haddr : a.eval p = .pointer (some ⟨g, 0, none⟩)) (hx : a.eval x = .agg #[.int .i64 0, .slice none 0 0]) (hb : W.heap[g]? = some (.cells #[.int .i64 0, .slice none 0 0] 24 (0, 0)))
  (h : wpList Tryz.prog ops Q rest a W) : wpList Tryz.prog ops Q (o :: rest) a W := by
 refine wpList_plain hgd fun K hK => ?_
 have hrun := run_store_run (P := Tryz.prog) (w := W) (g := g) (o := 0) (e := 24) (cur := #[.int .i64 0, .slice none 0 0]) 24 (.agg #[.int .i64 0, .slice none 0 0]) [.int .i64 0, .slice none 0 0] hb rfl info_size24 (by show 0 + 2 ≤ 2; decide) (by
  intro v hv
  simp at hv
  rcases hv with rfl | rfl <;> rfl)
 have hs : W.setCells g 0 [.int .i64 0, .slice none 0 0] = W := by
  show (W.setCell ⟨g, 0, none⟩ (.int .i64 0)).setCell ⟨g, 1, none⟩ (.slice none 0 0) = W
  rw [setCell_self hb rfl, setCell_self hb rfl]
 rw [hs] at hrun
 unfold Oper.wp execOp
 simp only [ho, haddr, hx, Sem.run_bind, Sem.run_pure, Result.andThen_ok, hrun]
 show K (a.put o.dst undef) _
 rw [hN]
 exact hK _ _ h
theorem store74 {ops : Array Oper} {rest : List Oper} {o : Oper} {a : Act} {Q : Exit → Act → World → Prop} {W : World} (hN : o.dst = none) (hgd : o.guard = none) (p x : Operand) (ho : o.op = .store 86 p x) (g : Nat) (c0 : Value) (ad : Option Addr)
  (haddr : a.eval p = .pointer (some ⟨g, 0, none⟩)) (hx : a.eval x = .pointer ad) (hb : W.heap[g]? = some (.cells #[c0] 86 (0, 0)))
  (h : ∀ w1, w1.heap[g]? = some (.cells #[.pointer ad] 86 (0, 0)) → (∀ k, k ≠ g → w1.heap[k]? = W.heap[k]?) → (∀ B, B ≤ g → Below B W w1) → wpList Tryz.prog ops Q rest a w1) : wpList Tryz.prog ops Q (o :: rest) a W := by
 refine wpList_plain hgd fun K hK => ?_
 have hrun := run_store_run (P := Tryz.prog) (w := W) (g := g) (o := 0) (e := 86) (cur := #[c0]) 86 (.pointer ad) [.pointer ad] hb rfl info_size86 (by show 0 + 1 ≤ 1; decide) (by intro u hu; simp at hu; subst hu; rfl)
 unfold Oper.wp execOp
 simp only [ho, haddr, hx, Sem.run_bind, Sem.run_pure, Result.andThen_ok, hrun]
 show K (a.put o.dst undef) _
 rw [hN]
 exact hK _ _ (h _ (blk_set hb 0 (.pointer ad)) (fun k hk => RowKit.Below.heap_setCell _ _ _ _ hk) (fun B hB => (Below.refl B W).setCell (p := ⟨g, 0, none⟩) hB _))
structure BW (w wi : World) (g2 g gb : Nat) : Prop where
 bel : Below w.heap.size w wi
 k2 : wi.heap[g2]? = some (.cells #[.int .i64 0, .slice none 0 0] 24 (0, 0))
 kg : Bd g wi
 kb : wi.heap[gb]? = some (.cells #[.pointer (some ⟨g, 0, none⟩)] 86 (0, 0))
theorem BW.step {w wi wj : World} {g2 g gb : Nat} (h : BW w wi g2 g gb) (hb : Below wi.heap.size wi wj) : BW w wj g2 g gb := ⟨h.bel.trans (hb.mono h.bel.size), blk_below h.k2 hb, blk_below h.kg hb, blk_below h.kb hb⟩
theorem BW.c {w wi : World} {g2 g gb : Nat} (h : Hid (BW w wi g2 g gb)) : wi.cell? ⟨gb, 0, none⟩ = some (.pointer (some ⟨g, 0, none⟩)) := blk_cell h.out.kb 0
theorem BW.d {w wi : World} {g2 g gb : Nat} (h : Hid (BW w wi g2 g gb)) : wi.cell? ⟨g, 0, none⟩ = some (.int .i64 0) ∧ wi.cell? ⟨g, 1, none⟩ = some (.slice none 0 0) ∧ wi.cell? ⟨g, 2, none⟩ = some (.bool false) ∧ wi.cell? ⟨g2, 0, none⟩ = some (.int .i64 0) ∧ wi.cell? ⟨g2, 1, none⟩ = some (.slice none 0 0) := ⟨blk_cell h.out.kg 0, blk_cell h.out.kg 1, blk_cell h.out.kg 2, blk_cell h.out.k2 0, blk_cell h.out.k2 1⟩
theorem eq_no (n : S43) : api_Item_44.f 3 [n] [] = some false := by simp [api_Item_44.f]
theorem eq_yes (n : S43) : api_Item_44.f 3 [n] [n] = some true := by simp [api_Item_44.f, api_Item_44.l0, rd_T43, wrap64]
set_option maxHeartbeats 4000000 in
set_option maxRecDepth 100000 in
theorem build_nil (w : World) : Calls Tryz.prog 20 #[.slice none 0 0] w fun e w' => e = .returned (.tuple #[.agg #[.int .i64 0, .slice none 0 0], .int .i64 2]) ∧ Below w.heap.size w w' := by
 go_enter Tryz.func20, Tryz.ntmps20
 go_wp2_with (first
  | ((with_reducible refine gate_dst (N := 2) rfl ?_); go_must (refine box_event ?hg (N := 2) ?hd (cs := #[.int .i64 0, .slice none 0 0]) (t := 24) ?hr ?_; (case hd => rfl); (case hg => rfl); (case hr => first | (go_simp; done) | (go_simp; rfl)); intro g2 e2 w1 hb1 hl1; have B1 := Lib.hid hl1; have G2 := Lib.hid (Nat.le_of_eq e2.symm); have K2 := Lib.hid hb1; clear e2 hb1 hl1))
  | ((with_reducible refine gate_dst (N := 8) rfl ?_); go_must (refine box_event ?hg (N := 8) ?hd (cs := #[.int .i64 0, .slice none 0 0, .bool false]) (t := 88) ?hr ?_; (case hd => rfl); (case hg => rfl); (case hr => first | (go_simp; done) | (go_simp; rfl)); intro g e8 w2 hb2 hl2; have B2 := Lib.hid (B1.out.trans (hl2.mono B1.out.size)); replace K2 := Lib.hid (blk_below K2.out hl2); have KG : Hid (Bd g w2) := Lib.hid hb2; clear e8 hb2 hl2))
  | ((with_reducible refine gate_dst (N := 4) rfl ?_); go_must (refine box_event ?hg (N := 4) ?hd (cs := #[.pointer none]) (t := 86) ?hr ?_; (case hd => rfl); (case hg => rfl); (case hr => first | (go_simp; done) | (go_simp; rfl)); intro gb e4 w3 hb3 hl3; have B3 := Lib.hid (B2.out.trans (hl3.mono B2.out.size)); have N2 := Lib.hid (by rw [e4]; exact Nat.ne_of_lt (blk_lt K2.out) : g2 ≠ gb); have N8 := Lib.hid (by rw [e4]; exact Nat.ne_of_lt (blk_lt KG.out) : g ≠ gb); have GB := Lib.hid (e4 ▸ B2.out.size : w.heap.size ≤ gb); replace K2 := Lib.hid (blk_below K2.out hl3); replace KG : Hid (Bd g w3) := Lib.hid (blk_below KG.out hl3); have KB := Lib.hid hb3; clear e4 hb3 hl3))
  | ((with_reducible refine gate_ (.store 86 (.tmp 4) (.tmp 8)) rfl ?_); go_must (refine store74 rfl rfl (.tmp 4) (.tmp 8) rfl gb _ (some ⟨g, 0, none⟩) rfl rfl KB.out ?_; intro w4 hk ho hb; have BX : Hid (BW w w4 g2 g gb) := ⟨B3.out.trans (hb _ GB.out), (ho _ N2.out).trans K2.out, (ho _ N8.out).trans KG.out, hk⟩; have x0 := BW.c BX; clear hk ho hb K2 KG KB))
  | (go_at_call 35; refine (all_nil _ _ _ _).mono ?_; rintro e w' ⟨rfl, rfl⟩)
  | (go_at_call 43; refine (done0 g _ BX.out.kg).mono ?_; rintro e w' ⟨rfl, rfl⟩; obtain ⟨y0, y1, y2, y3, y4⟩ := BW.d BX)
  | (go_at_call 6; refine (of0 _).mono ?_; rintro e w5 ⟨v, rfl, hn, hb⟩; have BY := Lib.hid (BX.out.step hb); obtain ⟨A, c, rfl, hle, hC⟩ := hn.reads; have HLE := Lib.hid hle; have HC := Lib.hid hC; have z0 := BW.c BY; obtain ⟨y0, y1, y2, y3, y4⟩ := BW.d BY; clear hn hb hle hC)
  | (go_at_call 44; refine (api_Item_44.calls 3 A c [it0] none 0 [] false _ HC.out HLE.out (Kd.C_nil _ _) (Nat.le_refl _) (eq_no _)).mono ?_; rintro e w6 ⟨rfl, hd⟩; have BZ := Lib.hid (BY.out.step hd.below); have z0 := BW.c BZ; obtain ⟨y0, y1, y2, y3, y4⟩ := BW.d BZ; clear hd)
  | ((with_reducible refine gate_ (.store 24 (.tmp 2) (.tmp 56)) rfl ?_); go_must (refine store51_self rfl rfl (.tmp 2) (.tmp 56) rfl g2 rfl rfl BZ.out.k2 ?_)))
 refine bodyPost_ret (results_ct rfl _ _ g2 24 _ (0, 0) _ rfl BZ.out.k2 Tryz.underlying24 rfl info_size24) rfl ?_
 exact ⟨rfl, BZ.out.bel⟩
set_option maxHeartbeats 4000000 in
set_option maxRecDepth 100000 in
theorem build_it (A0 : Option Addr) (c0 : Nat) (w : World) (hr : Kd.C k43 w A0 1 [it0]) (hc0 : 1 ≤ c0) : Calls Tryz.prog 20 #[.slice A0 1 c0] w fun e w' => e = .returned (.tuple #[.agg #[.int .i64 0, .slice none 0 0], .int .i64 0]) ∧ Below w.heap.size w w' := by
 have HR := Lib.hid hr
 have HC0 := Lib.hid hc0
 clear hr hc0
 go_enter Tryz.func20, Tryz.ntmps20
 go_wp2_with (first
  | ((with_reducible refine gate_dst (N := 2) rfl ?_); go_must (refine box_event ?hg (N := 2) ?hd (cs := #[.int .i64 0, .slice none 0 0]) (t := 24) ?hr ?_; (case hd => rfl); (case hg => rfl); (case hr => first | (go_simp; done) | (go_simp; rfl)); intro g2 e2 w1 hb1 hl1; have B1 := Lib.hid hl1; have G2 := Lib.hid (Nat.le_of_eq e2.symm); have K2 := Lib.hid hb1; clear e2 hb1 hl1))
  | ((with_reducible refine gate_dst (N := 8) rfl ?_); go_must (refine box_event ?hg (N := 8) ?hd (cs := #[.int .i64 0, .slice none 0 0, .bool false]) (t := 88) ?hr ?_; (case hd => rfl); (case hg => rfl); (case hr => first | (go_simp; done) | (go_simp; rfl)); intro g e8 w2 hb2 hl2; have B2 := Lib.hid (B1.out.trans (hl2.mono B1.out.size)); replace K2 := Lib.hid (blk_below K2.out hl2); have KG : Hid (Bd g w2) := Lib.hid hb2; clear e8 hb2 hl2))
  | ((with_reducible refine gate_dst (N := 4) rfl ?_); go_must (refine box_event ?hg (N := 4) ?hd (cs := #[.pointer none]) (t := 86) ?hr ?_; (case hd => rfl); (case hg => rfl); (case hr => first | (go_simp; done) | (go_simp; rfl)); intro gb e4 w3 hb3 hl3; have B3 := Lib.hid (B2.out.trans (hl3.mono B2.out.size)); have N2 := Lib.hid (by rw [e4]; exact Nat.ne_of_lt (blk_lt K2.out) : g2 ≠ gb); have N8 := Lib.hid (by rw [e4]; exact Nat.ne_of_lt (blk_lt KG.out) : g ≠ gb); have GB := Lib.hid (e4 ▸ B2.out.size : w.heap.size ≤ gb); replace K2 := Lib.hid (blk_below K2.out hl3); replace KG : Hid (Bd g w3) := Lib.hid (blk_below KG.out hl3); have KB := Lib.hid hb3; clear e4 hb3 hl3))
  | ((with_reducible refine gate_ (.store 86 (.tmp 4) (.tmp 8)) rfl ?_); go_must (refine store74 rfl rfl (.tmp 4) (.tmp 8) rfl gb _ (some ⟨g, 0, none⟩) rfl rfl KB.out ?_; intro w4 hk ho hb; have BX : Hid (BW w w4 g2 g gb) := ⟨B3.out.trans (hb _ GB.out), (ho _ N2.out).trans K2.out, (ho _ N8.out).trans KG.out, hk⟩; have x0 := BW.c BX; clear hk ho hb K2 KG KB))
  | (go_at_call 35; with_reducible refine (all_yes _ g gb A0 c0 _ (Kd.C_below HR.out BX.out.bel) BX.out.kg BX.out.kb).mono ?_; rintro e w' ⟨rfl, hb⟩; replace BX := Lib.hid (BX.out.step hb); have x0 := BW.c BX; clear hb)
  | (go_at_call 35; with_reducible refine (all_no _ _ ⟨#[98]⟩ A0 c0 _ (Kd.C_below HR.out BX.out.bel) (by kernel_rfl)).mono ?_; rintro e w' ⟨rfl, hb⟩; replace BX := Lib.hid (BX.out.step hb); have x0 := BW.c BX; clear hb)
  | (go_at_call 35; with_reducible refine (all_no _ _ ⟨#[118]⟩ A0 c0 _ (Kd.C_below HR.out BX.out.bel) (by kernel_rfl)).mono ?_; rintro e w' ⟨rfl, hb⟩; replace BX := Lib.hid (BX.out.step hb); have x0 := BW.c BX; clear hb)
  | (go_at_call 35; with_reducible refine (all_no _ _ ⟨#[117]⟩ A0 c0 _ (Kd.C_below HR.out BX.out.bel) (by kernel_rfl)).mono ?_; rintro e w' ⟨rfl, hb⟩; replace BX := Lib.hid (BX.out.step hb); have x0 := BW.c BX; clear hb)
  | (go_at_call 35; with_reducible refine (all_no _ _ ⟨#[112]⟩ A0 c0 _ (Kd.C_below HR.out BX.out.bel) (by kernel_rfl)).mono ?_; rintro e w' ⟨rfl, hb⟩; replace BX := Lib.hid (BX.out.step hb); have x0 := BW.c BX; clear hb)
  | (go_at_call 43; refine (done0 g _ BX.out.kg).mono ?_; rintro e w' ⟨rfl, rfl⟩; obtain ⟨y0, y1, y2, y3, y4⟩ := BW.d BX)
  | (go_at_call 6; refine (of0 _).mono ?_; rintro e w5 ⟨v, rfl, hn, hb⟩; have BY := Lib.hid (BX.out.step hb); obtain ⟨A, c, rfl, hle, hC⟩ := hn.reads; have HLE := Lib.hid hle; have HC := Lib.hid hC; have z0 := BW.c BY; obtain ⟨y0, y1, y2, y3, y4⟩ := BW.d BY; clear hn hb hle hC)
  | (go_at_call 44; refine (api_Item_44.calls 3 A c [it0] A0 c0 [it0] true _ HC.out HLE.out (Kd.C_below HR.out BY.out.bel) HC0.out (eq_yes _)).mono ?_; rintro e w6 ⟨rfl, hd⟩; have BZ := Lib.hid (BY.out.step hd.below); have z0 := BW.c BZ; obtain ⟨y0, y1, y2, y3, y4⟩ := BW.d BZ; clear hd)
  | ((with_reducible refine gate_ (.store 24 (.tmp 2) (.tmp 60)) rfl ?_); go_must (refine store51_self rfl rfl (.tmp 2) (.tmp 60) rfl g2 rfl rfl BZ.out.k2 ?_)))
 refine bodyPost_ret (results_ct rfl _ _ g2 24 _ (0, 0) _ rfl BZ.out.k2 Tryz.underlying24 rfl info_size24) rfl ?_
 exact ⟨rfl, BZ.out.bel⟩
end Go.Proofs.YtafeepdlcilicaaGreat.Q

-- O6
namespace Go.Proofs.YtafeepdlcilicaaGreat.Q
open Go.WideMaps Go.RowKit Go.Proofs.YtafeepdlcilicaaGreatW.PrintWords Go.Proofs.YtafeepdlcilicaaGreatW.PrintLast Go.Proofs.YtafeepdlcilicaaGreatW.PrintMore Go.Maps
set_option linter.unusedVariables false
set_option linter.unusedSimpArgs false

/-! ### awake -/
theorem diff_it : items_Diff.f [it0] [it0] = some [] := by kernel_rfl
set_option maxHeartbeats 2000000 in
set_option maxRecDepth 100000 in
theorem same10_0 (w : World) : Calls Tryz.prog 21 #[.agg #[.int .i64 0, .slice none 0 0], .agg #[.int .i64 0, .slice none 0 0]] w fun e w' => e = .returned (.bool true) ∧ Below w.heap.size w w' := by
 have HB := Below.refl w.heap.size w
 go_enter Tryz.func21, Tryz.ntmps21
 go_wp2
 refine wp_loop_rounds 1 ?_
 rw [rounds_succ]
 go_wp2
 go_ret
 exact ⟨rfl, by repeat (first | (with_reducible first | exact HB | apply below_alloc | apply pw_below_drewN | apply below_drew1) | exact HB)⟩
set_option maxHeartbeats 4000000 in
set_option maxRecDepth 100000 in
theorem awake.walk (w : World) : Calls Tryz.prog 7 #[] w fun e w' => e = .returned (.bool true) ∧ Below w.heap.size w w' := by
 go_enter Tryz.func7, Tryz.ntmps7
 go_wp2_with (first
  | (go_at_call 6; refine (of0 _).mono ?_; rintro e w1 ⟨v, rfl, hn, hb⟩; have B1 := Lib.hid hb; obtain ⟨A, c, rfl, hle, hC⟩ := hn.reads; have HLE : Hid (1 ≤ c) := hle; have HC1 : Hid (Kd.C k43 w1 A 1 [it0]) := hC; clear hn hb hle hC)
  | (go_at_call 20; with_reducible refine (build_nil _).mono ?_; rintro e w2 ⟨rfl, hb⟩; have B2 := Lib.hid (B1.out.trans (hb.mono B1.out.size)); have HC2 := Lib.hid (Kd.C_below HC1.out hb); clear hb)
  | ((with_reducible refine gate_dst (N := 3) rfl ?_); go_must (refine box_event ?hg (N := 3) ?hd (cs := #[.int .i64 0, .slice none 0 0]) (t := 24) ?hr ?_; (case hd => rfl); (case hg => rfl); (case hr => first | (go_simp; done) | (go_simp; rfl)); intro g3 e3 w3 hb3 hl; have B3 := Lib.hid (B2.out.trans (hl.mono B2.out.size)); have HC3 := Lib.hid (Kd.C_below HC2.out hl); have K3 := Lib.hid hb3; clear e3 hb3 hl))
  | ((with_reducible refine gate_ (.store 24 (.tmp 3) (.tmp 14)) rfl ?_); go_must (refine store51_self rfl rfl (.tmp 3) (.tmp 14) rfl g3 rfl rfl K3.out ?_))
  | (go_at_call 20; with_reducible refine (build_it A c _ HC3.out HLE.out).mono ?_; rintro e w4 ⟨rfl, hb⟩; have B4 := Lib.hid (B3.out.trans (hb.mono B3.out.size)); have HC4 := Lib.hid (Kd.C_below HC3.out hb); clear hb)
  | ((with_reducible refine gate_dst (N := 5) rfl ?_); go_must (refine box_event ?hg (N := 5) ?hd (cs := #[.int .i64 0, .slice none 0 0]) (t := 24) ?hr ?_; (case hd => rfl); (case hg => rfl); (case hr => first | (go_simp; done) | (go_simp; rfl)); intro g5 e5 w5 hb5 hl; have B5 := Lib.hid (B4.out.trans (hl.mono B4.out.size)); have HC5 := Lib.hid (Kd.C_below HC4.out hl); have K5 := Lib.hid hb5; have p0 := (blk_cell hb5 0).trans (rfl : _ = some (Value.int .i64 0)); have p1 := (blk_cell hb5 1).trans (rfl : _ = some (Value.slice none 0 0)); clear e5 hb5 hl))
  | ((with_reducible refine gate_ (.store 24 (.tmp 5) (.tmp 19)) rfl ?_); go_must (refine store51_self rfl rfl (.tmp 5) (.tmp 19) rfl g5 rfl rfl K5.out ?_))
  | (go_at_call 21; go_must (refine (same10_0 _).mono ?_; rintro e w6 ⟨rfl, hd⟩; have hb := hd; have B6 := Lib.hid (B5.out.trans (hb.mono B5.out.size)); have HC6 := Lib.hid (Kd.C_below HC5.out hb); clear hb))
  | (go_at_call 8; go_must (refine (items_Diff.calls A c [it0] A c [it0] [] _ HC6.out HLE.out HC6.out HLE.out diff_it).mono ?_; rintro e w7 ⟨v7, rfl, ho, hb⟩; have B7 := Lib.hid (B6.out.trans (hb.mono B6.out.size)); obtain ⟨A7, c7, rfl⟩ := Kd.R_slice ho; clear ho hb)))
 go_ret
 exact ⟨rfl, B7.out⟩
def cellarerlaw11_awake.f : Option Bool := some true
theorem cellarerlaw11_awake.calls (r : Bool) (w : World) (h : cellarerlaw11_awake.f = some r) :
  Calls Tryz.prog 7 #[] w fun e w' => e = .returned (.bool r) ∧ Below w.heap.size w w' := by
 injection h with h
 subst h
 exact awake.walk w
end Go.Proofs.YtafeepdlcilicaaGreat.Q

-- I0
namespace Go.Proofs.YtafeepdlcilicaaGreat.Q
open Go.WideMaps Go.RowKit Go.Proofs.YtafeepdlcilicaaGreatW.PrintWords Go.Proofs.YtafeepdlcilicaaGreatW.PrintLast Go.Proofs.YtafeepdlcilicaaGreatW.PrintMore Go.Maps
set_option linter.unusedVariables false
set_option linter.unusedSimpArgs false

theorem sz10 : (⟨#[10]⟩ : ByteArray).size = 1 := rfl
theorem sz98 : (⟨#[98]⟩ : ByteArray).size = 1 := rfl
theorem sz112 : (⟨#[112]⟩ : ByteArray).size = 1 := rfl
theorem sz116 : (⟨#[116]⟩ : ByteArray).size = 1 := rfl
theorem sz117 : (⟨#[117]⟩ : ByteArray).size = 1 := rfl
theorem sz118 : (⟨#[118]⟩ : ByteArray).size = 1 := rfl
/-! ### contracts in the print's form: depot.Check, items.val -/
def depot_Check.f (a0_0 : Int) (l0_1 : List S35) : Option Int := some (errB (depotB a0_0 l0_1))
theorem depot_Check.calls (a0_0 : Int) (A0_1 : Option Addr) (c0_1 : Nat) (l0_1 : List S35) (r : Int) (w : World) (hr0_1 : Kd.C k35 w A0_1 l0_1.length l0_1) (hc0_1 : l0_1.length ≤ c0_1) (h : depot_Check.f a0_0 l0_1 = some r) :
  Calls Tryz.prog 12 #[.agg #[.int .i64 a0_0, .slice A0_1 l0_1.length c0_1]] w fun e w' => e = .returned (.int .i64 r) ∧ Below w.heap.size w w' := by
 obtain rfl := Option.some.inj h
 exact depot.walk a0_0 A0_1 c0_1 l0_1 w hr0_1
def okL (l : List ByteArray) : Bool := decide (l.length ≤ 4000) && l.all (fun s => decide (s.size ≤ 4000))
def items_val.f (l0 : List ByteArray) : Option ByteArray := if okL l0 = true then some (listB l0) else none
theorem items_val.calls (A0 : Option Addr) (c0 : Nat) (l0 : List ByteArray) (r : ByteArray) (w : World) (hr0 : Kd.C Kd.string w A0 l0.length l0) (hc0 : l0.length ≤ c0) (h : items_val.f l0 = some r) :
  Calls Tryz.prog 13 #[.slice A0 l0.length c0] w fun e w' => e = .returned (.string r) ∧ Below w.heap.size w w' := by
 unfold items_val.f at h
 split at h
 ·rename_i hk
  obtain rfl := Option.some.inj h
  unfold okL at hk
  simp only [Bool.and_eq_true, decide_eq_true_eq, List.all_eq_true] at hk
  exact val0 A0 c0 l0 w hr0 hk.1 (fun s hs => hk.2 s hs)
 ·cases h
end Go.Proofs.YtafeepdlcilicaaGreat.Q

-- Rv
namespace Go.Proofs.YtafeepdlcilicaaGreat.Q
open Go.RowKit Go.Proofs.YtafeepdlcilicaaGreatW.PrintWords Go.Proofs.YtafeepdlcilicaaGreatW.PrintLast Go.Proofs.YtafeepdlcilicaaGreatW.PrintMore
attribute [local go_sem] max2_int min2_int max_two min_two max_three min_three max_four min_four
set_option linter.unusedVariables false
set_option linter.unusedSimpArgs false

















/-! ### items_versions: function 16 -/
mutual
def items_versions.l0 : Nat → List (S43) → List (S80) → Int → Int → ByteArray → Int → List (S38) → List (S41) → Int → ByteArray → List (S80) → Option ((List (S43)))
 | 0, _, _, _, _, _, _, _, _, _, _, _ => none
 | k + 1, x5, x10, x11, x12, x204000, x204001, x204002, x204003, x204004, x205000, x205001 => if x12 < x11 then (if 0 ≤ x12 then (if x12 < (x10.length : Int) then (if (rd_T80 x10 x12).f2 = true then (items_versions.j1 k x5 x12 1 x10 x11 x12 x204000 x204001 x204002 x204003 x204004 x205000 x205001 ((rd_T80 x10 x12).f0) ((rd_T80 x10 x12).f1) ((rd_T80 x10 x12).f2) ((rd_T80 x10 x12).f3)) else (items_versions.j1 k x5 x12 0 x10 x11 x12 x204000 x204001 x204002 x204003 x204004 x205000 x205001 ((rd_T80 x10 x12).f0) ((rd_T80 x10 x12).f1) ((rd_T80 x10 x12).f2) ((rd_T80 x10 x12).f3))) else (none)) else (none)) else (some x5)
def items_versions.j1 : Nat → List (S43) → Int → Int → List (S80) → Int → Int → ByteArray → Int → List (S38) → List (S41) → Int → ByteArray → List (S80) → Int → ByteArray → Bool → Int → Option ((List (S43)))
 | 0, _, _, _, _, _, _, _, _, _, _, _, _, _, _, _, _, _ => none
 | k + 1, x5, x6, x8, x10, x11, x12, x204000, x204001, x204002, x204003, x204004, x205000, x205001, x207000, x207001, x207002, x207003 => if 1 + x204000.size ≤ 9223372036854775807 then (if ((⟨#[118]⟩ : ByteArray) ++ x204000).size + 1 ≤ 9223372036854775807 then (if (((⟨#[118]⟩ : ByteArray) ++ x204000) ++ (⟨#[10]⟩ : ByteArray)).size + x205000.size ≤ 9223372036854775807 then (if ((((⟨#[118]⟩ : ByteArray) ++ x204000) ++ (⟨#[10]⟩ : ByteArray)) ++ x205000).size + 1 ≤ 9223372036854775807 then ((wire_Num.f k x207000).bind fun t207 => (if (((((⟨#[118]⟩ : ByteArray) ++ x204000) ++ (⟨#[10]⟩ : ByteArray)) ++ x205000) ++ (⟨#[10]⟩ : ByteArray)).size + t207.size ≤ 9223372036854775807 then ((items_num.f k (wrap64 ((wrap64 ((x205001.length : Int) - 1)) - x6))).bind fun t208 => ((items_num.f k x207003).bind fun t209 => ((items_num.f k x8).bind fun t210 => ((items_val.f (([t208, t209, t210, x207001] : List ByteArray))).bind fun t214 => (if x5.length < 4398046511104 then (items_versions.l0 k (x5 ++ [(⟨(((((⟨#[118]⟩ : ByteArray) ++ x204000) ++ (⟨#[10]⟩ : ByteArray)) ++ x205000) ++ (⟨#[10]⟩ : ByteArray)) ++ t207, t214⟩ : S43)]) x10 x11 (wrap64 (x12 + 1)) x204000 x204001 x204002 x204003 x204004 x205000 x205001) else (none)))))) else (none))) else (none)) else (none)) else (none)) else (none)
end
def items_versions.f (k : Nat) (a0_0 : ByteArray) (a0_1 : Int) (l0_2 : List (S38)) (l0_3 : List (S41)) (a0_4 : Int) (a1_0 : ByteArray) (l1_1 : List (S80)) : Option ((List (S43))) := items_versions.l0 k ([] : List (S43)) l1_1 (l1_1.length : Int) 0 a0_0 a0_1 l0_2 l0_3 a0_4 a1_0 l1_1
theorem items_versions.mono_l : ∀ k, (∀ y0 y1 y2 y3 y4 y5 y6 y7 y8 y9 y10, LeO (items_versions.l0 k y0 y1 y2 y3 y4 y5 y6 y7 y8 y9 y10) (items_versions.l0 (k + 1) y0 y1 y2 y3 y4 y5 y6 y7 y8 y9 y10)) ∧ (∀ y0 y1 y2 y3 y4 y5 y6 y7 y8 y9 y10 y11 y12 y13 y14 y15 y16, LeO (items_versions.j1 k y0 y1 y2 y3 y4 y5 y6 y7 y8 y9 y10 y11 y12 y13 y14 y15 y16) (items_versions.j1 (k + 1) y0 y1 y2 y3 y4 y5 y6 y7 y8 y9 y10 y11 y12 y13 y14 y15 y16))
 | 0 => ⟨fun _ _ _ _ _ _ _ _ _ _ _ r h => by simp [items_versions.l0] at h, fun _ _ _ _ _ _ _ _ _ _ _ _ _ _ _ _ _ r h => by simp [items_versions.j1] at h⟩
 | k + 1 => by
  obtain ⟨ih0, ih1⟩ := items_versions.mono_l k
  refine ⟨?_, ?_⟩
  ·intro y0 y1 y2 y3 y4 y5 y6 y7 y8 y9 y10
   unfold items_versions.l0
   repeat' first
   | (with_reducible exact ih0 _ _ _ _ _ _ _ _ _ _ _)
   | (with_reducible exact ih1 _ _ _ _ _ _ _ _ _ _ _ _ _ _ _ _ _)
   | (with_reducible exact items_num.mono _ _)
   | (with_reducible exact wire_Num.mono _ _)
   | (with_reducible exact LeO.refl _)
   | (with_reducible exact LeO.none _)
   | (with_reducible refine LeO.ite ?_ ?_)
   | (with_reducible refine LeO.bind ?_ (fun _ => ?_))
   | exact ih0 _ _ _ _ _ _ _ _ _ _ _
   | exact ih1 _ _ _ _ _ _ _ _ _ _ _ _ _ _ _ _ _
   | exact items_num.mono _ _
   | exact wire_Num.mono _ _
   | exact LeO.none _
   | refine LeO.ite ?_ ?_
   | refine LeO.bind ?_ (fun _ => ?_)
  ·intro y0 y1 y2 y3 y4 y5 y6 y7 y8 y9 y10 y11 y12 y13 y14 y15 y16
   unfold items_versions.j1
   repeat' first
   | (with_reducible exact ih0 _ _ _ _ _ _ _ _ _ _ _)
   | (with_reducible exact ih1 _ _ _ _ _ _ _ _ _ _ _ _ _ _ _ _ _)
   | (with_reducible exact items_num.mono _ _)
   | (with_reducible exact wire_Num.mono _ _)
   | (with_reducible exact LeO.refl _)
   | (with_reducible exact LeO.none _)
   | (with_reducible refine LeO.ite ?_ ?_)
   | (with_reducible refine LeO.bind ?_ (fun _ => ?_))
   | exact ih0 _ _ _ _ _ _ _ _ _ _ _
   | exact ih1 _ _ _ _ _ _ _ _ _ _ _ _ _ _ _ _ _
   | exact items_num.mono _ _
   | exact wire_Num.mono _ _
   | exact LeO.none _
   | refine LeO.ite ?_ ?_
   | refine LeO.bind ?_ (fun _ => ?_)
theorem items_versions.mono : ∀ a0 a1 a2 a3 a4 a5 a6 k, LeO (items_versions.f k a0 a1 a2 a3 a4 a5 a6) (items_versions.f (k + 1) a0 a1 a2 a3 a4 a5 a6) := by
 intro a0 a1 a2 a3 a4 a5 a6 k
 obtain ⟨ih0, ih1⟩ := items_versions.mono_l k
 unfold items_versions.f
 repeat' first
   | (with_reducible exact ih0 _ _ _ _ _ _ _ _ _ _ _)
   | (with_reducible exact ih1 _ _ _ _ _ _ _ _ _ _ _ _ _ _ _ _ _)
   | (with_reducible exact items_num.mono _ _)
   | (with_reducible exact wire_Num.mono _ _)
   | (with_reducible exact LeO.refl _)
   | (with_reducible exact LeO.none _)
   | (with_reducible refine LeO.ite ?_ ?_)
   | (with_reducible refine LeO.bind ?_ (fun _ => ?_))
   | exact ih0 _ _ _ _ _ _ _ _ _ _ _
   | exact ih1 _ _ _ _ _ _ _ _ _ _ _ _ _ _ _ _ _
   | exact items_num.mono _ _
   | exact wire_Num.mono _ _
   | exact LeO.none _
   | refine LeO.ite ?_ ?_
   | refine LeO.bind ?_ (fun _ => ?_)
def items_versions.T8 : Bool × List (List Nat × List Nat) := (true, [([], []), ([], []), ([1], [1]), ([2], [2]), ([3], [3]), ([], []), ([5], [5]), ([4, 6], [4, 6]), ([7], [7]), ([], []), ([9], [9]), ([10], [10]), ([8, 11], [8, 11]), ([], []), ([13], [13]), ([14], [14]), ([15], [15]), ([], []), ([16, 17], [16, 17]), ([18, 11], [18]), ([], []), ([20], [20]), ([21, 19], [21]), ([], []), ([23, 22], [23]), ([], []), ([25], [25]), ([19, 22, 24, 26], [19, 22, 24, 26]), ([27, 24], [27]), ([12, 28], [12, 28]), ([29], [29]), ([0, 30, 28], [0, 30]), ([31, 31, 0, 1, 2, 3, 4, 5, 6, 7, 8, 9, 10, 11, 12, 13, 14, 15, 16, 17, 18, 19, 20, 21, 22, 23, 24, 25, 26, 27, 28, 29, 30, 31], [0, 31])])
def items_versions.B8 : List Nat := [0, 0, 2, 6, 14, 0, 32, 126, 254, 0, 512, 1536, 4094, 0, 8192, 24576, 57344, 0, 253952, 519680, 0, 1048576, 4189696, 0, 16772608, 0, 33554432, 134213120, 268430848, 536870910, 1073741822, 2147483647, 4294967295]
theorem items_versions.tab8 : rtab .any (opsOf Tryz.f16 8) = items_versions.T8 := by kernel_rfl
theorem items_versions.bits8 : waitsOk items_versions.T8.2 items_versions.B8 = true := by kernel_rfl
set_option maxHeartbeats 8000000 in
set_option maxRecDepth 100000 in
theorem items_versions.calls (k : Nat) (a0_0 : ByteArray) (a0_1 : Int) (A0_2 : Option Addr) (c0_2 : Nat) (l0_2 : List (S38)) (A0_3 : Option Addr) (c0_3 : Nat) (l0_3 : List (S41)) (a0_4 : Int) (a1_0 : ByteArray) (A1_1 : Option Addr) (c1_1 : Nat) (l1_1 : List (S80)) (r : List (S43)) (w : World) (hr0_2 : Kd.C k38 w A0_2 l0_2.length l0_2) (hc0_2 : l0_2.length ≤ c0_2) (hr0_3 : Kd.C k41 w A0_3 l0_3.length l0_3) (hc0_3 : l0_3.length ≤ c0_3) (hr1_1 : Kd.C k80 w A1_1 l1_1.length l1_1) (hc1_1 : l1_1.length ≤ c1_1) (h : items_versions.f k a0_0 a0_1 l0_2 l0_3 a0_4 a1_0 l1_1 = some r) :
  Calls Tryz.prog 16 #[.agg #[.string a0_0, .int .i64 a0_1, .slice A0_2 l0_2.length c0_2, .slice A0_3 l0_3.length c0_3, .int .u64 a0_4], .agg #[.string a1_0, .slice A1_1 l1_1.length c1_1]] w fun e w' => ∃ v0_ : Value, e = .returned (v0_) ∧ Kd.R k43 43 w' w.heap.size (fun _ => True) v0_ r ∧ Below w.heap.size w w' := by
 have hu35 := Tryz.underlying35
 have hu38 := Tryz.underlying38
 have hu80 := Tryz.underlying80
 have hu43 := Tryz.underlying43
 have HR0_2 := Aside0.mk hr0_2
 have HC0_2 := Aside0.mk hc0_2
 clear hr0_2 hc0_2
 have HR0_3 := Aside0.mk hr0_3
 have HC0_3 := Aside0.mk hc0_3
 clear hr0_3 hc0_3
 have HR1_1 := Aside0.mk hr1_1
 have HC1_1 := Aside0.mk hc1_1
 clear hr1_1 hc1_1
 have HB := Aside0.mk (Below.refl w.heap.size w)
 have H : (items_versions.l0 k ([] : List (S43)) l1_1 (l1_1.length : Int) 0 a0_0 a0_1 l0_2 l0_3 a0_4 a1_0 l1_1) = some r := h
 clear h
 have H' := Aside0.mk H
 clear H
 go_enter Tryz.func16, Tryz.ntmps16
 go_wp2_with (first | ((with_reducible refine gate_dst (N := 2) rfl ?_); refine box_event ?hg (N := 2) ?hd (cs := #[.string a0_0, .int .i64 a0_1, .slice A0_2 l0_2.length c0_2, .slice A0_3 l0_3.length c0_3, .int .u64 a0_4]) (t := 35) ?hr ?_; (case hd => rfl); (case hg => rfl); (case hr => first | (go_simp; done) | (go_simp; rfl)); intro gb203 hg w3 hbox hb; have n0_ := Aside0.mk (below_step (by repeat (first | (with_reducible first | exact HB.out | apply below_alloc | apply pw_below_drewN | apply below_drew1) | exact HB.out)) hb); have n1_ := Aside0.mk (hbox); have n2_ := Aside0.mk ((by rw [hg]; exact (below_size (by repeat (first | (with_reducible first | exact HB.out | apply below_alloc | apply pw_below_drewN | apply below_drew1) | exact HB.out))) : w.heap.size ≤ gb203)); have n3_ := Aside0.mk ((by rw [hg]; exact (below_size (by repeat (first | (with_reducible first | exact HB.out | apply below_alloc | apply pw_below_drewN | apply below_drew1) | exact HB.out))) : w.heap.size ≤ gb203)); clear HB; have HB := n0_; have BK203 := n1_; have GW203 := n2_; have GE203 := n3_; clear n0_ n1_ n2_ n3_; clear hb hbox hg) | ((with_reducible refine gate_dst (N := 3) rfl ?_); refine box_event ?hg (N := 3) ?hd (cs := #[.string a1_0, .slice A1_1 l1_1.length c1_1]) (t := 38) ?hr ?_; (case hd => rfl); (case hg => rfl); (case hr => first | (go_simp; done) | (go_simp; rfl)); intro gb204 hg w4 hbox hb; have n0_ := Aside0.mk (blk_below (g := gb203) (o := .cells #[.string a0_0, .int .i64 a0_1, .slice A0_2 l0_2.length c0_2, .slice A0_3 l0_3.length c0_3, .int .u64 a0_4] 35 (0, 0)) (by (with_reducible repeat (first | refine blk_drewN ?_ _ | refine blk_drew ?_ | refine blk_alloc ?_ _)); exact BK203.out) hb); have n1_ := Aside0.mk (below_step (by repeat (first | (with_reducible first | exact HB.out | apply below_alloc | apply pw_below_drewN | apply below_drew1 | refine below_set ?_ GE203.out) | exact HB.out)) hb); have n2_ := Aside0.mk (hbox); have n3_ := Aside0.mk ((by rw [hg]; exact (below_size (by repeat (first | (with_reducible first | exact HB.out | apply below_alloc | apply pw_below_drewN | apply below_drew1 | refine below_set ?_ GE203.out) | exact HB.out))) : w.heap.size ≤ gb204)); have n4_ := Aside0.mk ((by rw [hg]; exact (below_size (by repeat (first | (with_reducible first | exact HB.out | apply below_alloc | apply pw_below_drewN | apply below_drew1 | refine below_set ?_ GE203.out) | exact HB.out))) : w.heap.size ≤ gb204)); have n5_ := Aside0.mk ((by rw [hg]; exact Nat.ne_of_lt (blk_lt (g := gb203) (o := .cells #[.string a0_0, .int .i64 a0_1, .slice A0_2 l0_2.length c0_2, .slice A0_3 l0_3.length c0_3, .int .u64 a0_4] 35 (0, 0)) (by (with_reducible repeat (first | refine blk_drewN ?_ _ | refine blk_drew ?_ | refine blk_alloc ?_ _)); exact BK203.out)) : gb203 ≠ gb204)); have n6_ := Aside0.mk ((by rw [hg]; exact Nat.ne_of_gt (blk_lt (g := gb203) (o := .cells #[.string a0_0, .int .i64 a0_1, .slice A0_2 l0_2.length c0_2, .slice A0_3 l0_3.length c0_3, .int .u64 a0_4] 35 (0, 0)) (by (with_reducible repeat (first | refine blk_drewN ?_ _ | refine blk_drew ?_ | refine blk_alloc ?_ _)); exact BK203.out)) : gb204 ≠ gb203)); clear BK203; clear HB; have BK203 := n0_; have HB := n1_; have BK204 := n2_; have GW204 := n3_; have GE204 := n4_; have NB203_204 := n5_; have NB204_203 := n6_; clear n0_ n1_ n2_ n3_ n4_ n5_ n6_; clear hb hbox hg; have hnb5 := NB204_203.out; have hnc5 := NB203_204.out; have hcz6_0 : w4.cell? ⟨gb204, 0, none⟩ = some (.string a1_0) := (blk_cell BK204.out 0).trans rfl; have hcz6_1 : w4.cell? ⟨gb204, 1, none⟩ = some (.slice A1_1 l1_1.length c1_1) := (blk_cell BK204.out 1).trans rfl; have hfz6_0 := blk_frozen BK204.out 0; have hfz6_1 := blk_frozen BK204.out 1))
 go_loopg [5, 12] k (fun kq v5 v12 w' => ∃ (x5_1 : List (S43)) (x12_1 : Int), v12 = .int .i64 x12_1 ∧ Aside0 (items_versions.l0 kq x5_1 l1_1 (l1_1.length : Int) x12_1 a0_0 a0_1 l0_2 l0_3 a0_4 a1_0 l1_1 = some r) ∧ Aside0 (kq ≤ k) ∧ Aside0 (Kd.R k43 43 w' w.heap.size (fun _ => True) v5 x5_1) ∧ Aside0 (w'.heap[gb203]? = some (.cells #[.string a0_0, .int .i64 a0_1, (.slice A0_2 l0_2.length c0_2), (.slice A0_3 l0_3.length c0_3), .int .u64 a0_4] 35 (0, 0))) ∧ Aside0 (w'.heap[gb204]? = some (.cells #[.string a1_0, (.slice A1_1 l1_1.length c1_1)] 38 (0, 0))) ∧ Aside0 (Below w.heap.size w w'))
 case atStart => exact ⟨(([] : List (S43))), (0), (by first | rfl | (simp; done) | (simp [*]; done)), H', ⟨Nat.le_refl _⟩, ⟨by first | exact Kd.R_nil _ _ _ _ _ | exact Kd.N_nil _ _ _ _ _ | exact Kd.V_nil _ _ _ _ _ | exact Kd.Q_nil _ _ _ _ _ | exact Kd.S_nil _ _ _ _ _⟩, ⟨by (with_reducible repeat (first | refine blk_drewN ?_ _ | refine blk_drew ?_ | refine blk_alloc ?_ _)); exact BK203.out⟩, ⟨by (with_reducible repeat (first | refine blk_drewN ?_ _ | refine blk_drew ?_ | refine blk_alloc ?_ _)); exact BK204.out⟩, ⟨by repeat (first | (with_reducible first | exact HB.out | apply below_alloc | apply pw_below_drewN | apply below_drew1 | refine below_set ?_ GE203.out | refine below_set ?_ GE204.out) | exact HB.out)⟩⟩
 case round =>
  clear H'
  try clear c1
  try clear p2
  try clear c5
  try clear hcz6_0
  try clear hcz6_1
  try clear hfz6_0
  try clear hfz6_1
  obtain ⟨x5_1, x12_1, rfl, HA, HK1, HO_5, BK203, BK204, HB⟩ := hrel
  cases gk with
  | zero => exact absurd HA.out (by simp [items_versions.l0])
  | succ k1 =>
   have H := HA.out
   clear HA
   simp only [items_versions.l0] at H
   by_cases c7 : x12_1 < (l1_1.length : Int)
   ·rw [if_pos c7] at H
    have c7b0 : decide (x12_1 < (l1_1.length : Int)) = true := decide_eq_true c7
    clear c7
    by_cases c8 : 0 ≤ x12_1
    ·rw [if_pos c8] at H
     have c8b0 : decide (0 ≤ x12_1) = true := decide_eq_true c8
     clear c8
     by_cases c9 : x12_1 < (l1_1.length : Int)
     ·rw [if_pos c9] at H
      have c9b0 : decide (x12_1 < (l1_1.length : Int)) = true := decide_eq_true c9
      clear c9
      have HC10 := Aside0.mk H
      clear H
      have p205 : 0 ≤ (x12_1 : Int) := of_decide_eq_true (by first | (with_reducible assumption) | assumption)
      have q205 : x12_1 < (l1_1.length : Int) := of_decide_eq_true (by first | (with_reducible assumption) | assumption)
      obtain ⟨ad205, e205, hx205_0, hx205_1, hx205_2, hx205_3⟩ := at_T80 HR1_1.out x12_1 p205 q205
      cases e205
      replace hx205_0 := (HB.out.cell (World.block_lt_of_cell? w _ hx205_0)).trans hx205_0
      replace hx205_1 := (HB.out.cell (World.block_lt_of_cell? w _ hx205_1)).trans hx205_1
      replace hx205_2 := (HB.out.cell (World.block_lt_of_cell? w _ hx205_2)).trans hx205_2
      replace hx205_3 := (HB.out.cell (World.block_lt_of_cell? w _ hx205_3)).trans hx205_3
      replace p205 := eq_true p205
      replace q205 := eq_true q205
      go_upto_if 18 with (first | ((with_reducible refine gate_dst (N := 7) rfl ?_); refine box_event ?hg (N := 7) ?hd (cs := #[.int .u64 0, .string (⟨#[]⟩ : ByteArray), .bool false, .int .i64 0]) (t := 80) ?hr ?_; (case hd => rfl); (case hg => rfl); (case hr => first | (go_simp; done) | (go_simp; rfl)); intro gb206 hg w11 hbox hb; have n0_ := Aside0.mk (Kd.R_below (by (with_reducible repeat (first | apply Kd.R_alloc | apply Kd.R_drewN | apply Kd.R_drew)); exact HO_5.out) hb); have n1_ := Aside0.mk (blk_below (g := gb203) (o := .cells #[.string a0_0, .int .i64 a0_1, .slice A0_2 l0_2.length c0_2, .slice A0_3 l0_3.length c0_3, .int .u64 a0_4] 35 (0, 0)) (by (with_reducible repeat (first | refine blk_drewN ?_ _ | refine blk_drew ?_ | refine blk_alloc ?_ _)); exact BK203.out) hb); have n2_ := Aside0.mk (blk_below (g := gb204) (o := .cells #[.string a1_0, .slice (some ad205) l1_1.length c1_1] 38 (0, 0)) (by (with_reducible repeat (first | refine blk_drewN ?_ _ | refine blk_drew ?_ | refine blk_alloc ?_ _)); exact BK204.out) hb); have n3_ := Aside0.mk (below_step (by repeat (first | (with_reducible first | exact HB.out | apply below_alloc | apply pw_below_drewN | apply below_drew1 | refine below_set ?_ GE203.out | refine below_set ?_ GE204.out) | exact HB.out)) hb); have n4_ := Aside0.mk (hbox); have n5_ := Aside0.mk ((by rw [hg]; exact (below_size (by repeat (first | (with_reducible first | exact HB.out | apply below_alloc | apply pw_below_drewN | apply below_drew1 | refine below_set ?_ GE203.out | refine below_set ?_ GE204.out) | exact HB.out))) : w.heap.size ≤ gb206)); have n6_ := Aside0.mk ((by rw [hg]; exact (below_size (by repeat (first | (with_reducible first | exact HB.out | apply below_alloc | apply pw_below_drewN | apply below_drew1 | refine below_set ?_ GE203.out | refine below_set ?_ GE204.out) | exact HB.out))) : w.heap.size ≤ gb206)); have n7_ := Aside0.mk ((by rw [hg]; exact Nat.ne_of_lt (blk_lt (g := gb203) (o := .cells #[.string a0_0, .int .i64 a0_1, .slice A0_2 l0_2.length c0_2, .slice A0_3 l0_3.length c0_3, .int .u64 a0_4] 35 (0, 0)) (by (with_reducible repeat (first | refine blk_drewN ?_ _ | refine blk_drew ?_ | refine blk_alloc ?_ _)); exact BK203.out)) : gb203 ≠ gb206)); have n8_ := Aside0.mk ((by rw [hg]; exact Nat.ne_of_gt (blk_lt (g := gb203) (o := .cells #[.string a0_0, .int .i64 a0_1, .slice A0_2 l0_2.length c0_2, .slice A0_3 l0_3.length c0_3, .int .u64 a0_4] 35 (0, 0)) (by (with_reducible repeat (first | refine blk_drewN ?_ _ | refine blk_drew ?_ | refine blk_alloc ?_ _)); exact BK203.out)) : gb206 ≠ gb203)); have n9_ := Aside0.mk ((by rw [hg]; exact Nat.ne_of_lt (blk_lt (g := gb204) (o := .cells #[.string a1_0, .slice (some ad205) l1_1.length c1_1] 38 (0, 0)) (by (with_reducible repeat (first | refine blk_drewN ?_ _ | refine blk_drew ?_ | refine blk_alloc ?_ _)); exact BK204.out)) : gb204 ≠ gb206)); have n10_ := Aside0.mk ((by rw [hg]; exact Nat.ne_of_gt (blk_lt (g := gb204) (o := .cells #[.string a1_0, .slice (some ad205) l1_1.length c1_1] 38 (0, 0)) (by (with_reducible repeat (first | refine blk_drewN ?_ _ | refine blk_drew ?_ | refine blk_alloc ?_ _)); exact BK204.out)) : gb206 ≠ gb204)); clear HO_5; clear BK203; clear BK204; clear HB; have HO_5 := n0_; have BK203 := n1_; have BK204 := n2_; have HB := n3_; have BK206 := n4_; have GW206 := n5_; have GE206 := n6_; have NB203_206 := n7_; have NB206_203 := n8_; have NB204_206 := n9_; have NB206_204 := n10_; clear n0_ n1_ n2_ n3_ n4_ n5_ n6_ n7_ n8_ n9_ n10_; clear hb hbox hg; have hnb12 := NB206_203.out; have hnc12 := NB203_206.out; have hnb13 := NB206_204.out; have hnc13 := NB204_206.out; have hcz14_0 : w11.cell? ⟨gb206, 0, none⟩ = some (.int .u64 0) := (blk_cell BK206.out 0).trans rfl; have hcz14_1 : w11.cell? ⟨gb206, 1, none⟩ = some (.string (⟨#[]⟩ : ByteArray)) := (blk_cell BK206.out 1).trans rfl; have hcz14_2 : w11.cell? ⟨gb206, 2, none⟩ = some (.bool false) := (blk_cell BK206.out 2).trans rfl; have hcz14_3 : w11.cell? ⟨gb206, 3, none⟩ = some (.int .i64 0) := (blk_cell BK206.out 3).trans rfl; have hfz14_0 := blk_frozen BK206.out 0; have hfz14_1 := blk_frozen BK206.out 1; have hfz14_2 := blk_frozen BK206.out 2; have hfz14_3 := blk_frozen BK206.out 3))
      (try simp only [Act.put, List.setIfInBounds_toArray, List.set_cons_zero, List.set_cons_succ])
      go_cut [8] (fun v8 wc => ∃ (kq : Nat) (x8_9 : Int), v8 = .int .i64 x8_9 ∧ Aside0 (items_versions.j1 kq x5_1 x12_1 x8_9 l1_1 (l1_1.length : Int) x12_1 a0_0 a0_1 l0_2 l0_3 a0_4 a1_0 l1_1 ((rd_T80 l1_1 x12_1).f0) ((rd_T80 l1_1 x12_1).f1) ((rd_T80 l1_1 x12_1).f2) ((rd_T80 l1_1 x12_1).f3) = some r) ∧ Aside0 (kq ≤ k1) ∧ Aside0 (Kd.R k43 43 wc w.heap.size (fun _ => True) u5 x5_1) ∧ Aside0 (wc.heap[gb203]? = some (.cells #[.string a0_0, .int .i64 a0_1, (.slice A0_2 l0_2.length c0_2), (.slice A0_3 l0_3.length c0_3), .int .u64 a0_4] 35 (0, 0))) ∧ Aside0 (wc.heap[gb204]? = some (.cells #[.string a1_0, (.slice (some ad205) l1_1.length c1_1)] 38 (0, 0))) ∧ Aside0 (wc.heap[gb206]? = some (.cells #[.int .u64 ((rd_T80 l1_1 x12_1).f0), .string ((rd_T80 l1_1 x12_1).f1), .bool ((rd_T80 l1_1 x12_1).f2), .int .i64 ((rd_T80 l1_1 x12_1).f3)] 80 (0, 0))) ∧ Aside0 (Below w.heap.size w wc))
      case first =>
       have H := HC10.out
       clear HC10
       obtain ⟨bq15, hbq15⟩ : ∃ b_ : Bool, b_ = ((rd_T80 l1_1 x12_1).f2) := ⟨_, rfl⟩
       replace H : (if bq15 = true then (items_versions.j1 k1 x5_1 x12_1 1 l1_1 (l1_1.length : Int) x12_1 a0_0 a0_1 l0_2 l0_3 a0_4 a1_0 l1_1 ((rd_T80 l1_1 x12_1).f0) ((rd_T80 l1_1 x12_1).f1) bq15 ((rd_T80 l1_1 x12_1).f3)) else (items_versions.j1 k1 x5_1 x12_1 0 l1_1 (l1_1.length : Int) x12_1 a0_0 a0_1 l0_2 l0_3 a0_4 a1_0 l1_1 ((rd_T80 l1_1 x12_1).f0) ((rd_T80 l1_1 x12_1).f1) bq15 ((rd_T80 l1_1 x12_1).f3))) = some r := by rw [← hbq15] at H; exact H
       have Nbq15 := Aside0.mk hbq15
       clear hbq15
       (try rw [← Nbq15.out])
       by_cases c16 : bq15 = true
       ·subst c16
        have H1 : (items_versions.j1 k1 x5_1 x12_1 1 l1_1 (l1_1.length : Int) x12_1 a0_0 a0_1 l0_2 l0_3 a0_4 a1_0 l1_1 ((rd_T80 l1_1 x12_1).f0) ((rd_T80 l1_1 x12_1).f1) true ((rd_T80 l1_1 x12_1).f3)) = some r := by rw [if_pos rfl] at H; exact H
        clear H
        have H := H1
        clear H1
        have H' := Aside0.mk H
        clear H
        go_wp2
        go_meet
        (try rw [← Nbq15.out])
        case rel => exact ⟨_, (1), (by first | rfl | (simp; done) | (simp [*]; done)), H', ⟨by have := HK1.out; first | omega | exact Nat.le_refl _⟩, ⟨by (with_reducible repeat (first | apply Kd.R_alloc | apply Kd.R_drewN | apply Kd.R_drew)); exact Kd.R_mono (Kd.R_far (p := ⟨gb206, 3, none⟩) (Kd.R_far (p := ⟨gb206, 2, none⟩) (Kd.R_far (p := ⟨gb206, 1, none⟩) (Kd.R_far (p := ⟨gb206, 0, none⟩) (Kd.R_types HO_5.out BK206.out (by decide)) (fun _ hk => hk.2) (.int .u64 ((rd_T80 l1_1 x12_1).f0))) (fun _ hk => hk.2) (.string ((rd_T80 l1_1 x12_1).f1))) (fun _ hk => hk.2) (.bool (true))) (fun _ hk => hk.2) (.int .i64 ((rd_T80 l1_1 x12_1).f3))) (fun _ hk => trivial)⟩, ⟨by (with_reducible repeat (first | refine blk_drewN ?_ _ | refine blk_drew ?_ | refine blk_alloc ?_ _)); refine blk_far ?_ NB203_206.out _; (with_reducible repeat (first | refine blk_drewN ?_ _ | refine blk_drew ?_ | refine blk_alloc ?_ _)); refine blk_far ?_ NB203_206.out _; (with_reducible repeat (first | refine blk_drewN ?_ _ | refine blk_drew ?_ | refine blk_alloc ?_ _)); refine blk_far ?_ NB203_206.out _; (with_reducible repeat (first | refine blk_drewN ?_ _ | refine blk_drew ?_ | refine blk_alloc ?_ _)); refine blk_far ?_ NB203_206.out _; (with_reducible repeat (first | refine blk_drewN ?_ _ | refine blk_drew ?_ | refine blk_alloc ?_ _)); exact BK203.out⟩, ⟨by (with_reducible repeat (first | refine blk_drewN ?_ _ | refine blk_drew ?_ | refine blk_alloc ?_ _)); refine blk_far ?_ NB204_206.out _; (with_reducible repeat (first | refine blk_drewN ?_ _ | refine blk_drew ?_ | refine blk_alloc ?_ _)); refine blk_far ?_ NB204_206.out _; (with_reducible repeat (first | refine blk_drewN ?_ _ | refine blk_drew ?_ | refine blk_alloc ?_ _)); refine blk_far ?_ NB204_206.out _; (with_reducible repeat (first | refine blk_drewN ?_ _ | refine blk_drew ?_ | refine blk_alloc ?_ _)); refine blk_far ?_ NB204_206.out _; (with_reducible repeat (first | refine blk_drewN ?_ _ | refine blk_drew ?_ | refine blk_alloc ?_ _)); exact BK204.out⟩, ⟨by (with_reducible repeat (first | refine blk_drewN ?_ _ | refine blk_drew ?_ | refine blk_alloc ?_ _)); refine blk_put (cs := #[.int .u64 ((rd_T80 l1_1 x12_1).f0), .string ((rd_T80 l1_1 x12_1).f1), .bool (true), .int .i64 0]) ?_ 3 _ rfl; (with_reducible repeat (first | refine blk_drewN ?_ _ | refine blk_drew ?_ | refine blk_alloc ?_ _)); refine blk_put (cs := #[.int .u64 ((rd_T80 l1_1 x12_1).f0), .string ((rd_T80 l1_1 x12_1).f1), .bool false, .int .i64 0]) ?_ 2 _ rfl; (with_reducible repeat (first | refine blk_drewN ?_ _ | refine blk_drew ?_ | refine blk_alloc ?_ _)); refine blk_put (cs := #[.int .u64 ((rd_T80 l1_1 x12_1).f0), .string (⟨#[]⟩ : ByteArray), .bool false, .int .i64 0]) ?_ 1 _ rfl; (with_reducible repeat (first | refine blk_drewN ?_ _ | refine blk_drew ?_ | refine blk_alloc ?_ _)); refine blk_put (cs := #[.int .u64 0, .string (⟨#[]⟩ : ByteArray), .bool false, .int .i64 0]) ?_ 0 _ rfl; (with_reducible repeat (first | refine blk_drewN ?_ _ | refine blk_drew ?_ | refine blk_alloc ?_ _)); exact BK206.out⟩, ⟨by repeat (first | (with_reducible first | exact HB.out | apply below_alloc | apply pw_below_drewN | apply below_drew1 | refine below_set ?_ GE203.out | refine below_set ?_ GE204.out | refine below_set ?_ GE206.out) | exact HB.out)⟩⟩
       ·replace c16 := Bool.eq_false_iff.mpr c16
        subst c16
        have H1 : (items_versions.j1 k1 x5_1 x12_1 0 l1_1 (l1_1.length : Int) x12_1 a0_0 a0_1 l0_2 l0_3 a0_4 a1_0 l1_1 ((rd_T80 l1_1 x12_1).f0) ((rd_T80 l1_1 x12_1).f1) false ((rd_T80 l1_1 x12_1).f3)) = some r := by rw [if_neg (show ¬ (false = true) by decide)] at H; exact H
        clear H
        have H := H1
        clear H1
        have H' := Aside0.mk H
        clear H
        go_wp2
        go_meet
        (try rw [← Nbq15.out])
        case rel => exact ⟨_, (0), (by first | rfl | (simp; done) | (simp [*]; done)), H', ⟨by have := HK1.out; first | omega | exact Nat.le_refl _⟩, ⟨by (with_reducible repeat (first | apply Kd.R_alloc | apply Kd.R_drewN | apply Kd.R_drew)); exact Kd.R_mono (Kd.R_far (p := ⟨gb206, 3, none⟩) (Kd.R_far (p := ⟨gb206, 2, none⟩) (Kd.R_far (p := ⟨gb206, 1, none⟩) (Kd.R_far (p := ⟨gb206, 0, none⟩) (Kd.R_types HO_5.out BK206.out (by decide)) (fun _ hk => hk.2) (.int .u64 ((rd_T80 l1_1 x12_1).f0))) (fun _ hk => hk.2) (.string ((rd_T80 l1_1 x12_1).f1))) (fun _ hk => hk.2) (.bool (false))) (fun _ hk => hk.2) (.int .i64 ((rd_T80 l1_1 x12_1).f3))) (fun _ hk => trivial)⟩, ⟨by (with_reducible repeat (first | refine blk_drewN ?_ _ | refine blk_drew ?_ | refine blk_alloc ?_ _)); refine blk_far ?_ NB203_206.out _; (with_reducible repeat (first | refine blk_drewN ?_ _ | refine blk_drew ?_ | refine blk_alloc ?_ _)); refine blk_far ?_ NB203_206.out _; (with_reducible repeat (first | refine blk_drewN ?_ _ | refine blk_drew ?_ | refine blk_alloc ?_ _)); refine blk_far ?_ NB203_206.out _; (with_reducible repeat (first | refine blk_drewN ?_ _ | refine blk_drew ?_ | refine blk_alloc ?_ _)); refine blk_far ?_ NB203_206.out _; (with_reducible repeat (first | refine blk_drewN ?_ _ | refine blk_drew ?_ | refine blk_alloc ?_ _)); exact BK203.out⟩, ⟨by (with_reducible repeat (first | refine blk_drewN ?_ _ | refine blk_drew ?_ | refine blk_alloc ?_ _)); refine blk_far ?_ NB204_206.out _; (with_reducible repeat (first | refine blk_drewN ?_ _ | refine blk_drew ?_ | refine blk_alloc ?_ _)); refine blk_far ?_ NB204_206.out _; (with_reducible repeat (first | refine blk_drewN ?_ _ | refine blk_drew ?_ | refine blk_alloc ?_ _)); refine blk_far ?_ NB204_206.out _; (with_reducible repeat (first | refine blk_drewN ?_ _ | refine blk_drew ?_ | refine blk_alloc ?_ _)); refine blk_far ?_ NB204_206.out _; (with_reducible repeat (first | refine blk_drewN ?_ _ | refine blk_drew ?_ | refine blk_alloc ?_ _)); exact BK204.out⟩, ⟨by (with_reducible repeat (first | refine blk_drewN ?_ _ | refine blk_drew ?_ | refine blk_alloc ?_ _)); refine blk_put (cs := #[.int .u64 ((rd_T80 l1_1 x12_1).f0), .string ((rd_T80 l1_1 x12_1).f1), .bool (false), .int .i64 0]) ?_ 3 _ rfl; (with_reducible repeat (first | refine blk_drewN ?_ _ | refine blk_drew ?_ | refine blk_alloc ?_ _)); refine blk_put (cs := #[.int .u64 ((rd_T80 l1_1 x12_1).f0), .string ((rd_T80 l1_1 x12_1).f1), .bool false, .int .i64 0]) ?_ 2 _ rfl; (with_reducible repeat (first | refine blk_drewN ?_ _ | refine blk_drew ?_ | refine blk_alloc ?_ _)); refine blk_put (cs := #[.int .u64 ((rd_T80 l1_1 x12_1).f0), .string (⟨#[]⟩ : ByteArray), .bool false, .int .i64 0]) ?_ 1 _ rfl; (with_reducible repeat (first | refine blk_drewN ?_ _ | refine blk_drew ?_ | refine blk_alloc ?_ _)); refine blk_put (cs := #[.int .u64 0, .string (⟨#[]⟩ : ByteArray), .bool false, .int .i64 0]) ?_ 0 _ rfl; (with_reducible repeat (first | refine blk_drewN ?_ _ | refine blk_drew ?_ | refine blk_alloc ?_ _)); exact BK206.out⟩, ⟨by repeat (first | (with_reducible first | exact HB.out | apply below_alloc | apply pw_below_drewN | apply below_drew1 | refine below_set ?_ GE203.out | refine below_set ?_ GE204.out | refine below_set ?_ GE206.out) | exact HB.out)⟩⟩
      case rest =>
       clear HC10
       try clear c1
       try clear q1
       try clear p2
       try clear q2
       try clear hx2
       try clear c5
       try clear c7
       try clear c7b0
       try clear c8
       try clear c8b0
       try clear c9
       try clear c9b0
       try clear c12
       try clear c13
       try clear q15
       try clear c16
       try clear hcz14_0
       try clear hcz14_1
       try clear hcz14_2
       try clear hcz14_3
       try clear hcz6_0
       try clear hcz6_1
       try clear hfz14_0
       try clear hfz14_1
       try clear hfz14_2
       try clear hfz14_3
       try clear hfz6_0
       try clear hfz6_1
       try clear hx205_0
       try clear hx205_1
       try clear hx205_2
       try clear hx205_3
       try clear p2
       try clear p205
       try clear q205
       obtain ⟨kq, x8_9, rfl, HA, HJ9, HO_5, BK203, BK204, BK206, HB⟩ := hcut
       cases kq with
       | zero => exact absurd HA.out (by simp [items_versions.j1])
       | succ kj9 =>
        have H := HA.out
        clear HA
        simp only [items_versions.j1] at H
        by_cases c17 : 1 + a0_0.size ≤ 9223372036854775807
        ·rw [if_pos c17] at H
         have c17b0 := eq_true c17
         have c17b1 : decide (1 + a0_0.size ≤ 9223372036854775807) = true := decide_eq_true c17
         try have c17b2 : (9223372036854775807 < 1 + a0_0.size) = False := eq_false (Nat.not_lt.2 c17)
         try (have c17b3 := c17b2; simp only [ByteArray.size_append, sz10, sz98, sz112, sz116, sz117, sz118] at c17b3)
         by_cases c18 : ((⟨#[118]⟩ : ByteArray) ++ a0_0).size + 1 ≤ 9223372036854775807
         ·rw [if_pos c18] at H
          have c18b0 := eq_true c18
          have c18b1 : decide (((⟨#[118]⟩ : ByteArray) ++ a0_0).size + 1 ≤ 9223372036854775807) = true := decide_eq_true c18
          try have c18b2 : (9223372036854775807 < ((⟨#[118]⟩ : ByteArray) ++ a0_0).size + 1) = False := eq_false (Nat.not_lt.2 c18)
          try (have c18b3 := c18b2; simp only [ByteArray.size_append, sz10, sz98, sz112, sz116, sz117, sz118] at c18b3)
          by_cases c19 : (((⟨#[118]⟩ : ByteArray) ++ a0_0) ++ (⟨#[10]⟩ : ByteArray)).size + a1_0.size ≤ 9223372036854775807
          ·rw [if_pos c19] at H
           have c19b0 := eq_true c19
           have c19b1 : decide ((((⟨#[118]⟩ : ByteArray) ++ a0_0) ++ (⟨#[10]⟩ : ByteArray)).size + a1_0.size ≤ 9223372036854775807) = true := decide_eq_true c19
           try have c19b2 : (9223372036854775807 < (((⟨#[118]⟩ : ByteArray) ++ a0_0) ++ (⟨#[10]⟩ : ByteArray)).size + a1_0.size) = False := eq_false (Nat.not_lt.2 c19)
           try (have c19b3 := c19b2; simp only [ByteArray.size_append, sz10, sz98, sz112, sz116, sz117, sz118] at c19b3)
           by_cases c20 : ((((⟨#[118]⟩ : ByteArray) ++ a0_0) ++ (⟨#[10]⟩ : ByteArray)) ++ a1_0).size + 1 ≤ 9223372036854775807
           ·rw [if_pos c20] at H
            have c20b0 := eq_true c20
            have c20b1 : decide (((((⟨#[118]⟩ : ByteArray) ++ a0_0) ++ (⟨#[10]⟩ : ByteArray)) ++ a1_0).size + 1 ≤ 9223372036854775807) = true := decide_eq_true c20
            try have c20b2 : (9223372036854775807 < ((((⟨#[118]⟩ : ByteArray) ++ a0_0) ++ (⟨#[10]⟩ : ByteArray)) ++ a1_0).size + 1) = False := eq_false (Nat.not_lt.2 c20)
            try (have c20b3 := c20b2; simp only [ByteArray.size_append, sz10, sz98, sz112, sz116, sz117, sz118] at c20b3)
            replace H := Option.bind_eq_some_iff.mp H
            obtain ⟨t207, A210, H⟩ := H
            replace H : (if (((((⟨#[118]⟩ : ByteArray) ++ a0_0) ++ (⟨#[10]⟩ : ByteArray)) ++ a1_0) ++ (⟨#[10]⟩ : ByteArray)).size + t207.size ≤ 9223372036854775807 then ((items_num.f kj9 (wrap64 ((wrap64 ((l1_1.length : Int) - 1)) - x12_1))).bind fun t208 => ((items_num.f kj9 ((rd_T80 l1_1 x12_1).f3)).bind fun t209 => ((items_num.f kj9 x8_9).bind fun t210 => ((items_val.f (([t208, t209, t210, ((rd_T80 l1_1 x12_1).f1)] : List ByteArray))).bind fun t214 => (if x5_1.length < 4398046511104 then (items_versions.l0 kj9 (x5_1 ++ [(⟨(((((⟨#[118]⟩ : ByteArray) ++ a0_0) ++ (⟨#[10]⟩ : ByteArray)) ++ a1_0) ++ (⟨#[10]⟩ : ByteArray)) ++ t207, t214⟩ : S43)]) l1_1 (l1_1.length : Int) (wrap64 (x12_1 + 1)) a0_0 a0_1 l0_2 l0_3 a0_4 a1_0 l1_1) else (none)))))) else (none)) = some r := H
            have A21 := Aside0.mk A210
            clear A210
            by_cases c22 : (((((⟨#[118]⟩ : ByteArray) ++ a0_0) ++ (⟨#[10]⟩ : ByteArray)) ++ a1_0) ++ (⟨#[10]⟩ : ByteArray)).size + t207.size ≤ 9223372036854775807
            ·rw [if_pos c22] at H
             have c22b0 := eq_true c22
             have c22b1 : decide ((((((⟨#[118]⟩ : ByteArray) ++ a0_0) ++ (⟨#[10]⟩ : ByteArray)) ++ a1_0) ++ (⟨#[10]⟩ : ByteArray)).size + t207.size ≤ 9223372036854775807) = true := decide_eq_true c22
             try have c22b2 : (9223372036854775807 < (((((⟨#[118]⟩ : ByteArray) ++ a0_0) ++ (⟨#[10]⟩ : ByteArray)) ++ a1_0) ++ (⟨#[10]⟩ : ByteArray)).size + t207.size) = False := eq_false (Nat.not_lt.2 c22)
             try (have c22b3 := c22b2; simp only [ByteArray.size_append, sz10, sz98, sz112, sz116, sz117, sz118] at c22b3)
             replace H := Option.bind_eq_some_iff.mp H
             obtain ⟨t208, A230, H⟩ := H
             replace H : ((items_num.f kj9 ((rd_T80 l1_1 x12_1).f3)).bind fun t209 => ((items_num.f kj9 x8_9).bind fun t210 => ((items_val.f (([t208, t209, t210, ((rd_T80 l1_1 x12_1).f1)] : List ByteArray))).bind fun t214 => (if x5_1.length < 4398046511104 then (items_versions.l0 kj9 (x5_1 ++ [(⟨(((((⟨#[118]⟩ : ByteArray) ++ a0_0) ++ (⟨#[10]⟩ : ByteArray)) ++ a1_0) ++ (⟨#[10]⟩ : ByteArray)) ++ t207, t214⟩ : S43)]) l1_1 (l1_1.length : Int) (wrap64 (x12_1 + 1)) a0_0 a0_1 l0_2 l0_3 a0_4 a1_0 l1_1) else (none))))) = some r := H
             have A23 := Aside0.mk A230
             clear A230
             replace H := Option.bind_eq_some_iff.mp H
             obtain ⟨t209, A240, H⟩ := H
             replace H : ((items_num.f kj9 x8_9).bind fun t210 => ((items_val.f (([t208, t209, t210, ((rd_T80 l1_1 x12_1).f1)] : List ByteArray))).bind fun t214 => (if x5_1.length < 4398046511104 then (items_versions.l0 kj9 (x5_1 ++ [(⟨(((((⟨#[118]⟩ : ByteArray) ++ a0_0) ++ (⟨#[10]⟩ : ByteArray)) ++ a1_0) ++ (⟨#[10]⟩ : ByteArray)) ++ t207, t214⟩ : S43)]) l1_1 (l1_1.length : Int) (wrap64 (x12_1 + 1)) a0_0 a0_1 l0_2 l0_3 a0_4 a1_0 l1_1) else (none)))) = some r := H
             have A24 := Aside0.mk A240
             clear A240
             replace H := Option.bind_eq_some_iff.mp H
             obtain ⟨t210, A250, H⟩ := H
             replace H : ((items_val.f (([t208, t209, t210, ((rd_T80 l1_1 x12_1).f1)] : List ByteArray))).bind fun t214 => (if x5_1.length < 4398046511104 then (items_versions.l0 kj9 (x5_1 ++ [(⟨(((((⟨#[118]⟩ : ByteArray) ++ a0_0) ++ (⟨#[10]⟩ : ByteArray)) ++ a1_0) ++ (⟨#[10]⟩ : ByteArray)) ++ t207, t214⟩ : S43)]) l1_1 (l1_1.length : Int) (wrap64 (x12_1 + 1)) a0_0 a0_1 l0_2 l0_3 a0_4 a1_0 l1_1) else (none))) = some r := H
             have A25 := Aside0.mk A250
             clear A250
             obtain ⟨y211, hy211⟩ : ∃ y_ : List ByteArray, y_ = (([t208, t209, t210, ((rd_T80 l1_1 x12_1).f1)] : List ByteArray)) := ⟨_, rfl⟩
             replace H : ((items_val.f y211).bind fun t214 => (if x5_1.length < 4398046511104 then (items_versions.l0 kj9 (x5_1 ++ [(⟨(((((⟨#[118]⟩ : ByteArray) ++ a0_0) ++ (⟨#[10]⟩ : ByteArray)) ++ a1_0) ++ (⟨#[10]⟩ : ByteArray)) ++ t207, t214⟩ : S43)]) l1_1 (l1_1.length : Int) (wrap64 (x12_1 + 1)) a0_0 a0_1 l0_2 l0_3 a0_4 a1_0 l1_1) else (none))) = some r := by first | (rw [hy211]; with_reducible exact H) | (have H2_ := (Option.bind_some _ _).symm.trans H; rw [hy211]; with_reducible exact H2_) | (have H2_ := (Option.bind_some _ _).symm.trans H; with_reducible exact H2_) | with_reducible exact H | (rw [hy211]; exact H) | exact H
             have Ny211 := Aside0.mk hy211
             clear hy211
             replace H := Option.bind_eq_some_iff.mp H
             obtain ⟨t214, A260, H⟩ := H
             replace H : (if x5_1.length < 4398046511104 then (items_versions.l0 kj9 (x5_1 ++ [(⟨(((((⟨#[118]⟩ : ByteArray) ++ a0_0) ++ (⟨#[10]⟩ : ByteArray)) ++ a1_0) ++ (⟨#[10]⟩ : ByteArray)) ++ t207, t214⟩ : S43)]) l1_1 (l1_1.length : Int) (wrap64 (x12_1 + 1)) a0_0 a0_1 l0_2 l0_3 a0_4 a1_0 l1_1) else (none)) = some r := H
             have A26 := Aside0.mk A260
             clear A260
             by_cases c27 : x5_1.length < 4398046511104
             ·rw [if_pos c27] at H
              have LMc27 := Aside0.mk c27
              clear c27
              obtain ⟨y215, hy215⟩ : ∃ y_ : List (S43), y_ = (x5_1 ++ [(⟨(((((⟨#[118]⟩ : ByteArray) ++ a0_0) ++ (⟨#[10]⟩ : ByteArray)) ++ a1_0) ++ (⟨#[10]⟩ : ByteArray)) ++ t207, t214⟩ : S43)]) := ⟨_, rfl⟩
              replace H : (items_versions.l0 kj9 y215 l1_1 (l1_1.length : Int) (wrap64 (x12_1 + 1)) a0_0 a0_1 l0_2 l0_3 a0_4 a1_0 l1_1) = some r := by first | (rw [hy215]; with_reducible exact H) | (have H2_ := (Option.bind_some _ _).symm.trans H; rw [hy215]; with_reducible exact H2_) | (have H2_ := (Option.bind_some _ _).symm.trans H; with_reducible exact H2_) | with_reducible exact H | (rw [hy215]; exact H) | exact H
              have Ny215 := Aside0.mk hy215
              clear hy215
              have H' := Aside0.mk H
              clear H
              try go_wp2
              have n0_ := Aside0.mk (Kd.R_drew HO_5.out)
              have n1_ := Aside0.mk (blk_drew BK203.out)
              have n2_ := Aside0.mk (blk_drew BK204.out)
              have n3_ := Aside0.mk (blk_drew BK206.out)
              have n4_ := Aside0.mk (below_drew1 HB.out)
              clear HO_5
              clear BK203
              clear BK204
              clear BK206
              clear HB
              have HO_5 := n0_
              have BK203 := n1_
              have BK204 := n2_
              have BK206 := n3_
              have HB := n4_
              clear n0_ n1_ n2_ n3_ n4_
              refine start_ (n := 33) (S := fun w' => w'.cell? ⟨gb203, 0, none⟩ = some (.string a0_0) ∧ w'.cell? ⟨gb203, 1, none⟩ = some (.int .i64 a0_1) ∧ w'.cell? ⟨gb203, 2, none⟩ = some (.slice A0_2 l0_2.length c0_2) ∧ w'.cell? ⟨gb203, 3, none⟩ = some (.slice A0_3 l0_3.length c0_3) ∧ w'.cell? ⟨gb203, 4, none⟩ = some (.int .u64 a0_4) ∧ w'.cell? ⟨gb204, 0, none⟩ = some (.string a1_0) ∧ w'.cell? ⟨gb204, 1, none⟩ = some (.slice (some ad205) l1_1.length c1_1) ∧ w'.cell? ⟨gb206, 0, none⟩ = some (.int .u64 ((rd_T80 l1_1 x12_1).f0)) ∧ w'.cell? ⟨gb206, 1, none⟩ = some (.string ((rd_T80 l1_1 x12_1).f1)) ∧ w'.cell? ⟨gb206, 2, none⟩ = some (.bool ((rd_T80 l1_1 x12_1).f2)) ∧ w'.cell? ⟨gb206, 3, none⟩ = some (.int .i64 ((rd_T80 l1_1 x12_1).f3))) (ds := []) #[false, false, false, false, false, false, false, false, false, false, false, false, false, false, false, false, false, false, false, false, false, false, false, false, false, false, false, false, false, false, false, false, false] (by kernel_rfl) rfl rfl ⟨(blk_cell BK203.out 0).trans rfl, (blk_cell BK203.out 1).trans rfl, (blk_cell BK203.out 2).trans rfl, (blk_cell BK203.out 3).trans rfl, (blk_cell BK203.out 4).trans rfl, (blk_cell BK204.out 0).trans rfl, (blk_cell BK204.out 1).trans rfl, (blk_cell BK206.out 0).trans rfl, (blk_cell BK206.out 1).trans rfl, (blk_cell BK206.out 2).trans rfl, (blk_cell BK206.out 3).trans rfl⟩ (fun hHeld => ?_); refine with_tabW items_versions.tab8 items_versions.bits8 (fun HT_ HW_ => ?_)
              generalize wc.drew = w28 at HO_5 BK203 BK204 BK206 HB hHeld ⊢
              refine pure_ (i := 0) (N := some 19) (v := ?_) (a' := ?_) #[true, false, false, false, false, false, false, false, false, false, false, false, false, false, false, false, false, false, false, false, false, false, false, false, false, false, false, false, false, false, false, false, false] rfl rfl (any_of HT_.out (by kernel_rfl)) (fun _ _ _ h => h) (Or.inl ⟨by rfl, ?_⟩) ?_ ?_
              rotate_left
              ·intro w'
               go_simp
               with_reducible rfl
              rotate_left
              ·simp only [Act.put, List.setIfInBounds_toArray, List.set_cons_zero, List.set_cons_succ, i64_w, i32_w]
               rfl
              refine pure_ (i := 1) (N := some 20) (v := ?_) (a' := ?_) #[true, true, false, false, false, false, false, false, false, false, false, false, false, false, false, false, false, false, false, false, false, false, false, false, false, false, false, false, false, false, false, false, false] rfl rfl (any_of HT_.out (by kernel_rfl)) (fun _ _ _ h => h) (Or.inl ⟨by rfl, ?_⟩) ?_ ?_
              rotate_left
              ·intro w'
               go_simp
               with_reducible rfl
              rotate_left
              ·simp only [Act.put, List.setIfInBounds_toArray, List.set_cons_zero, List.set_cons_succ, i64_w, i32_w]
               rfl
              refine pure_ (i := 5) (N := some 24) (v := ?_) (a' := ?_) #[true, true, false, false, false, true, false, false, false, false, false, false, false, false, false, false, false, false, false, false, false, false, false, false, false, false, false, false, false, false, false, false, false] rfl rfl (any_of HT_.out (by kernel_rfl)) (fun _ _ _ h => h) (Or.inl ⟨by rfl, ?_⟩) ?_ ?_
              rotate_left
              ·intro w'
               go_simp
               with_reducible rfl
              rotate_left
              ·simp only [Act.put, List.setIfInBounds_toArray, List.set_cons_zero, List.set_cons_succ, i64_w, i32_w]
               rfl
              refine pure_ (i := 9) (N := some 28) (v := ?_) (a' := ?_) #[true, true, false, false, false, true, false, false, false, true, false, false, false, false, false, false, false, false, false, false, false, false, false, false, false, false, false, false, false, false, false, false, false] rfl rfl (any_of HT_.out (by kernel_rfl)) (fun _ _ _ h => h) (Or.inl ⟨by rfl, ?_⟩) ?_ ?_
              rotate_left
              ·intro w'
               go_simp
               with_reducible rfl
              rotate_left
              ·simp only [Act.put, List.setIfInBounds_toArray, List.set_cons_zero, List.set_cons_succ, i64_w, i32_w]
               rfl
              refine pure_ (i := 13) (N := some 32) (v := ?_) (a' := ?_) #[true, true, false, false, false, true, false, false, false, true, false, false, false, true, false, false, false, false, false, false, false, false, false, false, false, false, false, false, false, false, false, false, false] rfl rfl (any_of HT_.out (by kernel_rfl)) (fun _ _ _ h => h) (Or.inl ⟨by rfl, ?_⟩) ?_ ?_
              rotate_left
              ·intro w'
               go_simp
               with_reducible rfl
              rotate_left
              ·simp only [Act.put, List.setIfInBounds_toArray, List.set_cons_zero, List.set_cons_succ, i64_w, i32_w]
               rfl
              refine pure_ (i := 17) (N := some 36) (v := ?_) (a' := ?_) #[true, true, false, false, false, true, false, false, false, true, false, false, false, true, false, false, false, true, false, false, false, false, false, false, false, false, false, false, false, false, false, false, false] rfl rfl (any_of HT_.out (by kernel_rfl)) (fun _ _ _ h => h) (Or.inl ⟨by rfl, ?_⟩) ?_ ?_
              rotate_left
              ·intro w'
               go_simp
               with_reducible rfl
              rotate_left
              ·simp only [Act.put, List.setIfInBounds_toArray, List.set_cons_zero, List.set_cons_succ, i64_w, i32_w]
               rfl
              refine pure_ (i := 20) (N := some 39) (v := ?_) (a' := ?_) #[true, true, false, false, false, true, false, false, false, true, false, false, false, true, false, false, false, true, false, false, true, false, false, false, false, false, false, false, false, false, false, false, false] rfl rfl (any_of HT_.out (by kernel_rfl)) (fun _ _ _ h => h) (Or.inl ⟨by rfl, ?_⟩) ?_ ?_
              rotate_left
              ·intro w'
               go_simp
               with_reducible rfl
              rotate_left
              ·simp only [Act.put, List.setIfInBounds_toArray, List.set_cons_zero, List.set_cons_succ, i64_w, i32_w]
               rfl
              refine pure_ (i := 23) (N := some 42) (v := ?_) (a' := ?_) #[true, true, false, false, false, true, false, false, false, true, false, false, false, true, false, false, false, true, false, false, true, false, false, true, false, false, false, false, false, false, false, false, false] rfl rfl (any_of HT_.out (by kernel_rfl)) (fun _ _ _ h => h) (Or.inl ⟨by rfl, ?_⟩) ?_ ?_
              rotate_left
              ·intro w'
               go_simp
               with_reducible rfl
              rotate_left
              ·simp only [Act.put, List.setIfInBounds_toArray, List.set_cons_zero, List.set_cons_succ, i64_w, i32_w]
               rfl
              refine pure_ (i := 25) (N := some 44) (v := ?_) (a' := ?_) #[true, true, false, false, false, true, false, false, false, true, false, false, false, true, false, false, false, true, false, false, true, false, false, true, false, true, false, false, false, false, false, false, false] rfl rfl (any_of HT_.out (by kernel_rfl)) (fun _ _ _ h => h) (Or.inl ⟨by rfl, ?_⟩) ?_ ?_
              rotate_left
              ·intro w'
               go_simp
               with_reducible rfl
              rotate_left
              ·simp only [Act.put, List.setIfInBounds_toArray, List.set_cons_zero, List.set_cons_succ, i64_w, i32_w]
               rfl
              refine take_ (i := 2) (N := some 21) (v := ?_) (a' := ?_) #[true, true, true, false, false, true, false, false, false, true, false, false, false, true, false, false, false, true, false, false, true, false, false, true, false, true, false, false, false, false, false, false, false] rfl rfl (take_ofW HT_.out HW_.out (by kernel_rfl)) (fun _ _ _ h => h) (Or.inl ⟨by rfl, ?_⟩) hHeld ?_ ?_
              rotate_left
              ·rintro w' ⟨s0, s1, s2, s3, s4, s5, s6, s7, s8, s9, s10⟩
               go_simp
               with_reducible rfl
              rotate_left
              ·simp only [Act.put, List.setIfInBounds_toArray, List.set_cons_zero, List.set_cons_succ, i64_w, i32_w]
               rfl
              refine pure_ (i := 3) (N := some 22) (v := ?_) (a' := ?_) #[true, true, true, true, false, true, false, false, false, true, false, false, false, true, false, false, false, true, false, false, true, false, false, true, false, true, false, false, false, false, false, false, false] rfl rfl (any_of HT_.out (by kernel_rfl)) (fun _ _ _ h => h) (Or.inl ⟨by rfl, ?_⟩) ?_ ?_
              rotate_left
              ·intro w'
               go_simp
               with_reducible rfl
              rotate_left
              ·simp only [Act.put, List.setIfInBounds_toArray, List.set_cons_zero, List.set_cons_succ, i64_w, i32_w]
               rfl
              refine pure_ (i := 4) (N := some 23) (v := ?_) (a' := ?_) #[true, true, true, true, true, true, false, false, false, true, false, false, false, true, false, false, false, true, false, false, true, false, false, true, false, true, false, false, false, false, false, false, false] rfl rfl (any_of HT_.out (by kernel_rfl)) (fun _ _ _ h => h) (Or.inl ⟨by rfl, ?_⟩) ?_ ?_
              rotate_left
              ·intro w'
               go_simp
               with_reducible rfl
              rotate_left
              ·simp only [Act.put, List.setIfInBounds_toArray, List.set_cons_zero, List.set_cons_succ, i64_w, i32_w]
               rfl
              refine take_ (i := 6) (N := some 25) (v := ?_) (a' := ?_) #[true, true, true, true, true, true, true, false, false, true, false, false, false, true, false, false, false, true, false, false, true, false, false, true, false, true, false, false, false, false, false, false, false] rfl rfl (take_ofW HT_.out HW_.out (by kernel_rfl)) (fun _ _ _ h => h) (Or.inl ⟨by rfl, ?_⟩) hHeld ?_ ?_
              rotate_left
              ·rintro w' ⟨s0, s1, s2, s3, s4, s5, s6, s7, s8, s9, s10⟩
               go_simp
               with_reducible rfl
              rotate_left
              ·simp only [Act.put, List.setIfInBounds_toArray, List.set_cons_zero, List.set_cons_succ, i64_w, i32_w]
               rfl
              refine pure_ (i := 7) (N := some 26) (v := ?_) (a' := ?_) #[true, true, true, true, true, true, true, true, false, true, false, false, false, true, false, false, false, true, false, false, true, false, false, true, false, true, false, false, false, false, false, false, false] rfl rfl (any_of HT_.out (by kernel_rfl)) (fun _ _ _ h => h) (Or.inl ⟨by rfl, ?_⟩) ?_ ?_
              rotate_left
              ·intro w'
               go_simp
               with_reducible rfl
              rotate_left
              ·simp only [Act.put, List.setIfInBounds_toArray, List.set_cons_zero, List.set_cons_succ, i64_w, i32_w]
               rfl
              refine pure_ (i := 8) (N := some 27) (v := ?_) (a' := ?_) #[true, true, true, true, true, true, true, true, true, true, false, false, false, true, false, false, false, true, false, false, true, false, false, true, false, true, false, false, false, false, false, false, false] rfl rfl (any_of HT_.out (by kernel_rfl)) (fun _ _ _ h => h) (Or.inl ⟨by rfl, ?_⟩) ?_ ?_
              rotate_left
              ·intro w'
               go_simp
               with_reducible rfl
              rotate_left
              ·simp only [Act.put, List.setIfInBounds_toArray, List.set_cons_zero, List.set_cons_succ, i64_w, i32_w]
               rfl
              refine take_ (i := 10) (N := some 29) (v := ?_) (a' := ?_) #[true, true, true, true, true, true, true, true, true, true, true, false, false, true, false, false, false, true, false, false, true, false, false, true, false, true, false, false, false, false, false, false, false] rfl rfl (take_ofW HT_.out HW_.out (by kernel_rfl)) (fun _ _ _ h => h) (Or.inl ⟨by rfl, ?_⟩) hHeld ?_ ?_
              rotate_left
              ·rintro w' ⟨s0, s1, s2, s3, s4, s5, s6, s7, s8, s9, s10⟩
               go_simp
               with_reducible rfl
              rotate_left
              ·simp only [Act.put, List.setIfInBounds_toArray, List.set_cons_zero, List.set_cons_succ, i64_w, i32_w]
               rfl
              refine take_ (i := 14) (N := some 33) (v := ?_) (a' := ?_) #[true, true, true, true, true, true, true, true, true, true, true, false, false, true, true, false, false, true, false, false, true, false, false, true, false, true, false, false, false, false, false, false, false] rfl rfl (take_ofW HT_.out HW_.out (by kernel_rfl)) (fun _ _ _ h => h) (Or.inl ⟨by rfl, ?_⟩) hHeld ?_ ?_
              rotate_left
              ·rintro w' ⟨s0, s1, s2, s3, s4, s5, s6, s7, s8, s9, s10⟩
               go_simp
               with_reducible rfl
              rotate_left
              ·simp only [Act.put, List.setIfInBounds_toArray, List.set_cons_zero, List.set_cons_succ, i64_w, i32_w]
               rfl
              refine pure_ (i := 15) (N := some 34) (v := ?_) (a' := ?_) #[true, true, true, true, true, true, true, true, true, true, true, false, false, true, true, true, false, true, false, false, true, false, false, true, false, true, false, false, false, false, false, false, false] rfl rfl (any_of HT_.out (by kernel_rfl)) (fun _ _ _ h => h) (Or.inl ⟨by rfl, ?_⟩) ?_ ?_
              rotate_left
              ·intro w'
               go_simp
               with_reducible rfl
              rotate_left
              ·simp only [Act.put, List.setIfInBounds_toArray, List.set_cons_zero, List.set_cons_succ, i64_w, i32_w]
               rfl
              refine pure_ (i := 16) (N := some 35) (v := ?_) (a' := ?_) #[true, true, true, true, true, true, true, true, true, true, true, false, false, true, true, true, true, true, false, false, true, false, false, true, false, true, false, false, false, false, false, false, false] rfl rfl (any_of HT_.out (by kernel_rfl)) (fun _ _ _ h => h) (Or.inl ⟨by rfl, ?_⟩) ?_ ?_
              rotate_left
              ·intro w'
               go_simp
               with_reducible rfl
              rotate_left
              ·simp only [Act.put, List.setIfInBounds_toArray, List.set_cons_zero, List.set_cons_succ, i64_w, i32_w]
               rfl
              refine pure_ (i := 18) (N := some 37) (v := ?_) (a' := ?_) #[true, true, true, true, true, true, true, true, true, true, true, false, false, true, true, true, true, true, true, false, true, false, false, true, false, true, false, false, false, false, false, false, false] rfl rfl (any_of HT_.out (by kernel_rfl)) (fun _ _ _ h => h) (Or.inl ⟨by rfl, ?_⟩) ?_ ?_
              rotate_left
              ·intro w'
               go_simp
               with_reducible rfl
              rotate_left
              ·simp only [Act.put, List.setIfInBounds_toArray, List.set_cons_zero, List.set_cons_succ, i64_w, i32_w]
               rfl
              refine take_ (i := 21) (N := some 40) (v := ?_) (a' := ?_) #[true, true, true, true, true, true, true, true, true, true, true, false, false, true, true, true, true, true, true, false, true, true, false, true, false, true, false, false, false, false, false, false, false] rfl rfl (take_ofW HT_.out HW_.out (by kernel_rfl)) (fun _ _ _ h => h) (Or.inl ⟨by rfl, ?_⟩) hHeld ?_ ?_
              rotate_left
              ·rintro w' ⟨s0, s1, s2, s3, s4, s5, s6, s7, s8, s9, s10⟩
               go_simp
               with_reducible rfl
              rotate_left
              ·simp only [Act.put, List.setIfInBounds_toArray, List.set_cons_zero, List.set_cons_succ, i64_w, i32_w]
               rfl
              refine take_ (i := 26) (N := some 45) (v := ?_) (a' := ?_) #[true, true, true, true, true, true, true, true, true, true, true, false, false, true, true, true, true, true, true, false, true, true, false, true, false, true, true, false, false, false, false, false, false] rfl rfl (take_ofW HT_.out HW_.out (by kernel_rfl)) (fun _ _ _ h => h) (Or.inl ⟨by rfl, ?_⟩) hHeld ?_ ?_
              rotate_left
              ·rintro w' ⟨s0, s1, s2, s3, s4, s5, s6, s7, s8, s9, s10⟩
               go_simp
               with_reducible rfl
              rotate_left
              ·simp only [Act.put, List.setIfInBounds_toArray, List.set_cons_zero, List.set_cons_succ, i64_w, i32_w]
               rfl
              refine one_ (i := 11) (N := some 30) #[true, true, true, true, true, true, true, true, true, true, true, true, false, true, true, true, true, true, true, false, true, true, false, true, false, true, true, false, false, false, false, false, false] rfl rfl (one_of HT_.out (by kernel_rfl)) (by decide) (fun K hK => ?_)
              refine goes_ Tryz.func15 (by kernel_rfl) rfl #[.int .u64 ((rd_T80 l1_1 x12_1).f0)] (by rfl) rfl rfl (by (try simp only [List.map_toArray, List.map_cons, List.map_nil]); first | done | rfl | (simp only [List.length_drop, List.length_take]; rfl)) ?_
              with_reducible refine (wire_Num.calls kj9 ((rd_T80 l1_1 x12_1).f0) t207 _ A21.out).mono ?_
              rintro e w29 ⟨rfl, hb⟩
              refine ⟨_, rfl, ?_⟩
              have n0_ := Aside0.mk (Kd.R_below (by (with_reducible repeat (first | apply Kd.R_alloc | apply Kd.R_drewN | apply Kd.R_drew)); exact HO_5.out) hb)
              have n1_ := Aside0.mk (blk_below (g := gb203) (o := .cells #[.string a0_0, .int .i64 a0_1, .slice A0_2 l0_2.length c0_2, .slice A0_3 l0_3.length c0_3, .int .u64 a0_4] 35 (0, 0)) (by (with_reducible repeat (first | refine blk_drewN ?_ _ | refine blk_drew ?_ | refine blk_alloc ?_ _)); exact BK203.out) hb)
              have n2_ := Aside0.mk (blk_below (g := gb204) (o := .cells #[.string a1_0, .slice (some ad205) l1_1.length c1_1] 38 (0, 0)) (by (with_reducible repeat (first | refine blk_drewN ?_ _ | refine blk_drew ?_ | refine blk_alloc ?_ _)); exact BK204.out) hb)
              have n3_ := Aside0.mk (blk_below (g := gb206) (o := .cells #[.int .u64 ((rd_T80 l1_1 x12_1).f0), .string ((rd_T80 l1_1 x12_1).f1), .bool ((rd_T80 l1_1 x12_1).f2), .int .i64 ((rd_T80 l1_1 x12_1).f3)] 80 (0, 0)) (by (with_reducible repeat (first | refine blk_drewN ?_ _ | refine blk_drew ?_ | refine blk_alloc ?_ _)); exact BK206.out) hb)
              have n4_ := Aside0.mk (below_step (by repeat (first | (with_reducible first | exact HB.out | apply below_alloc | apply pw_below_drewN | apply below_drew1 | refine below_set ?_ GE203.out | refine below_set ?_ GE204.out | refine below_set ?_ GE206.out) | exact HB.out)) hb)
              clear HO_5
              clear BK203
              clear BK204
              clear BK206
              clear HB
              have HO_5 := n0_
              have BK203 := n1_
              have BK204 := n2_
              have BK206 := n3_
              have HB := n4_
              clear n0_ n1_ n2_ n3_ n4_
              (try clear hb)
              (try clear hb2)
              (try clear hk)
              (try clear hi)
              refine hK.out _ _ ⟨(blk_cell BK203.out 0).trans rfl, (blk_cell BK203.out 1).trans rfl, (blk_cell BK203.out 2).trans rfl, (blk_cell BK203.out 3).trans rfl, (blk_cell BK203.out 4).trans rfl, (blk_cell BK204.out 0).trans rfl, (blk_cell BK204.out 1).trans rfl, (blk_cell BK206.out 0).trans rfl, (blk_cell BK206.out 1).trans rfl, (blk_cell BK206.out 2).trans rfl, (blk_cell BK206.out 3).trans rfl⟩ (fun hHeld => ?_)
              clear hK K
              refine norm_ (a' := ?_) ?_ ?_
              rotate_left
              ·show Act.put _ (some 30) _ = _
               simp only [Act.put, List.setIfInBounds_toArray, List.set_cons_zero, List.set_cons_succ, i64_w, i32_w]
               rfl
              refine pure_ (i := 12) (N := some 31) (v := ?_) (a' := ?_) #[true, true, true, true, true, true, true, true, true, true, true, true, true, true, true, true, true, true, true, false, true, true, false, true, false, true, true, false, false, false, false, false, false] rfl rfl (any_of HT_.out (by kernel_rfl)) (fun _ _ _ h => h) (Or.inl ⟨by rfl, ?_⟩) ?_ ?_
              rotate_left
              ·intro w'
               go_simp
               with_reducible rfl
              rotate_left
              ·simp only [Act.put, List.setIfInBounds_toArray, List.set_cons_zero, List.set_cons_succ, i64_w, i32_w]
               rfl
              refine one_ (i := 19) (N := some 38) #[true, true, true, true, true, true, true, true, true, true, true, true, true, true, true, true, true, true, true, true, true, true, false, true, false, true, true, false, false, false, false, false, false] rfl rfl (one_of HT_.out (by kernel_rfl)) (by decide) (fun K hK => ?_)
              refine goes_ Tryz.func14 (by kernel_rfl) rfl #[.int .i64 (wrap64 ((wrap64 ((l1_1.length : Int) - 1)) - x12_1))] (by rfl) rfl rfl (by (try simp only [List.map_toArray, List.map_cons, List.map_nil]); first | done | rfl | (simp only [List.length_drop, List.length_take]; rfl)) ?_
              with_reducible refine (items_num.calls kj9 (wrap64 ((wrap64 ((l1_1.length : Int) - 1)) - x12_1)) t208 _ A23.out).mono ?_
              rintro e w30 ⟨rfl, hb⟩
              refine ⟨_, rfl, ?_⟩
              have n0_ := Aside0.mk (Kd.R_below (by (with_reducible repeat (first | apply Kd.R_alloc | apply Kd.R_drewN | apply Kd.R_drew)); exact HO_5.out) hb)
              have n1_ := Aside0.mk (blk_below (g := gb203) (o := .cells #[.string a0_0, .int .i64 a0_1, .slice A0_2 l0_2.length c0_2, .slice A0_3 l0_3.length c0_3, .int .u64 a0_4] 35 (0, 0)) (by (with_reducible repeat (first | refine blk_drewN ?_ _ | refine blk_drew ?_ | refine blk_alloc ?_ _)); exact BK203.out) hb)
              have n2_ := Aside0.mk (blk_below (g := gb204) (o := .cells #[.string a1_0, .slice (some ad205) l1_1.length c1_1] 38 (0, 0)) (by (with_reducible repeat (first | refine blk_drewN ?_ _ | refine blk_drew ?_ | refine blk_alloc ?_ _)); exact BK204.out) hb)
              have n3_ := Aside0.mk (blk_below (g := gb206) (o := .cells #[.int .u64 ((rd_T80 l1_1 x12_1).f0), .string ((rd_T80 l1_1 x12_1).f1), .bool ((rd_T80 l1_1 x12_1).f2), .int .i64 ((rd_T80 l1_1 x12_1).f3)] 80 (0, 0)) (by (with_reducible repeat (first | refine blk_drewN ?_ _ | refine blk_drew ?_ | refine blk_alloc ?_ _)); exact BK206.out) hb)
              have n4_ := Aside0.mk (below_step (by repeat (first | (with_reducible first | exact HB.out | apply below_alloc | apply pw_below_drewN | apply below_drew1 | refine below_set ?_ GE203.out | refine below_set ?_ GE204.out | refine below_set ?_ GE206.out) | exact HB.out)) hb)
              clear HO_5
              clear BK203
              clear BK204
              clear BK206
              clear HB
              have HO_5 := n0_
              have BK203 := n1_
              have BK204 := n2_
              have BK206 := n3_
              have HB := n4_
              clear n0_ n1_ n2_ n3_ n4_
              (try clear hb)
              (try clear hb2)
              (try clear hk)
              (try clear hi)
              refine hK.out _ _ ⟨(blk_cell BK203.out 0).trans rfl, (blk_cell BK203.out 1).trans rfl, (blk_cell BK203.out 2).trans rfl, (blk_cell BK203.out 3).trans rfl, (blk_cell BK203.out 4).trans rfl, (blk_cell BK204.out 0).trans rfl, (blk_cell BK204.out 1).trans rfl, (blk_cell BK206.out 0).trans rfl, (blk_cell BK206.out 1).trans rfl, (blk_cell BK206.out 2).trans rfl, (blk_cell BK206.out 3).trans rfl⟩ (fun hHeld => ?_)
              clear hK K
              refine norm_ (a' := ?_) ?_ ?_
              rotate_left
              ·show Act.put _ (some 38) _ = _
               simp only [Act.put, List.setIfInBounds_toArray, List.set_cons_zero, List.set_cons_succ, i64_w, i32_w]
               rfl
              refine one_ (i := 22) (N := some 41) #[true, true, true, true, true, true, true, true, true, true, true, true, true, true, true, true, true, true, true, true, true, true, true, true, false, true, true, false, false, false, false, false, false] rfl rfl (one_of HT_.out (by kernel_rfl)) (by decide) (fun K hK => ?_)
              refine goes_ Tryz.func14 (by kernel_rfl) rfl #[.int .i64 ((rd_T80 l1_1 x12_1).f3)] (by rfl) rfl rfl (by (try simp only [List.map_toArray, List.map_cons, List.map_nil]); first | done | rfl | (simp only [List.length_drop, List.length_take]; rfl)) ?_
              with_reducible refine (items_num.calls kj9 ((rd_T80 l1_1 x12_1).f3) t209 _ A24.out).mono ?_
              rintro e w31 ⟨rfl, hb⟩
              refine ⟨_, rfl, ?_⟩
              have n0_ := Aside0.mk (Kd.R_below (by (with_reducible repeat (first | apply Kd.R_alloc | apply Kd.R_drewN | apply Kd.R_drew)); exact HO_5.out) hb)
              have n1_ := Aside0.mk (blk_below (g := gb203) (o := .cells #[.string a0_0, .int .i64 a0_1, .slice A0_2 l0_2.length c0_2, .slice A0_3 l0_3.length c0_3, .int .u64 a0_4] 35 (0, 0)) (by (with_reducible repeat (first | refine blk_drewN ?_ _ | refine blk_drew ?_ | refine blk_alloc ?_ _)); exact BK203.out) hb)
              have n2_ := Aside0.mk (blk_below (g := gb204) (o := .cells #[.string a1_0, .slice (some ad205) l1_1.length c1_1] 38 (0, 0)) (by (with_reducible repeat (first | refine blk_drewN ?_ _ | refine blk_drew ?_ | refine blk_alloc ?_ _)); exact BK204.out) hb)
              have n3_ := Aside0.mk (blk_below (g := gb206) (o := .cells #[.int .u64 ((rd_T80 l1_1 x12_1).f0), .string ((rd_T80 l1_1 x12_1).f1), .bool ((rd_T80 l1_1 x12_1).f2), .int .i64 ((rd_T80 l1_1 x12_1).f3)] 80 (0, 0)) (by (with_reducible repeat (first | refine blk_drewN ?_ _ | refine blk_drew ?_ | refine blk_alloc ?_ _)); exact BK206.out) hb)
              have n4_ := Aside0.mk (below_step (by repeat (first | (with_reducible first | exact HB.out | apply below_alloc | apply pw_below_drewN | apply below_drew1 | refine below_set ?_ GE203.out | refine below_set ?_ GE204.out | refine below_set ?_ GE206.out) | exact HB.out)) hb)
              clear HO_5
              clear BK203
              clear BK204
              clear BK206
              clear HB
              have HO_5 := n0_
              have BK203 := n1_
              have BK204 := n2_
              have BK206 := n3_
              have HB := n4_
              clear n0_ n1_ n2_ n3_ n4_
              (try clear hb)
              (try clear hb2)
              (try clear hk)
              (try clear hi)
              refine hK.out _ _ ⟨(blk_cell BK203.out 0).trans rfl, (blk_cell BK203.out 1).trans rfl, (blk_cell BK203.out 2).trans rfl, (blk_cell BK203.out 3).trans rfl, (blk_cell BK203.out 4).trans rfl, (blk_cell BK204.out 0).trans rfl, (blk_cell BK204.out 1).trans rfl, (blk_cell BK206.out 0).trans rfl, (blk_cell BK206.out 1).trans rfl, (blk_cell BK206.out 2).trans rfl, (blk_cell BK206.out 3).trans rfl⟩ (fun hHeld => ?_)
              clear hK K
              refine norm_ (a' := ?_) ?_ ?_
              rotate_left
              ·show Act.put _ (some 41) _ = _
               simp only [Act.put, List.setIfInBounds_toArray, List.set_cons_zero, List.set_cons_succ, i64_w, i32_w]
               rfl
              refine one_ (i := 24) (N := some 43) #[true, true, true, true, true, true, true, true, true, true, true, true, true, true, true, true, true, true, true, true, true, true, true, true, true, true, true, false, false, false, false, false, false] rfl rfl (one_of HT_.out (by kernel_rfl)) (by decide) (fun K hK => ?_)
              refine goes_ Tryz.func14 (by kernel_rfl) rfl #[.int .i64 x8_9] (by rfl) rfl rfl (by (try simp only [List.map_toArray, List.map_cons, List.map_nil]); first | done | rfl | (simp only [List.length_drop, List.length_take]; rfl)) ?_
              with_reducible refine (items_num.calls kj9 x8_9 t210 _ A25.out).mono ?_
              rintro e w32 ⟨rfl, hb⟩
              refine ⟨_, rfl, ?_⟩
              have n0_ := Aside0.mk (Kd.R_below (by (with_reducible repeat (first | apply Kd.R_alloc | apply Kd.R_drewN | apply Kd.R_drew)); exact HO_5.out) hb)
              have n1_ := Aside0.mk (blk_below (g := gb203) (o := .cells #[.string a0_0, .int .i64 a0_1, .slice A0_2 l0_2.length c0_2, .slice A0_3 l0_3.length c0_3, .int .u64 a0_4] 35 (0, 0)) (by (with_reducible repeat (first | refine blk_drewN ?_ _ | refine blk_drew ?_ | refine blk_alloc ?_ _)); exact BK203.out) hb)
              have n2_ := Aside0.mk (blk_below (g := gb204) (o := .cells #[.string a1_0, .slice (some ad205) l1_1.length c1_1] 38 (0, 0)) (by (with_reducible repeat (first | refine blk_drewN ?_ _ | refine blk_drew ?_ | refine blk_alloc ?_ _)); exact BK204.out) hb)
              have n3_ := Aside0.mk (blk_below (g := gb206) (o := .cells #[.int .u64 ((rd_T80 l1_1 x12_1).f0), .string ((rd_T80 l1_1 x12_1).f1), .bool ((rd_T80 l1_1 x12_1).f2), .int .i64 ((rd_T80 l1_1 x12_1).f3)] 80 (0, 0)) (by (with_reducible repeat (first | refine blk_drewN ?_ _ | refine blk_drew ?_ | refine blk_alloc ?_ _)); exact BK206.out) hb)
              have n4_ := Aside0.mk (below_step (by repeat (first | (with_reducible first | exact HB.out | apply below_alloc | apply pw_below_drewN | apply below_drew1 | refine below_set ?_ GE203.out | refine below_set ?_ GE204.out | refine below_set ?_ GE206.out) | exact HB.out)) hb)
              clear HO_5
              clear BK203
              clear BK204
              clear BK206
              clear HB
              have HO_5 := n0_
              have BK203 := n1_
              have BK204 := n2_
              have BK206 := n3_
              have HB := n4_
              clear n0_ n1_ n2_ n3_ n4_
              (try clear hb)
              (try clear hb2)
              (try clear hk)
              (try clear hi)
              refine hK.out _ _ ⟨(blk_cell BK203.out 0).trans rfl, (blk_cell BK203.out 1).trans rfl, (blk_cell BK203.out 2).trans rfl, (blk_cell BK203.out 3).trans rfl, (blk_cell BK203.out 4).trans rfl, (blk_cell BK204.out 0).trans rfl, (blk_cell BK204.out 1).trans rfl, (blk_cell BK206.out 0).trans rfl, (blk_cell BK206.out 1).trans rfl, (blk_cell BK206.out 2).trans rfl, (blk_cell BK206.out 3).trans rfl⟩ (fun hHeld => ?_)
              clear hK K
              refine norm_ (a' := ?_) ?_ ?_
              rotate_left
              ·show Act.put _ (some 43) _ = _
               simp only [Act.put, List.setIfInBounds_toArray, List.set_cons_zero, List.set_cons_succ, i64_w, i32_w]
               rfl
              refine one_ (i := 27) (N := some 46) #[true, true, true, true, true, true, true, true, true, true, true, true, true, true, true, true, true, true, true, true, true, true, true, true, true, true, true, true, false, false, false, false, false] rfl rfl (one_of HT_.out (by kernel_rfl)) (by decide) (fun K hK => ?_)
              refine Kd.R_lit_step Kd.string _ 9 ?hg (N := 46) ?hd (xs := ([t208, t209, t210, ((rd_T80 l1_1 x12_1).f1)] : List ByteArray)) (inner := [.string t208, .string t209, .string t210, .string ((rd_T80 l1_1 x12_1).f1)]) (ok := fun _ => True) (okp := fun _ => True) ?hr ?hp (fun _ hk => hk) trivial (Below.refl _ _) (Nat.le_refl _) (by simp) ?_; (case hd => rfl); (case hg => rfl); (case hr => first | (go_simp; done) | (go_simp; rfl)); (case hp => exact (Reps.one (show Kd.M Kd.string _ _ _ t208 [.string t208] from rfl) (Reps.one (show Kd.M Kd.string _ _ _ t209 [.string t209] from rfl) (Reps.one (show Kd.M Kd.string _ _ _ t210 [.string t210] from rfl) (Reps.one (show Kd.M Kd.string _ _ _ ((rd_T80 l1_1 x12_1).f1) [.string ((rd_T80 l1_1 x12_1).f1)] from rfl) (Reps.none _ _))))))
              intro v212 w33 ho34 hb hg_ hnew_
              clear hg_ hnew_
              (first | rw [← Ny211.out] at ho34 | (simp only [Int.reduceToNat] at ho34; rw [← Ny211.out] at ho34))
              have n0_ := Aside0.mk (Kd.R_below (by (with_reducible repeat (first | apply Kd.R_alloc | apply Kd.R_drewN | apply Kd.R_drew)); exact HO_5.out) hb)
              have n1_ := Aside0.mk (Kd.R_lower ho34 (below_size (by repeat (first | (with_reducible first | exact HB.out | apply below_alloc | apply pw_below_drewN | apply below_drew1 | refine below_set ?_ GE203.out | refine below_set ?_ GE204.out | refine below_set ?_ GE206.out) | exact HB.out))))
              have n2_ := Aside0.mk (blk_below (g := gb203) (o := .cells #[.string a0_0, .int .i64 a0_1, .slice A0_2 l0_2.length c0_2, .slice A0_3 l0_3.length c0_3, .int .u64 a0_4] 35 (0, 0)) (by (with_reducible repeat (first | refine blk_drewN ?_ _ | refine blk_drew ?_ | refine blk_alloc ?_ _)); exact BK203.out) hb)
              have n3_ := Aside0.mk (blk_below (g := gb204) (o := .cells #[.string a1_0, .slice (some ad205) l1_1.length c1_1] 38 (0, 0)) (by (with_reducible repeat (first | refine blk_drewN ?_ _ | refine blk_drew ?_ | refine blk_alloc ?_ _)); exact BK204.out) hb)
              have n4_ := Aside0.mk (blk_below (g := gb206) (o := .cells #[.int .u64 ((rd_T80 l1_1 x12_1).f0), .string ((rd_T80 l1_1 x12_1).f1), .bool ((rd_T80 l1_1 x12_1).f2), .int .i64 ((rd_T80 l1_1 x12_1).f3)] 80 (0, 0)) (by (with_reducible repeat (first | refine blk_drewN ?_ _ | refine blk_drew ?_ | refine blk_alloc ?_ _)); exact BK206.out) hb)
              have n5_ := Aside0.mk (below_step (by repeat (first | (with_reducible first | exact HB.out | apply below_alloc | apply pw_below_drewN | apply below_drew1 | refine below_set ?_ GE203.out | refine below_set ?_ GE204.out | refine below_set ?_ GE206.out) | exact HB.out)) hb)
              clear HO_5
              clear BK203
              clear BK204
              clear BK206
              clear HB
              have HO_5 := n0_
              have HO213 := n1_
              have BK203 := n2_
              have BK204 := n3_
              have BK206 := n4_
              have HB := n5_
              clear n0_ n1_ n2_ n3_ n4_ n5_
              clear hb ho34
              obtain ⟨Ao35, co35, eo35⟩ := Kd.R_slice HO213.out
              (first | subst eo35 | (injection eo35 with f1_ f2_ f3_; have f4_ := f1_.symm; have f5_ := f3_.symm; clear f1_ f2_ f3_; subst f4_; subst f5_))
              refine hK.out _ _ ⟨(blk_cell BK203.out 0).trans rfl, (blk_cell BK203.out 1).trans rfl, (blk_cell BK203.out 2).trans rfl, (blk_cell BK203.out 3).trans rfl, (blk_cell BK203.out 4).trans rfl, (blk_cell BK204.out 0).trans rfl, (blk_cell BK204.out 1).trans rfl, (blk_cell BK206.out 0).trans rfl, (blk_cell BK206.out 1).trans rfl, (blk_cell BK206.out 2).trans rfl, (blk_cell BK206.out 3).trans rfl⟩ (fun hHeld => ?_)
              clear hK K
              refine norm_ (a' := ?_) ?_ ?_
              rotate_left
              ·show Act.put _ (some 46) _ = _
               simp only [Act.put, List.setIfInBounds_toArray, List.set_cons_zero, List.set_cons_succ, i64_w, i32_w]
               rfl
              refine one_ (i := 28) (N := some 47) #[true, true, true, true, true, true, true, true, true, true, true, true, true, true, true, true, true, true, true, true, true, true, true, true, true, true, true, true, true, false, false, false, false] rfl rfl (one_of HT_.out (by kernel_rfl)) (by decide) (fun K hK => ?_)
              refine goes_ Tryz.func13 (by kernel_rfl) rfl #[.slice Ao35 y211.length co35] (by rfl) rfl rfl (by (try simp only [List.map_toArray, List.map_cons, List.map_nil]); first | done | rfl | (simp only [List.length_drop, List.length_take]; rfl)) ?_
              with_reducible refine (items_val.calls _ _ y211 t214 _ ?side1 ?side2 A26.out).mono ?_
              (case side1 => repeat (first | exact (Kd.R_reads' HO213.out).2.2 | (with_reducible refine Kd.C_alloc ?_ _) | (with_reducible refine Kd.C_drewN ?_ _) | (with_reducible refine Kd.C_drew ?_)))
              (case side2 => exact (Kd.R_reads' HO213.out).2.1)
              rintro e w36 ⟨rfl, hb⟩
              refine ⟨_, rfl, ?_⟩
              have n0_ := Aside0.mk (Kd.R_below (by (with_reducible repeat (first | apply Kd.R_alloc | apply Kd.R_drewN | apply Kd.R_drew)); exact HO_5.out) hb)
              have n1_ := Aside0.mk (Kd.R_below (by (with_reducible repeat (first | apply Kd.R_alloc | apply Kd.R_drewN | apply Kd.R_drew)); exact HO213.out) hb)
              have n2_ := Aside0.mk (blk_below (g := gb203) (o := .cells #[.string a0_0, .int .i64 a0_1, .slice A0_2 l0_2.length c0_2, .slice A0_3 l0_3.length c0_3, .int .u64 a0_4] 35 (0, 0)) (by (with_reducible repeat (first | refine blk_drewN ?_ _ | refine blk_drew ?_ | refine blk_alloc ?_ _)); exact BK203.out) hb)
              have n3_ := Aside0.mk (blk_below (g := gb204) (o := .cells #[.string a1_0, .slice (some ad205) l1_1.length c1_1] 38 (0, 0)) (by (with_reducible repeat (first | refine blk_drewN ?_ _ | refine blk_drew ?_ | refine blk_alloc ?_ _)); exact BK204.out) hb)
              have n4_ := Aside0.mk (blk_below (g := gb206) (o := .cells #[.int .u64 ((rd_T80 l1_1 x12_1).f0), .string ((rd_T80 l1_1 x12_1).f1), .bool ((rd_T80 l1_1 x12_1).f2), .int .i64 ((rd_T80 l1_1 x12_1).f3)] 80 (0, 0)) (by (with_reducible repeat (first | refine blk_drewN ?_ _ | refine blk_drew ?_ | refine blk_alloc ?_ _)); exact BK206.out) hb)
              have n5_ := Aside0.mk (below_step (by repeat (first | (with_reducible first | exact HB.out | apply below_alloc | apply pw_below_drewN | apply below_drew1 | refine below_set ?_ GE203.out | refine below_set ?_ GE204.out | refine below_set ?_ GE206.out) | exact HB.out)) hb)
              clear HO_5
              clear HO213
              clear BK203
              clear BK204
              clear BK206
              clear HB
              have HO_5 := n0_
              have HO213 := n1_
              have BK203 := n2_
              have BK204 := n3_
              have BK206 := n4_
              have HB := n5_
              clear n0_ n1_ n2_ n3_ n4_ n5_
              (try clear hb)
              (try clear hb2)
              (try clear hk)
              (try clear hi)
              refine hK.out _ _ ⟨(blk_cell BK203.out 0).trans rfl, (blk_cell BK203.out 1).trans rfl, (blk_cell BK203.out 2).trans rfl, (blk_cell BK203.out 3).trans rfl, (blk_cell BK203.out 4).trans rfl, (blk_cell BK204.out 0).trans rfl, (blk_cell BK204.out 1).trans rfl, (blk_cell BK206.out 0).trans rfl, (blk_cell BK206.out 1).trans rfl, (blk_cell BK206.out 2).trans rfl, (blk_cell BK206.out 3).trans rfl⟩ (fun hHeld => ?_)
              clear hK K
              refine norm_ (a' := ?_) ?_ ?_
              rotate_left
              ·show Act.put _ (some 47) _ = _
               simp only [Act.put, List.setIfInBounds_toArray, List.set_cons_zero, List.set_cons_succ, i64_w, i32_w]
               rfl
              refine pure_ (i := 29) (N := some 48) (v := ?_) (a' := ?_) #[true, true, true, true, true, true, true, true, true, true, true, true, true, true, true, true, true, true, true, true, true, true, true, true, true, true, true, true, true, true, false, false, false] rfl rfl (any_of HT_.out (by kernel_rfl)) (fun _ _ _ h => h) (Or.inl ⟨by rfl, ?_⟩) ?_ ?_
              rotate_left
              ·intro w'
               go_simp
               with_reducible rfl
              rotate_left
              ·simp only [Act.put, List.setIfInBounds_toArray, List.set_cons_zero, List.set_cons_succ, i64_w, i32_w]
               rfl
              refine one_ (i := 30) (N := some 49) #[true, true, true, true, true, true, true, true, true, true, true, true, true, true, true, true, true, true, true, true, true, true, true, true, true, true, true, true, true, true, true, false, false] rfl rfl (one_of HT_.out (by kernel_rfl)) (by decide) (fun K hK => ?_)
              refine value_ (w1 := ?_) (v := ?_) (by rfl) rfl ?_ ?_
              rotate_left 2
              ·go_simp
               constructor
               ·rfl
               ·rfl
              refine hK.out _ _ ⟨(blk_cell (blk_alloc BK203.out _) 0).trans rfl, (blk_cell (blk_alloc BK203.out _) 1).trans rfl, (blk_cell (blk_alloc BK203.out _) 2).trans rfl, (blk_cell (blk_alloc BK203.out _) 3).trans rfl, (blk_cell (blk_alloc BK203.out _) 4).trans rfl, (blk_cell (blk_alloc BK204.out _) 0).trans rfl, (blk_cell (blk_alloc BK204.out _) 1).trans rfl, (blk_cell (blk_alloc BK206.out _) 0).trans rfl, (blk_cell (blk_alloc BK206.out _) 1).trans rfl, (blk_cell (blk_alloc BK206.out _) 2).trans rfl, (blk_cell (blk_alloc BK206.out _) 3).trans rfl⟩ (fun hHeld => ?_)
              clear hK K
              refine norm_ (a' := ?_) ?_ ?_
              rotate_left
              ·show Act.put _ (some 49) _ = _
               simp only [Act.put, List.setIfInBounds_toArray, List.set_cons_zero, List.set_cons_succ, i64_w, i32_w]
               rfl
              refine one_ (i := 31) (N := some 50) #[true, true, true, true, true, true, true, true, true, true, true, true, true, true, true, true, true, true, true, true, true, true, true, true, true, true, true, true, true, true, true, true, false] rfl rfl (one_of HT_.out (by kernel_rfl)) (by decide) (fun K hK => ?_)
              refine Kd.R_append_step k43 (w0 := w) w.heap.size (by rfl) (.tmp 19) (.tmp 49) 26 43 (.agg #[(.string ⟨#[]⟩), (.string ⟨#[]⟩)]) 32 rfl Tryz.underlying26 info43 rfl (by decide) (by omega) u5 x5_1 (⟨(((((⟨#[118]⟩ : ByteArray) ++ a0_0) ++ (⟨#[10]⟩ : ByteArray)) ++ a1_0) ++ (⟨#[10]⟩ : ByteArray)) ++ t207, t214⟩ : S43) [.string ((((((⟨#[118]⟩ : ByteArray) ++ a0_0) ++ (⟨#[10]⟩ : ByteArray)) ++ a1_0) ++ (⟨#[10]⟩ : ByteArray)) ++ t207), .string t214] (fun _ => True) (fun _ => False) rfl rfl ?aP (fun _ hk => hk.elim) ?aF ?aO ?aB ?aS ?aL ?_
              (case aP => exact k43_mkM _ _ _ (⟨(((((⟨#[118]⟩ : ByteArray) ++ a0_0) ++ (⟨#[10]⟩ : ByteArray)) ++ a1_0) ++ (⟨#[10]⟩ : ByteArray)) ++ t207, t214⟩ : S43))
              (case aB => exact (by repeat (first | (with_reducible first | exact HB.out | apply below_alloc | apply pw_below_drewN | apply below_drew1 | refine below_set ?_ GE203.out | refine below_set ?_ GE204.out | refine below_set ?_ GE206.out) | exact HB.out)))
              (case aF => exact (fun _ _ => trivial))
              (case aO => exact (by (with_reducible repeat (first | apply Kd.R_alloc | apply Kd.R_drewN | apply Kd.R_drew)); exact HO_5.out))
              (case aS => exact (below_size (by repeat (first | (with_reducible first | exact HB.out | apply below_alloc | apply pw_below_drewN | apply below_drew1 | refine below_set ?_ GE203.out | refine below_set ?_ GE204.out | refine below_set ?_ GE206.out) | exact HB.out))))
              (case aL => have := LMc27.out; omega)
              intro v216 w37 ho hb hg hat
              rw [← Ny215.out] at ho
              have n0_ := Aside0.mk (blk_grown (g := gb203) (o := .cells #[.string a0_0, .int .i64 a0_1, .slice A0_2 l0_2.length c0_2, .slice A0_3 l0_3.length c0_3, .int .u64 a0_4] 35 (0, 0)) (by (with_reducible repeat (first | refine blk_drewN ?_ _ | refine blk_drew ?_ | refine blk_alloc ?_ _)); exact BK203.out) hg (Kd.R_ne HO_5.out BK203.out (by decide)))
              have n1_ := Aside0.mk (blk_grown (g := gb204) (o := .cells #[.string a1_0, .slice (some ad205) l1_1.length c1_1] 38 (0, 0)) (by (with_reducible repeat (first | refine blk_drewN ?_ _ | refine blk_drew ?_ | refine blk_alloc ?_ _)); exact BK204.out) hg (Kd.R_ne HO_5.out BK204.out (by decide)))
              have n2_ := Aside0.mk (blk_grown (g := gb206) (o := .cells #[.int .u64 ((rd_T80 l1_1 x12_1).f0), .string ((rd_T80 l1_1 x12_1).f1), .bool ((rd_T80 l1_1 x12_1).f2), .int .i64 ((rd_T80 l1_1 x12_1).f3)] 80 (0, 0)) (by (with_reducible repeat (first | refine blk_drewN ?_ _ | refine blk_drew ?_ | refine blk_alloc ?_ _)); exact BK206.out) hg (Kd.R_ne HO_5.out BK206.out (by decide)))
              have n3_ := Aside0.mk (Kd.R_over' (by (with_reducible repeat (first | apply Kd.R_alloc | apply Kd.R_drewN | apply Kd.R_drew)); exact HO213.out) (Kd.R_typed (by (with_reducible repeat (first | apply Kd.R_alloc | apply Kd.R_drewN | apply Kd.R_drew)); exact HO_5.out)) (by decide) hg)
              have n4_ := Aside0.mk (hb)
              have n5_ := Aside0.mk (ho)
              clear BK203
              clear BK204
              clear BK206
              clear HO213
              clear HB
              clear HO_5
              have BK203 := n0_
              have BK204 := n1_
              have BK206 := n2_
              have HO213 := n3_
              have HB := n4_
              have HO217 := n5_
              clear n0_ n1_ n2_ n3_ n4_ n5_
              clear ho hb hg hat
              refine hK.out _ _ ⟨(blk_cell BK203.out 0).trans rfl, (blk_cell BK203.out 1).trans rfl, (blk_cell BK203.out 2).trans rfl, (blk_cell BK203.out 3).trans rfl, (blk_cell BK203.out 4).trans rfl, (blk_cell BK204.out 0).trans rfl, (blk_cell BK204.out 1).trans rfl, (blk_cell BK206.out 0).trans rfl, (blk_cell BK206.out 1).trans rfl, (blk_cell BK206.out 2).trans rfl, (blk_cell BK206.out 3).trans rfl⟩ (fun hHeld => ?_)
              clear hK K
              refine norm_ (a' := ?_) ?_ ?_
              rotate_left
              ·show Act.put _ (some 50) _ = _
               simp only [Act.put, List.setIfInBounds_toArray, List.set_cons_zero, List.set_cons_succ, i64_w, i32_w]
               rfl
              refine pure_ (i := 32) (N := some 5) (v := ?_) (a' := ?_) #[true, true, true, true, true, true, true, true, true, true, true, true, true, true, true, true, true, true, true, true, true, true, true, true, true, true, true, true, true, true, true, true, true] rfl rfl (any_of HT_.out (by kernel_rfl)) (fun _ _ _ h => h) (Or.inl ⟨by rfl, ?_⟩) ?_ ?_
              rotate_left
              ·intro w'
               go_simp
               with_reducible rfl
              rotate_left
              ·simp only [Act.put, List.setIfInBounds_toArray, List.set_cons_zero, List.set_cons_succ, i64_w, i32_w]
               rfl
              refine done_ (done_of HT_.out (by kernel_rfl)) ?_
              try go_wp2
              go_roundg kj9
              case measure => have := HK1.out; have := HJ9.out; omega
              case rel => exact ⟨(y215), (wrap64 (x12_1 + 1)), (by first | rfl | (simp; done) | (simp [*]; done)), H', ⟨by have := HK1.out; have := HJ9.out; omega⟩, ⟨by (with_reducible repeat (first | apply Kd.R_alloc | apply Kd.R_drewN | apply Kd.R_drew)); exact HO217.out⟩, ⟨by (with_reducible repeat (first | refine blk_drewN ?_ _ | refine blk_drew ?_ | refine blk_alloc ?_ _)); exact BK203.out⟩, ⟨by (with_reducible repeat (first | refine blk_drewN ?_ _ | refine blk_drew ?_ | refine blk_alloc ?_ _)); exact BK204.out⟩, ⟨by repeat (first | (with_reducible first | exact HB.out | apply below_alloc | apply pw_below_drewN | apply below_drew1 | refine below_set ?_ GE203.out | refine below_set ?_ GE204.out | refine below_set ?_ GE206.out) | exact HB.out)⟩⟩
             ·rw [if_neg c27] at H
              exact absurd H (by simp)
            ·rw [if_neg c22] at H
             exact absurd H (by simp)
           ·rw [if_neg c20] at H
            exact absurd H (by simp)
          ·rw [if_neg c19] at H
           exact absurd H (by simp)
         ·rw [if_neg c18] at H
          exact absurd H (by simp)
        ·rw [if_neg c17] at H
         exact absurd H (by simp)
     ·rw [if_neg c9] at H
      exact absurd H (by simp)
    ·rw [if_neg c8] at H
     exact absurd H (by simp)
   ·rw [if_neg c7] at H
    have c7b0 : decide (x12_1 < (l1_1.length : Int)) = false := decide_eq_false c7
    clear c7
    obtain rfl := Option.some.inj H
    go_wp2
    go_ret
    exact ⟨_, by first | rfl | (simp [errW_none, errW_some] <;> rfl) | (simp [*, errW_none, errW_some] <;> rfl), by (with_reducible repeat (first | apply Kd.R_alloc | apply Kd.R_drewN | apply Kd.R_drew)); exact HO_5.out, by repeat (first | (with_reducible first | exact HB.out | apply below_alloc | apply pw_below_drewN | apply below_drew1 | refine below_set ?_ GE203.out | refine below_set ?_ GE204.out) | exact HB.out)⟩

end Go.Proofs.YtafeepdlcilicaaGreat.Q
