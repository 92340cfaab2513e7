/- Of a bucket that is Off, whatever is put and deleted, one thing behind the other, from a new bucket on, each key has one version at the most, the last that was put; no number is given out; whatever the input, as the row says. Part 26 of 26. -/
import Derived.Test.YtekooapbdgippaaGreatDoorBo4
import Derived.Test.YtekooapbdgippaaGreatDoorBo3
import Derived.Maps.OwnSet
import Derived.ProofKit
import Derived.Deep.Strs
import Derived.Lib.SmallJoins
import Derived.Test.YtekooapbdgippaaGreatDoorRows
import Derived.LaidMore
import Derived.OpenShut
import Derived.Stop.Joined
import Derived.Test.YtekooapbdgippaaGreatDoorTie
import Derived.Test.YtekooapbdgippaaGreatDoorCards
import Derived.WalkKit
import Derived.ShutString
import Derived.ChangeOld
import Derived.Below
import Derived.SizedLaws
import Derived.SevenTiedAt
namespace Go.Proofs.YtekooapbdgippaaGreatDoor.Q
open Go.RowKit Go.Proofs.YtekooapbdgippaaGreatDoorW.PrintWords Go.Proofs.YtekooapbdgippaaGreatDoorW.PrintLast Go.Proofs.YtekooapbdgippaaGreatDoorW.PrintMore
open List renaming getElem_toArray → zA, getElem_cons_zero → zB, getElem_cons_succ → zC, setIfInBounds_toArray → zD, set_cons_zero → zE, set_cons_succ → zF
set_option linter.unusedVariables false
set_option linter.unusedSimpArgs false
set_option maxHeartbeats 8000000
set_option maxRecDepth 100000
section
open Go.WideMaps Go.Maps
attribute [local go_sem] Oper.semAt_some
section
variable {P : Program} {o : Oper} {a : Act} {Q : Exit → Act → World → Prop} {K : Act → World → Prop}
/-- a box made in a drawn region: its block and the world letters -/
theorem wp_box_row {W : World} {N : Tmp} (hd : o.dst = some N) {cs : Array Value} {t : TypeId}
  (hrun : (execOp a.eval o).run P W = .ok (.value (.pointer (some ⟨W.heap.size, 0, none⟩))) (W.alloc (.cells cs t (0, 0))))
  (h : ∀ g, g = W.heap.size → ∀ w1, w1.heap[g]? = some (.cells cs t (0, 0)) → Below W.heap.size W w1 → K (a.put o.dst (.pointer (some ⟨g, 0, none⟩))) w1) : Oper.wp P o a W K Q := by
 unfold Oper.wp
 rw [hrun]
 exact h _ rfl _ (blk_new W _) (below_alloc (Below.refl _ _) _)
end
theorem whole_gg (b : S26) (A2 A3 : Option Addr) (c2 c3 : Nat) (id : Int) (ps : List S43) (A : Option Addr) (c : Nat) (q : Int) (w : World) (h2 : Kd.C k56 w A2 b.f2.length b.f2) (g2 : b.f2.length ≤ c2) (h3 : Kd.C k101 w A3 b.f3.length b.f3) (g3 : b.f3.length ≤ c3) (hl : ps.length < 100) (h4 : Kd.C k43 w A ps.length ps) (he0 : openR b anyK = 0) (u : S101) (hf : findR b.f3 id = (u, 0)) (data tx : ByteArray) (hw : wholeR u ps = (data, tx, 0)) (r3 : List S101) (hr : abortR b.f3 id = (r3, 0)) (pb : S26) (pl : Int) (hp : laidR (⟨b.f0, b.f1, b.f2, r3, b.f4⟩ : S26) u.f1 (fun l id => putV l b.f1 ⟨id, data, false, q⟩) = (pb, pl, 0)) :
  Calls Tryz.prog 17 #[.agg #[.string b.f0, .int .i64 b.f1, .slice A2 b.f2.length c2, .slice A3 b.f3.length c3, .int .u64 b.f4], .int .u64 id, .slice A ps.length c, .int .i64 q] w (BkPost pb [.int .u64 pl, .string tx, .int .i64 0] w) := by
 have H2 := zh (fun (W : World) (h : Below w.heap.size w W) => Kd.C_below h2 h)
 have H3 := zh (fun (W : World) (h : Below w.heap.size w W) => Kd.C_below h3 h)
 have HOP := zh (fun (W : World) (h : Below w.heap.size w W) => open.walk b A2 A3 c2 c3 anyK W (Kd.C_below h2 h) g2 (Kd.C_below h3 h) g3)
 rw [he0] at HOP
 have HFD := zh (fun (W : World) (h : Below w.heap.size w W) => find.walk A3 c3 b.f3 id W (Kd.C_below h3 h) g3)
 unfold FindPost at HFD
 rw [hf] at HFD
 dsimp only at HFD
 have HWH := zh (fun (A7 : Option Addr) (c7 : Nat) (W : World) (hW : Below w.heap.size w W) (hC : Kd.C k40 W A7 u.f2.length u.f2) (hc : u.f2.length ≤ c7) => whole.walk u A7 c7 A c ps W hl hC hc (Kd.C_below h4 hW))
 rw [hw] at HWH
 unfold wholeV at HWH
 dsimp only at HWH
 have n00 : noR false 0 0 = 0 := by unfold noR; rw [if_neg (by decide)]
 have n01 : noR (!((0 : Int) == 0)) 0 0 = 0 := n00
 have HN1 := zh (fun (g : Nat) (W : World) hW => no.walk g (.string b.f0) (.int .i64 b.f1) (.slice A2 b.f2.length c2) (.slice A3 b.f3.length c3) (.int .u64 b.f4) 0 0 false W hW)
 rw [n00] at HN1
 have HN2 := HN1
 have HAB := zh (fun (W : World) (h : Below w.heap.size w W) => abort.walk A3 c3 b.f3 id W (Kd.C_below h3 h) g3)
 rw [hr] at HAB
 have HUP := zh (fun (g : Nat) (A4 : Option Addr) (c4 : Nat) (W : World) hW => uploadsW.walk g (.string b.f0) (.int .i64 b.f1) (.slice A2 b.f2.length c2) (.slice A3 b.f3.length c3) (.int .u64 b.f4) A4 r3.length c4 0 0 W hW)
 rw [n01] at HUP
 have HPT := zh (fun (A4 : Option Addr) (c4 : Nat) (W : World) (hW : Below w.heap.size w W) (hC : Kd.C k101 W A4 r3.length r3) (hc : r3.length ≤ c4) => putB.walk (⟨b.f0, b.f1, b.f2, r3, b.f4⟩ : S26) A2 A4 c2 c4 u.f1 data q W (Kd.C_below h2 hW) g2 hC hc)
 dsimp only at HPT
 rw [hp] at HPT
 have G2 := zh g2
 have G3 := zh g3
 have HB := zh (Below.refl w.heap.size w)
 clear h2 h3 g2 g3 h4 hl he0 hf hw hr hp n00 n01
 go_enter Tryz.func17, Tryz.ntmps17
 go_wp2_with (first
  | ((with_reducible refine gate_dst (N := 4) rfl ?_); go_must (refine box_event ?hg (N := 4) ?hd (cs := #[.string b.f0, .int .i64 b.f1, .slice A2 b.f2.length c2, .slice A3 b.f3.length c3, .int .u64 b.f4]) (t := 26) ?hr ?_; (case hd => rfl); (case hg => rfl); (case hr => first | (go_simp; done) | (go_simp; rfl)); intro gb hqgb w1 hbgb hbelgb; have Kgb := zh hbgb; have Lgb := zh (show w.heap.size ≤ gb by rw [hqgb]; exact HB.out.size); have HB := keepB HB hbelgb; clear hbgb hbelgb hqgb))
  | ((with_reducible refine gate_dst (N := 8) rfl ?_); go_must (refine box_event ?hg (N := 8) ?hd (cs := #[.string ⟨#[]⟩, .int .i64 0, .slice none 0 0, .slice none 0 0, .int .u64 0]) (t := 26) ?hr ?_; (case hd => rfl); (case hg => rfl); (case hr => first | (go_simp; done) | (go_simp; rfl)); intro go hqgo w3 hbgo hbelgo; have Kgo := zh hbgo; have Lgo := zh (show w.heap.size ≤ go by rw [hqgo]; exact HB.out.size); have HB := keepB HB hbelgo; have M2 := zh (show gb < go by rw [hqgo]; exact blk_lt Kgb.out); have Kgb := zk Kgb hbelgo; have a0 := zb Kgb.out 0 (.string b.f0); have a1 := zb Kgb.out 1 (.int .i64 b.f1); have a2 := zb Kgb.out 2 (.slice A2 b.f2.length c2); have a3 := zb Kgb.out 3 (.slice A3 b.f3.length c3); have a4 := zb Kgb.out 4 (.int .u64 b.f4); clear hbgo hbelgo hqgo))
  | (go_at_call 32; go_must (refine (HOP.out _ HB.out).mono ?_; rintro e w4 ⟨g, rfl, hgl, hk, hb⟩; have Kg := hk; have M3 := zh (show go < g from Nat.lt_of_lt_of_le (blk_lt Kgo.out) hgl); have HB := keepB HB hb.out; have Kgb := zk Kgb hb.out; have Kgo := zk Kgo hb.out; have k3 := zb Kg.out 3 (.slice A3 b.f3.length c3); clear hk hb hgl a0 a1 a2 a3 a4))
  | (go_at_call 44; go_must (refine (HFD.out _ HB.out).mono ?_; rintro e w5 ⟨A7, c7, rfl, hc7, hC5, hb⟩; have HC5 := zh hC5; have HG5 := zh hc7; have HB := keepB HB hb; have Kgb := zk Kgb hb; have Kgo := zk Kgo hb; have Kg := zk Kg hb; clear hb hC5 hc7 k3))
  | ((with_reducible refine gate_dst (N := 13) rfl ?_); go_must (refine box_event ?hg (N := 13) ?hd (cs := #[.int .u64 0, .string ⟨#[]⟩, .slice none 0 0]) (t := 101) ?hr ?_; (case hd => rfl); (case hg => rfl); (case hr => first | (go_simp; done) | (go_simp; rfl)); intro gu hqgu w6 hbgu hbelgu; have Kgu := zh hbgu; have Lgu := zh (show w.heap.size ≤ gu by rw [hqgu]; exact HB.out.size); have HB := keepB HB hbelgu; have M4 := zh (show g < gu by rw [hqgu]; exact blk_lt Kg.out); have HD := zh hbelgu; have LD5 := zh (show w5.heap.size ≤ gu by rw [hqgu]; exact Nat.le_refl _); have Kgb := zk Kgb hbelgu; have Kgo := zk Kgo hbelgu; have Kg := zk Kg hbelgu; clear hbgu hbelgu hqgu))
  | ((with_reducible refine gate_store (t := 101) (p := 13) (v := .tmp 29) rfl ?_); go_must (refine wpList_store_row rfl rfl 101 (.tmp 13) (.tmp 29) rfl gu 0 _ 101 (.agg #[.int .u64 u.f0, .string u.f1, .slice A7 u.f2.length c7]) [.int .u64 u.f0, .string u.f1, .slice A7 u.f2.length c7] rfl rfl Kgu.out rfl (by kernel_rfl) (by show 0 + 3 ≤ 3; decide) (by simp [Value.oneCell']) ?_; intro w7 hk ho; have HC5 := zc HC5 (ho.out.below HD.out HD.out.size LD5.out); have Kgu : Hid (w7.heap[gu]? = some (.cells #[.int .u64 u.f0, .string u.f1, .slice A7 u.f2.length c7] 101 (0, 0))) := hk; have HB := zo ho HB Lgu; have Kgb := zl ho Kgb (by have := M2.out; have := M3.out; have := M4.out; omega); have Kgo := zl ho Kgo (by have := M2.out; have := M3.out; have := M4.out; omega); have Kg := zl ho Kg (by have := M2.out; have := M3.out; have := M4.out; omega); have MK1 := zh True.intro; clear HD LD5; clear hk ho))
  | (go_at_call 45; go_must (first
   | (clear MK1; refine (HN1.out g _ Kg.out).mono ?_; rintro e w8 ⟨rfl, hk, ho⟩; have HC5 := zh (keepPt HC5.out Kg.out (work_like b.f0 b.f1 A2 b.f2.length c2 A3 b.f3.length c3 b.f4 0) ho.out); have Kg := hk; have HB := zh (ho.out.below HB.out HB.out.size (by have := Lgo.out; have := M3.out; omega)); have Kgb := zl ho Kgb (by have := M2.out; have := M3.out; have := M4.out; omega); have Kgo := zl ho Kgo (by have := M2.out; have := M3.out; have := M4.out; omega); have Kgu := zl ho Kgu (by have := M2.out; have := M3.out; have := M4.out; omega); have u0 := zb Kgu.out 0 (.int .u64 u.f0); have u1 := zb Kgu.out 1 (.string u.f1); have u2 := zb Kgu.out 2 (.slice A7 u.f2.length c7); have MK2 := zh True.intro; clear hk ho)
   | (clear MK2; refine (HN2.out g _ Kg.out).mono ?_; rintro e w8 ⟨rfl, hk, ho⟩; have HC5 := zh (keepPt HC5.out Kg.out (work_like b.f0 b.f1 A2 b.f2.length c2 A3 b.f3.length c3 b.f4 0) ho.out); have Kg := hk; have HB := zh (ho.out.below HB.out HB.out.size (by have := Lgo.out; have := M3.out; omega)); have Kgb := zl ho Kgb (by have := M2.out; have := M3.out; have := M4.out; omega); have Kgo := zl ho Kgo (by have := M2.out; have := M3.out; have := M4.out; omega); have Kgu := zl ho Kgu (by have := M2.out; have := M3.out; have := M4.out; omega); have k3 := zb Kg.out 3 (.slice A3 b.f3.length c3); have k5 := zb Kg.out 5 (.int .i64 0); clear hk ho)))
  | (go_at_call 46; go_must (refine (HWH.out A7 c7 _ HB.out HC5.out HG5.out).mono ?_; rintro e w9 ⟨rfl, hb⟩; have HC5 := zc HC5 hb; have HB := keepB HB hb; have Kgb := zk Kgb hb; have Kgo := zk Kgo hb; have Kg := zk Kg hb; have Kgu := zk Kgu hb; clear hb u0 u1 u2))
  | (go_at_call 47; go_must (refine (HAB.out _ HB.out).mono ?_; rintro e w10 ⟨A4, c4, rfl, hc4, hC4, hb⟩; have HC4 := zh hC4; have HB := keepB HB hb; have Kgb := zk Kgb hb; have Kgo := zk Kgo hb; have Kg := zk Kg hb; have Kgu := zk Kgu hb; clear hb hC4 k3 k5))
  | (go_at_call 34; go_must (refine (HUP.out g A4 c4 _ Kg.out).mono ?_; rintro e w11 ⟨rfl, hk, ho⟩; have HC4 := zh (keepU HC4.out Kg.out (work_like b.f0 b.f1 A2 b.f2.length c2 A3 b.f3.length c3 b.f4 0) ho.out); have Kg := hk; have HB := zh (ho.out.below HB.out HB.out.size (by have := Lgo.out; have := M3.out; omega)); have Kgb := zl ho Kgb (by have := M2.out; have := M3.out; have := M4.out; omega); have Kgo := zl ho Kgo (by have := M2.out; have := M3.out; have := M4.out; omega); have Kgu := zl ho Kgu (by have := M2.out; have := M3.out; have := M4.out; omega); have k5 := zb Kg.out 5 (.int .i64 0); clear hk ho)))
 refine wp_region_held_drew (S := fun W => W.heap[g]? = some (.cells #[.string b.f0, .int .i64 b.f1, .slice A2 b.f2.length c2, .slice A4 r3.length c4, .int .u64 b.f4, .int .i64 0] 87 (0, 0)) ∧ W.cell? ⟨g, 0, none⟩ = some (.string b.f0) ∧ W.cell? ⟨g, 1, none⟩ = some (.int .i64 b.f1) ∧ W.cell? ⟨g, 2, none⟩ = some (.slice A2 b.f2.length c2) ∧ W.cell? ⟨g, 3, none⟩ = some (.slice A4 r3.length c4) ∧ W.cell? ⟨g, 4, none⟩ = some (.int .u64 b.f4) ∧ W.heap[gu]? = some (.cells #[.int .u64 u.f0, .string u.f1, .slice A7 u.f2.length c7] 101 (0, 0)) ∧ W.cell? ⟨gu, 1, none⟩ = some (.string u.f1) ∧ W.heap[gb]? = some (.cells #[.string b.f0, .int .i64 b.f1, .slice A2 b.f2.length c2, .slice A3 b.f3.length c3, .int .u64 b.f4] 26 (0, 0)) ∧ W.heap[go]? = some (.cells #[.string ⟨#[]⟩, .int .i64 0, .slice none 0 0, .slice none 0 0, .int .u64 0] 26 (0, 0)) ∧ Kd.C k101 W A4 r3.length r3 ∧ Below w.heap.size w W) (by kernel_rfl) ?_ (fun hHeld => ?_)
 ·exact ⟨blk_drew Kg.out, (blk_cell (blk_drew Kg.out) 0).trans rfl, (blk_cell (blk_drew Kg.out) 1).trans rfl, (blk_cell (blk_drew Kg.out) 2).trans rfl, (blk_cell (blk_drew Kg.out) 3).trans rfl, (blk_cell (blk_drew Kg.out) 4).trans rfl, blk_drew Kgu.out, (blk_cell (blk_drew Kgu.out) 1).trans rfl, blk_drew Kgb.out, blk_drew Kgo.out, Kd.C_below HC4.out (below_drew (Below.refl _ _)), HB.out.drew⟩
 clear Kg Kgo Kgb Kgu HB k5 HC4 HC5
 refine tk (i := 0) (v := ?v0g1) rfl hHeld (Or.inl ⟨rfl, ?y0g1⟩) ?r0g1
 case y0g1 => (intro w h; obtain ⟨s0, s1, s2, s3, s4, s5, s6, s7, s8, s9, s10, s11⟩ := h; go_simp; try with_reducible rfl)
 try simp only [zA, zB, zC, Act.put, zD, zE, zF]
 refine tk (i := 1) (v := ?v1g1) rfl hHeld (Or.inl ⟨rfl, ?y1g1⟩) ?r1g1
 case y1g1 => (intro w h; obtain ⟨s0, s1, s2, s3, s4, s5, s6, s7, s8, s9, s10, s11⟩ := h; go_simp; try with_reducible rfl)
 try simp only [zA, zB, zC, Act.put, zD, zE, zF]
 refine tk (i := 2) (v := ?v2g1) rfl hHeld (Or.inl ⟨rfl, ?y2g1⟩) ?r2g1
 case y2g1 => (intro w h; obtain ⟨s0, s1, s2, s3, s4, s5, s6, s7, s8, s9, s10, s11⟩ := h; go_simp; try with_reducible rfl)
 try simp only [zA, zB, zC, Act.put, zD, zE, zF]
 refine tk (i := 3) (v := ?v3g1) rfl hHeld (Or.inl ⟨rfl, ?y3g1⟩) ?r3g1
 case y3g1 => (intro w h; obtain ⟨s0, s1, s2, s3, s4, s5, s6, s7, s8, s9, s10, s11⟩ := h; go_simp; try with_reducible rfl)
 try simp only [zA, zB, zC, Act.put, zD, zE, zF]
 refine tk (i := 4) (v := ?v4g1) rfl hHeld (Or.inl ⟨rfl, ?y4g1⟩) ?r4g1
 case y4g1 => (intro w h; obtain ⟨s0, s1, s2, s3, s4, s5, s6, s7, s8, s9, s10, s11⟩ := h; go_simp; try with_reducible rfl)
 try simp only [zA, zB, zC, Act.put, zD, zE, zF]
 refine tk (i := 5) (v := ?v5g1) rfl hHeld (Or.inl ⟨rfl, ?y5g1⟩) ?r5g1
 case y5g1 => (intro w h; obtain ⟨s0, s1, s2, s3, s4, s5, s6, s7, s8, s9, s10, s11⟩ := h; go_simp; try with_reducible rfl)
 try simp only [zA, zB, zC, Act.put, zD, zE, zF]
 refine tk (i := 6) (v := ?v6g1) rfl hHeld (Or.inl ⟨rfl, ?y6g1⟩) ?r6g1
 case y6g1 => (intro w h; obtain ⟨s0, s1, s2, s3, s4, s5, s6, s7, s8, s9, s10, s11⟩ := h; go_simp; try with_reducible rfl)
 try simp only [zA, zB, zC, Act.put, zD, zE, zF]
 refine tk (i := 7) (v := ?v7g1) rfl hHeld (Or.inl ⟨rfl, ?y7g1⟩) ?r7g1
 case y7g1 => (intro w h; obtain ⟨s0, s1, s2, s3, s4, s5, s6, s7, s8, s9, s10, s11⟩ := h; go_simp; try with_reducible rfl)
 try simp only [zA, zB, zC, Act.put, zD, zE, zF]
 refine wpAnyH_ready (rs := [8, 13]) (by kernel_rfl) (by simp) ?_
 refine AllReadyH.cons (o := _) rfl (fun K hK => ?_) (AllReadyH.cons (o := _) rfl (fun K hK => ?_) AllReadyH.nil)
 ·skip
  rw [if_pos (by rfl)]
  go_simp
  obtain ⟨s0, s1, s2, s3, s4, s5, s6, s7, s8, s9, s10, s11⟩ := hHeld
  refine (HPT.out A4 c4 _ s11 s10 hc4).mono ?_
  rintro e8 w8 ⟨v8, rfl, ⟨A5, c5, A6, c6, rfl, y1, y2, y3, y4⟩, hb8⟩
  have Y3 := zh y3
  have Y4 := zh y4
  clear y3 y4
  refine hK.out _ _ ⟨blk_below s0 hb8, keepc hb8 s1, keepc hb8 s2, keepc hb8 s3, keepc hb8 s4, keepc hb8 s5, blk_below s6 hb8, keepc hb8 s7, blk_below s8 hb8, blk_below s9 hb8, Kd.C_below s10 hb8, s11.trans (hb8.mono s11.size)⟩ (fun hHeld => ?_)
  clear hK K hb8 s0 s1 s2 s3 s4 s5 s6 s7 s8 s9 s10 s11
  try simp only [zA, zB, zC, Act.put, zD, zE, zF]
  refine tk (i := 9) (v := ?v9g1a) rfl hHeld (Or.inl ⟨rfl, ?y9g1a⟩) ?r9g1a
  case y9g1a => (intro w h; obtain ⟨s0, s1, s2, s3, s4, s5, s6, s7, s8, s9, s10, s11⟩ := h; go_simp; try with_reducible rfl)
  try simp only [zA, zB, zC, Act.put, zD, zE, zF]
  refine tk (i := 10) (v := ?v10g1a) rfl hHeld (Or.inl ⟨rfl, ?y10g1a⟩) ?r10g1a
  case y10g1a => (intro w h; obtain ⟨s0, s1, s2, s3, s4, s5, s6, s7, s8, s9, s10, s11⟩ := h; go_simp; try with_reducible rfl)
  try simp only [zA, zB, zC, Act.put, zD, zE, zF]
  refine tk (i := 11) (v := ?v11g1a) rfl hHeld (Or.inl ⟨rfl, ?y11g1a⟩) ?r11g1a
  case y11g1a => (intro w h; obtain ⟨s0, s1, s2, s3, s4, s5, s6, s7, s8, s9, s10, s11⟩ := h; go_simp; try with_reducible rfl)
  try simp only [zA, zB, zC, Act.put, zD, zE, zF]
  refine tk (i := 12) (v := ?v12g1a) rfl hHeld (Or.inl ⟨rfl, ?y12g1a⟩) ?r12g1a
  case y12g1a => (intro w h; obtain ⟨s0, s1, s2, s3, s4, s5, s6, s7, s8, s9, s10, s11⟩ := h; go_simp; try with_reducible rfl)
  try simp only [zA, zB, zC, Act.put, zD, zE, zF]
  refine wpAnyH_ready (rs := [13]) (by kernel_rfl) (by simp) ?_
  refine AllReadyH.cons (o := _) rfl (fun K hK => ?_) AllReadyH.nil
  rw [if_pos (by rfl)]
  obtain ⟨s0, s1, s2, s3, s4, s5, s6, s7, s8, s9, s10, s11⟩ := hHeld
  refine wp_box_row (N := 17) rfl (cs := #[.string ⟨#[]⟩, .int .i64 0, .slice none 0 0, .slice none 0 0, .int .u64 0]) (t := 26) (by first | (go_simp; done) | (go_simp; rfl)) ?_
  intro gx hgx w12 hkx hbx
  have Kgx := zh hkx
  have M5 := zh (show go < gx by rw [hgx]; exact blk_lt s9)
  have M6 := zh (show g < gx by rw [hgx]; exact blk_lt s0)
  have M7 := zh (show gu < gx by rw [hgx]; exact blk_lt s6)
  have Lgx := zh (show w.heap.size ≤ gx by rw [hgx]; exact s11.size)
  have Y3 := zc Y3 hbx
  have Y4 := zc Y4 hbx
  refine hK.out _ _ ⟨blk_below s0 hbx, keepc hbx s1, keepc hbx s2, keepc hbx s3, keepc hbx s4, keepc hbx s5, blk_below s6 hbx, keepc hbx s7, blk_below s8 hbx, blk_below s9 hbx, Kd.C_below s10 hbx, s11.trans (hbx.mono s11.size)⟩ (fun hHeld => ?_)
  clear hK K hkx hbx hgx s0 s1 s2 s3 s4 s5 s6 s7 s8 s9 s10 s11
  try simp only [zA, zB, zC, Act.put, zD, zE, zF]
  refine wpAnyH_ready (rs := [14]) (by kernel_rfl) (by simp) ?_
  refine AllReadyH.cons (o := _) rfl (fun K hK => ?_) AllReadyH.nil
  rw [if_pos (by rfl)]
  obtain ⟨s0, s1, s2, s3, s4, s5, s6, s7, s8, s9, s10, s11⟩ := hHeld
  refine wp_store_row rfl 26 (.tmp 17) (.tmp 84) rfl gx 0 _ 26 (.agg #[.string pb.f0, .int .i64 pb.f1, .slice A5 pb.f2.length c5, .slice A6 pb.f3.length c6, .int .u64 pb.f4]) [.string pb.f0, .int .i64 pb.f1, .slice A5 pb.f2.length c5, .slice A6 pb.f3.length c6, .int .u64 pb.f4] rfl rfl Kgx.out rfl isz_bucket (by show 0 + 5 ≤ 5; decide) (by simp [Value.oneCell']) ?_
  intro w14 hk ho
  have Y3 := zh (keepE Y3.out Kgx.out (bk_like _ _ _ _ _ _ _ _ _) ho.out)
  have Y4 := zh (keepU Y4.out Kgx.out (bk_like _ _ _ _ _ _ _ _ _) ho.out)
  have C4 := zh (keepU s10 Kgx.out (bk_like _ _ _ _ _ _ _ _ _) ho.out)
  have Kgx : Hid (w14.heap[gx]? = some (.cells #[.string pb.f0, .int .i64 pb.f1, .slice A5 pb.f2.length c5, .slice A6 pb.f3.length c6, .int .u64 pb.f4] 26 (0, 0))) := hk
  have HB := zh (ho.out.below s11 s11.size Lgx.out)
  have Kg := zh (ho.out.blk s0 (by have := M6.out; omega))
  have Kgu := zh (ho.out.blk s6 (by have := M7.out; omega))
  have Kgb := zh (ho.out.blk s8 (by have := M2.out; have := M5.out; omega))
  have Kgo := zh (ho.out.blk s9 (by have := M5.out; omega))
  refine hK.out _ _ ⟨Kg.out, blk_cell Kg.out 0, blk_cell Kg.out 1, blk_cell Kg.out 2, blk_cell Kg.out 3, blk_cell Kg.out 4, Kgu.out, blk_cell Kgu.out 1, Kgb.out, Kgo.out, C4.out, HB.out⟩ (fun hHeld => ?_)
  clear hK K hk ho C4 s0 s1 s2 s3 s4 s5 s6 s7 s8 s9 s10 s11
  try simp only [zA, zB, zC, Act.put, zD, zE, zF]
  refine tk (i := 15) (v := ?v15g1a) rfl hHeld (Or.inl ⟨rfl, ?y15g1a⟩) ?r15g1a
  case y15g1a => (intro w h; obtain ⟨s0, s1, s2, s3, s4, s5, s6, s7, s8, s9, s10, s11⟩ := h; go_simp; try with_reducible rfl)
  try simp only [zA, zB, zC, Act.put, zD, zE, zF]
  refine tk (i := 16) (v := ?v16g1a) rfl hHeld (Or.inl ⟨rfl, ?y16g1a⟩) ?r16g1a
  case y16g1a => (intro w h; obtain ⟨s0, s1, s2, s3, s4, s5, s6, s7, s8, s9, s10, s11⟩ := h; go_simp; try with_reducible rfl)
  try simp only [zA, zB, zC, Act.put, zD, zE, zF]
  refine wpAnyH_done (by kernel_rfl) ?_ _
  have p0 := zb Kgx.out 0 (.string pb.f0)
  have p1 := zb Kgx.out 1 (.int .i64 pb.f1)
  have p2 := zb Kgx.out 2 (.slice A5 pb.f2.length c5)
  have p3 := zb Kgx.out 3 (.slice A6 pb.f3.length c6)
  have p4 := zb Kgx.out 4 (.int .u64 pb.f4)
  clear hHeld Kg Kgu
  go_wp2_with (((with_reducible refine gate_store (t := 26) (p := 8) (v := .tmp 91) rfl ?_); go_must (refine wpList_store_row rfl rfl 26 (.tmp 8) (.tmp 91) rfl go 0 _ 26 (.agg #[.string pb.f0, .int .i64 pb.f1, .slice A5 pb.f2.length c5, .slice A6 pb.f3.length c6, .int .u64 pb.f4]) [.string pb.f0, .int .i64 pb.f1, .slice A5 pb.f2.length c5, .slice A6 pb.f3.length c6, .int .u64 pb.f4] rfl rfl Kgo.out rfl isz_bucket (by show 0 + 5 ≤ 5; decide) (by simp [Value.oneCell']) ?_; intro w15 hk ho; have Y3 := zh (keepE Y3.out Kgo.out (bk_like _ _ _ _ _ _ _ _ _) ho.out); have Y4 := zh (keepU Y4.out Kgo.out (bk_like _ _ _ _ _ _ _ _ _) ho.out); have HB := zo ho HB Lgo; have z0 := zb hk.out 0 (.string pb.f0); have z1 := zb hk.out 1 (.int .i64 pb.f1); have z2 := zb hk.out 2 (.slice A5 pb.f2.length c5); have z3 := zb hk.out 3 (.slice A6 pb.f3.length c6); have z4 := zb hk.out 4 (.int .u64 pb.f4); clear hk ho)))
  refine bodyPost_ret (v := .tuple #[.agg #[.string pb.f0, .int .i64 pb.f1, .slice A5 pb.f2.length c5, .slice A6 pb.f3.length c6, .int .u64 pb.f4], .int .u64 pl, .string tx, .int .i64 0]) (by simp [results, Tryz.results17, go_sem, z0, z1, z2, z3, z4]) rfl ?_
  exact ⟨_, rfl, ⟨A5, c5, A6, c6, rfl, y1, y2, Y3.out, Y4.out⟩, HB.out⟩
 ·skip
  rw [if_pos (by rfl)]
  obtain ⟨s0, s1, s2, s3, s4, s5, s6, s7, s8, s9, s10, s11⟩ := hHeld
  refine wp_box_row (N := 17) rfl (cs := #[.string ⟨#[]⟩, .int .i64 0, .slice none 0 0, .slice none 0 0, .int .u64 0]) (t := 26) (by first | (go_simp; done) | (go_simp; rfl)) ?_
  intro gx hgx w12 hkx hbx
  have Kgx := zh hkx
  have M5 := zh (show go < gx by rw [hgx]; exact blk_lt s9)
  have M6 := zh (show g < gx by rw [hgx]; exact blk_lt s0)
  have M7 := zh (show gu < gx by rw [hgx]; exact blk_lt s6)
  have Lgx := zh (show w.heap.size ≤ gx by rw [hgx]; exact s11.size)
  refine hK.out _ _ ⟨blk_below s0 hbx, keepc hbx s1, keepc hbx s2, keepc hbx s3, keepc hbx s4, keepc hbx s5, blk_below s6 hbx, keepc hbx s7, blk_below s8 hbx, blk_below s9 hbx, Kd.C_below s10 hbx, s11.trans (hbx.mono s11.size)⟩ (fun hHeld => ?_)
  clear hK K hkx hbx hgx s0 s1 s2 s3 s4 s5 s6 s7 s8 s9 s10 s11
  try simp only [zA, zB, zC, Act.put, zD, zE, zF]
  refine wpAnyH_ready (rs := [8]) (by kernel_rfl) (by simp) ?_
  refine AllReadyH.cons (o := _) rfl (fun K hK => ?_) AllReadyH.nil
  rw [if_pos (by rfl)]
  go_simp
  obtain ⟨s0, s1, s2, s3, s4, s5, s6, s7, s8, s9, s10, s11⟩ := hHeld
  refine (HPT.out A4 c4 _ s11 s10 hc4).mono ?_
  rintro e8 w8 ⟨v8, rfl, ⟨A5, c5, A6, c6, rfl, y1, y2, y3, y4⟩, hb8⟩
  have Y3 := zh y3
  have Y4 := zh y4
  clear y3 y4
  have Kgx := zk Kgx hb8
  refine hK.out _ _ ⟨blk_below s0 hb8, keepc hb8 s1, keepc hb8 s2, keepc hb8 s3, keepc hb8 s4, keepc hb8 s5, blk_below s6 hb8, keepc hb8 s7, blk_below s8 hb8, blk_below s9 hb8, Kd.C_below s10 hb8, s11.trans (hb8.mono s11.size)⟩ (fun hHeld => ?_)
  clear hK K hb8 s0 s1 s2 s3 s4 s5 s6 s7 s8 s9 s10 s11
  try simp only [zA, zB, zC, Act.put, zD, zE, zF]
  refine tk (i := 9) (v := ?v9g1b) rfl hHeld (Or.inl ⟨rfl, ?y9g1b⟩) ?r9g1b
  case y9g1b => (intro w h; obtain ⟨s0, s1, s2, s3, s4, s5, s6, s7, s8, s9, s10, s11⟩ := h; go_simp; try with_reducible rfl)
  try simp only [zA, zB, zC, Act.put, zD, zE, zF]
  refine tk (i := 10) (v := ?v10g1b) rfl hHeld (Or.inl ⟨rfl, ?y10g1b⟩) ?r10g1b
  case y10g1b => (intro w h; obtain ⟨s0, s1, s2, s3, s4, s5, s6, s7, s8, s9, s10, s11⟩ := h; go_simp; try with_reducible rfl)
  try simp only [zA, zB, zC, Act.put, zD, zE, zF]
  refine tk (i := 11) (v := ?v11g1b) rfl hHeld (Or.inl ⟨rfl, ?y11g1b⟩) ?r11g1b
  case y11g1b => (intro w h; obtain ⟨s0, s1, s2, s3, s4, s5, s6, s7, s8, s9, s10, s11⟩ := h; go_simp; try with_reducible rfl)
  try simp only [zA, zB, zC, Act.put, zD, zE, zF]
  refine tk (i := 12) (v := ?v12g1b) rfl hHeld (Or.inl ⟨rfl, ?y12g1b⟩) ?r12g1b
  case y12g1b => (intro w h; obtain ⟨s0, s1, s2, s3, s4, s5, s6, s7, s8, s9, s10, s11⟩ := h; go_simp; try with_reducible rfl)
  try simp only [zA, zB, zC, Act.put, zD, zE, zF]
  refine wpAnyH_ready (rs := [14]) (by kernel_rfl) (by simp) ?_
  refine AllReadyH.cons (o := _) rfl (fun K hK => ?_) AllReadyH.nil
  rw [if_pos (by rfl)]
  obtain ⟨s0, s1, s2, s3, s4, s5, s6, s7, s8, s9, s10, s11⟩ := hHeld
  refine wp_store_row rfl 26 (.tmp 17) (.tmp 84) rfl gx 0 _ 26 (.agg #[.string pb.f0, .int .i64 pb.f1, .slice A5 pb.f2.length c5, .slice A6 pb.f3.length c6, .int .u64 pb.f4]) [.string pb.f0, .int .i64 pb.f1, .slice A5 pb.f2.length c5, .slice A6 pb.f3.length c6, .int .u64 pb.f4] rfl rfl Kgx.out rfl isz_bucket (by show 0 + 5 ≤ 5; decide) (by simp [Value.oneCell']) ?_
  intro w14 hk ho
  have Y3 := zh (keepE Y3.out Kgx.out (bk_like _ _ _ _ _ _ _ _ _) ho.out)
  have Y4 := zh (keepU Y4.out Kgx.out (bk_like _ _ _ _ _ _ _ _ _) ho.out)
  have C4 := zh (keepU s10 Kgx.out (bk_like _ _ _ _ _ _ _ _ _) ho.out)
  have Kgx : Hid (w14.heap[gx]? = some (.cells #[.string pb.f0, .int .i64 pb.f1, .slice A5 pb.f2.length c5, .slice A6 pb.f3.length c6, .int .u64 pb.f4] 26 (0, 0))) := hk
  have HB := zh (ho.out.below s11 s11.size Lgx.out)
  have Kg := zh (ho.out.blk s0 (by have := M6.out; omega))
  have Kgu := zh (ho.out.blk s6 (by have := M7.out; omega))
  have Kgb := zh (ho.out.blk s8 (by have := M2.out; have := M5.out; omega))
  have Kgo := zh (ho.out.blk s9 (by have := M5.out; omega))
  refine hK.out _ _ ⟨Kg.out, blk_cell Kg.out 0, blk_cell Kg.out 1, blk_cell Kg.out 2, blk_cell Kg.out 3, blk_cell Kg.out 4, Kgu.out, blk_cell Kgu.out 1, Kgb.out, Kgo.out, C4.out, HB.out⟩ (fun hHeld => ?_)
  clear hK K hk ho C4 s0 s1 s2 s3 s4 s5 s6 s7 s8 s9 s10 s11
  try simp only [zA, zB, zC, Act.put, zD, zE, zF]
  refine tk (i := 15) (v := ?v15g1b) rfl hHeld (Or.inl ⟨rfl, ?y15g1b⟩) ?r15g1b
  case y15g1b => (intro w h; obtain ⟨s0, s1, s2, s3, s4, s5, s6, s7, s8, s9, s10, s11⟩ := h; go_simp; try with_reducible rfl)
  try simp only [zA, zB, zC, Act.put, zD, zE, zF]
  refine tk (i := 16) (v := ?v16g1b) rfl hHeld (Or.inl ⟨rfl, ?y16g1b⟩) ?r16g1b
  case y16g1b => (intro w h; obtain ⟨s0, s1, s2, s3, s4, s5, s6, s7, s8, s9, s10, s11⟩ := h; go_simp; try with_reducible rfl)
  try simp only [zA, zB, zC, Act.put, zD, zE, zF]
  refine wpAnyH_done (by kernel_rfl) ?_ _
  have p0 := zb Kgx.out 0 (.string pb.f0)
  have p1 := zb Kgx.out 1 (.int .i64 pb.f1)
  have p2 := zb Kgx.out 2 (.slice A5 pb.f2.length c5)
  have p3 := zb Kgx.out 3 (.slice A6 pb.f3.length c6)
  have p4 := zb Kgx.out 4 (.int .u64 pb.f4)
  clear hHeld Kg Kgu
  go_wp2_with (((with_reducible refine gate_store (t := 26) (p := 8) (v := .tmp 91) rfl ?_); go_must (refine wpList_store_row rfl rfl 26 (.tmp 8) (.tmp 91) rfl go 0 _ 26 (.agg #[.string pb.f0, .int .i64 pb.f1, .slice A5 pb.f2.length c5, .slice A6 pb.f3.length c6, .int .u64 pb.f4]) [.string pb.f0, .int .i64 pb.f1, .slice A5 pb.f2.length c5, .slice A6 pb.f3.length c6, .int .u64 pb.f4] rfl rfl Kgo.out rfl isz_bucket (by show 0 + 5 ≤ 5; decide) (by simp [Value.oneCell']) ?_; intro w15 hk ho; have Y3 := zh (keepE Y3.out Kgo.out (bk_like _ _ _ _ _ _ _ _ _) ho.out); have Y4 := zh (keepU Y4.out Kgo.out (bk_like _ _ _ _ _ _ _ _ _) ho.out); have HB := zo ho HB Lgo; have z0 := zb hk.out 0 (.string pb.f0); have z1 := zb hk.out 1 (.int .i64 pb.f1); have z2 := zb hk.out 2 (.slice A5 pb.f2.length c5); have z3 := zb hk.out 3 (.slice A6 pb.f3.length c6); have z4 := zb hk.out 4 (.int .u64 pb.f4); clear hk ho)))
  refine bodyPost_ret (v := .tuple #[.agg #[.string pb.f0, .int .i64 pb.f1, .slice A5 pb.f2.length c5, .slice A6 pb.f3.length c6, .int .u64 pb.f4], .int .u64 pl, .string tx, .int .i64 0]) (by simp [results, Tryz.results17, go_sem, z0, z1, z2, z3, z4]) rfl ?_
  exact ⟨_, rfl, ⟨A5, c5, A6, c6, rfl, y1, y2, Y3.out, Y4.out⟩, HB.out⟩
theorem whole_gn (b : S26) (A2 A3 : Option Addr) (c2 c3 : Nat) (id : Int) (ps : List S43) (A : Option Addr) (c : Nat) (q : Int) (w : World) (h2 : Kd.C k56 w A2 b.f2.length b.f2) (g2 : b.f2.length ≤ c2) (h3 : Kd.C k101 w A3 b.f3.length b.f3) (g3 : b.f3.length ≤ c3) (hl : ps.length < 100) (h4 : Kd.C k43 w A ps.length ps) (he0 : openR b anyK = 0) (u : S101) (hf : findR b.f3 id = (u, 0)) (data tx : ByteArray) (hw : wholeR u ps = (data, tx, 0)) (r3 : List S101) (hr : abortR b.f3 id = (r3, 0)) (pb : S26) (pl : Int) (pe : Int) (hz : pe ≠ 0) (hp : laidR (⟨b.f0, b.f1, b.f2, r3, b.f4⟩ : S26) u.f1 (fun l id => putV l b.f1 ⟨id, data, false, q⟩) = (pb, pl, pe)) :
  Calls Tryz.prog 17 #[.agg #[.string b.f0, .int .i64 b.f1, .slice A2 b.f2.length c2, .slice A3 b.f3.length c3, .int .u64 b.f4], .int .u64 id, .slice A ps.length c, .int .i64 q] w (BkPost b [.int .u64 0, .string ⟨#[]⟩, .int .i64 pe] w) := by
 have H2 := zh (fun (W : World) (h : Below w.heap.size w W) => Kd.C_below h2 h)
 have H3 := zh (fun (W : World) (h : Below w.heap.size w W) => Kd.C_below h3 h)
 have HOP := zh (fun (W : World) (h : Below w.heap.size w W) => open.walk b A2 A3 c2 c3 anyK W (Kd.C_below h2 h) g2 (Kd.C_below h3 h) g3)
 rw [he0] at HOP
 have HFD := zh (fun (W : World) (h : Below w.heap.size w W) => find.walk A3 c3 b.f3 id W (Kd.C_below h3 h) g3)
 unfold FindPost at HFD
 rw [hf] at HFD
 dsimp only at HFD
 have HWH := zh (fun (A7 : Option Addr) (c7 : Nat) (W : World) (hW : Below w.heap.size w W) (hC : Kd.C k40 W A7 u.f2.length u.f2) (hc : u.f2.length ≤ c7) => whole.walk u A7 c7 A c ps W hl hC hc (Kd.C_below h4 hW))
 rw [hw] at HWH
 unfold wholeV at HWH
 dsimp only at HWH
 have n00 : noR false 0 0 = 0 := by unfold noR; rw [if_neg (by decide)]
 have n01 : noR (!((0 : Int) == 0)) 0 0 = 0 := n00
 have HN1 := zh (fun (g : Nat) (W : World) hW => no.walk g (.string b.f0) (.int .i64 b.f1) (.slice A2 b.f2.length c2) (.slice A3 b.f3.length c3) (.int .u64 b.f4) 0 0 false W hW)
 rw [n00] at HN1
 have HN2 := HN1
 have HAB := zh (fun (W : World) (h : Below w.heap.size w W) => abort.walk A3 c3 b.f3 id W (Kd.C_below h3 h) g3)
 rw [hr] at HAB
 have HUP := zh (fun (g : Nat) (A4 : Option Addr) (c4 : Nat) (W : World) hW => uploadsW.walk g (.string b.f0) (.int .i64 b.f1) (.slice A2 b.f2.length c2) (.slice A3 b.f3.length c3) (.int .u64 b.f4) A4 r3.length c4 0 0 W hW)
 rw [n01] at HUP
 have HPT := zh (fun (A4 : Option Addr) (c4 : Nat) (W : World) (hW : Below w.heap.size w W) (hC : Kd.C k101 W A4 r3.length r3) (hc : r3.length ≤ c4) => putB.walk (⟨b.f0, b.f1, b.f2, r3, b.f4⟩ : S26) A2 A4 c2 c4 u.f1 data q W (Kd.C_below h2 hW) g2 hC hc)
 dsimp only at HPT
 rw [hp] at HPT
 have q2 : (pe == 0) = false := beq_eq_false_iff_ne.2 hz
 have r2 : (pe != 0) = true := by rw [bne, q2]; rfl
 have G2 := zh g2
 have G3 := zh g3
 have HB := zh (Below.refl w.heap.size w)
 clear h2 h3 g2 g3 h4 hl he0 hf hw hr hp n00 n01 hz
 go_enter Tryz.func17, Tryz.ntmps17
 go_wp2_with (first
  | ((with_reducible refine gate_dst (N := 4) rfl ?_); go_must (refine box_event ?hg (N := 4) ?hd (cs := #[.string b.f0, .int .i64 b.f1, .slice A2 b.f2.length c2, .slice A3 b.f3.length c3, .int .u64 b.f4]) (t := 26) ?hr ?_; (case hd => rfl); (case hg => rfl); (case hr => first | (go_simp; done) | (go_simp; rfl)); intro gb hqgb w1 hbgb hbelgb; have Kgb := zh hbgb; have Lgb := zh (show w.heap.size ≤ gb by rw [hqgb]; exact HB.out.size); have HB := keepB HB hbelgb; clear hbgb hbelgb hqgb))
  | ((with_reducible refine gate_dst (N := 8) rfl ?_); go_must (refine box_event ?hg (N := 8) ?hd (cs := #[.string ⟨#[]⟩, .int .i64 0, .slice none 0 0, .slice none 0 0, .int .u64 0]) (t := 26) ?hr ?_; (case hd => rfl); (case hg => rfl); (case hr => first | (go_simp; done) | (go_simp; rfl)); intro go hqgo w3 hbgo hbelgo; have Kgo := zh hbgo; have Lgo := zh (show w.heap.size ≤ go by rw [hqgo]; exact HB.out.size); have HB := keepB HB hbelgo; have M2 := zh (show gb < go by rw [hqgo]; exact blk_lt Kgb.out); have Kgb := zk Kgb hbelgo; have a0 := zb Kgb.out 0 (.string b.f0); have a1 := zb Kgb.out 1 (.int .i64 b.f1); have a2 := zb Kgb.out 2 (.slice A2 b.f2.length c2); have a3 := zb Kgb.out 3 (.slice A3 b.f3.length c3); have a4 := zb Kgb.out 4 (.int .u64 b.f4); clear hbgo hbelgo hqgo))
  | (go_at_call 32; go_must (refine (HOP.out _ HB.out).mono ?_; rintro e w4 ⟨g, rfl, hgl, hk, hb⟩; have Kg := hk; have M3 := zh (show go < g from Nat.lt_of_lt_of_le (blk_lt Kgo.out) hgl); have HB := keepB HB hb.out; have Kgb := zk Kgb hb.out; have Kgo := zk Kgo hb.out; have k3 := zb Kg.out 3 (.slice A3 b.f3.length c3); clear hk hb hgl a0 a1 a2 a3 a4))
  | (go_at_call 44; go_must (refine (HFD.out _ HB.out).mono ?_; rintro e w5 ⟨A7, c7, rfl, hc7, hC5, hb⟩; have HC5 := zh hC5; have HG5 := zh hc7; have HB := keepB HB hb; have Kgb := zk Kgb hb; have Kgo := zk Kgo hb; have Kg := zk Kg hb; clear hb hC5 hc7 k3))
  | ((with_reducible refine gate_dst (N := 13) rfl ?_); go_must (refine box_event ?hg (N := 13) ?hd (cs := #[.int .u64 0, .string ⟨#[]⟩, .slice none 0 0]) (t := 101) ?hr ?_; (case hd => rfl); (case hg => rfl); (case hr => first | (go_simp; done) | (go_simp; rfl)); intro gu hqgu w6 hbgu hbelgu; have Kgu := zh hbgu; have Lgu := zh (show w.heap.size ≤ gu by rw [hqgu]; exact HB.out.size); have HB := keepB HB hbelgu; have M4 := zh (show g < gu by rw [hqgu]; exact blk_lt Kg.out); have HD := zh hbelgu; have LD5 := zh (show w5.heap.size ≤ gu by rw [hqgu]; exact Nat.le_refl _); have Kgb := zk Kgb hbelgu; have Kgo := zk Kgo hbelgu; have Kg := zk Kg hbelgu; clear hbgu hbelgu hqgu))
  | ((with_reducible refine gate_store (t := 101) (p := 13) (v := .tmp 29) rfl ?_); go_must (refine wpList_store_row rfl rfl 101 (.tmp 13) (.tmp 29) rfl gu 0 _ 101 (.agg #[.int .u64 u.f0, .string u.f1, .slice A7 u.f2.length c7]) [.int .u64 u.f0, .string u.f1, .slice A7 u.f2.length c7] rfl rfl Kgu.out rfl (by kernel_rfl) (by show 0 + 3 ≤ 3; decide) (by simp [Value.oneCell']) ?_; intro w7 hk ho; have HC5 := zc HC5 (ho.out.below HD.out HD.out.size LD5.out); have Kgu : Hid (w7.heap[gu]? = some (.cells #[.int .u64 u.f0, .string u.f1, .slice A7 u.f2.length c7] 101 (0, 0))) := hk; have HB := zo ho HB Lgu; have Kgb := zl ho Kgb (by have := M2.out; have := M3.out; have := M4.out; omega); have Kgo := zl ho Kgo (by have := M2.out; have := M3.out; have := M4.out; omega); have Kg := zl ho Kg (by have := M2.out; have := M3.out; have := M4.out; omega); have MK1 := zh True.intro; clear HD LD5; clear hk ho))
  | (go_at_call 45; go_must (first
   | (clear MK1; refine (HN1.out g _ Kg.out).mono ?_; rintro e w8 ⟨rfl, hk, ho⟩; have HC5 := zh (keepPt HC5.out Kg.out (work_like b.f0 b.f1 A2 b.f2.length c2 A3 b.f3.length c3 b.f4 0) ho.out); have Kg := hk; have HB := zh (ho.out.below HB.out HB.out.size (by have := Lgo.out; have := M3.out; omega)); have Kgb := zl ho Kgb (by have := M2.out; have := M3.out; have := M4.out; omega); have Kgo := zl ho Kgo (by have := M2.out; have := M3.out; have := M4.out; omega); have Kgu := zl ho Kgu (by have := M2.out; have := M3.out; have := M4.out; omega); have u0 := zb Kgu.out 0 (.int .u64 u.f0); have u1 := zb Kgu.out 1 (.string u.f1); have u2 := zb Kgu.out 2 (.slice A7 u.f2.length c7); have MK2 := zh True.intro; clear hk ho)
   | (clear MK2; refine (HN2.out g _ Kg.out).mono ?_; rintro e w8 ⟨rfl, hk, ho⟩; have HC5 := zh (keepPt HC5.out Kg.out (work_like b.f0 b.f1 A2 b.f2.length c2 A3 b.f3.length c3 b.f4 0) ho.out); have Kg := hk; have HB := zh (ho.out.below HB.out HB.out.size (by have := Lgo.out; have := M3.out; omega)); have Kgb := zl ho Kgb (by have := M2.out; have := M3.out; have := M4.out; omega); have Kgo := zl ho Kgo (by have := M2.out; have := M3.out; have := M4.out; omega); have Kgu := zl ho Kgu (by have := M2.out; have := M3.out; have := M4.out; omega); have k3 := zb Kg.out 3 (.slice A3 b.f3.length c3); have k5 := zb Kg.out 5 (.int .i64 0); clear hk ho)))
  | (go_at_call 46; go_must (refine (HWH.out A7 c7 _ HB.out HC5.out HG5.out).mono ?_; rintro e w9 ⟨rfl, hb⟩; have HC5 := zc HC5 hb; have HB := keepB HB hb; have Kgb := zk Kgb hb; have Kgo := zk Kgo hb; have Kg := zk Kg hb; have Kgu := zk Kgu hb; clear hb u0 u1 u2))
  | (go_at_call 47; go_must (refine (HAB.out _ HB.out).mono ?_; rintro e w10 ⟨A4, c4, rfl, hc4, hC4, hb⟩; have HC4 := zh hC4; have HB := keepB HB hb; have Kgb := zk Kgb hb; have Kgo := zk Kgo hb; have Kg := zk Kg hb; have Kgu := zk Kgu hb; clear hb hC4 k3 k5))
  | (go_at_call 34; go_must (refine (HUP.out g A4 c4 _ Kg.out).mono ?_; rintro e w11 ⟨rfl, hk, ho⟩; have HC4 := zh (keepU HC4.out Kg.out (work_like b.f0 b.f1 A2 b.f2.length c2 A3 b.f3.length c3 b.f4 0) ho.out); have Kg := hk; have HB := zh (ho.out.below HB.out HB.out.size (by have := Lgo.out; have := M3.out; omega)); have Kgb := zl ho Kgb (by have := M2.out; have := M3.out; have := M4.out; omega); have Kgo := zl ho Kgo (by have := M2.out; have := M3.out; have := M4.out; omega); have Kgu := zl ho Kgu (by have := M2.out; have := M3.out; have := M4.out; omega); have k5 := zb Kg.out 5 (.int .i64 0); clear hk ho)))
 refine wp_region_held_drew (S := fun W => W.heap[g]? = some (.cells #[.string b.f0, .int .i64 b.f1, .slice A2 b.f2.length c2, .slice A4 r3.length c4, .int .u64 b.f4, .int .i64 0] 87 (0, 0)) ∧ W.cell? ⟨g, 0, none⟩ = some (.string b.f0) ∧ W.cell? ⟨g, 1, none⟩ = some (.int .i64 b.f1) ∧ W.cell? ⟨g, 2, none⟩ = some (.slice A2 b.f2.length c2) ∧ W.cell? ⟨g, 3, none⟩ = some (.slice A4 r3.length c4) ∧ W.cell? ⟨g, 4, none⟩ = some (.int .u64 b.f4) ∧ W.heap[gu]? = some (.cells #[.int .u64 u.f0, .string u.f1, .slice A7 u.f2.length c7] 101 (0, 0)) ∧ W.cell? ⟨gu, 1, none⟩ = some (.string u.f1) ∧ W.heap[gb]? = some (.cells #[.string b.f0, .int .i64 b.f1, .slice A2 b.f2.length c2, .slice A3 b.f3.length c3, .int .u64 b.f4] 26 (0, 0)) ∧ W.heap[go]? = some (.cells #[.string ⟨#[]⟩, .int .i64 0, .slice none 0 0, .slice none 0 0, .int .u64 0] 26 (0, 0)) ∧ Kd.C k101 W A4 r3.length r3 ∧ Below w.heap.size w W) (by kernel_rfl) ?_ (fun hHeld => ?_)
 ·exact ⟨blk_drew Kg.out, (blk_cell (blk_drew Kg.out) 0).trans rfl, (blk_cell (blk_drew Kg.out) 1).trans rfl, (blk_cell (blk_drew Kg.out) 2).trans rfl, (blk_cell (blk_drew Kg.out) 3).trans rfl, (blk_cell (blk_drew Kg.out) 4).trans rfl, blk_drew Kgu.out, (blk_cell (blk_drew Kgu.out) 1).trans rfl, blk_drew Kgb.out, blk_drew Kgo.out, Kd.C_below HC4.out (below_drew (Below.refl _ _)), HB.out.drew⟩
 clear Kg Kgo Kgb Kgu HB k5 HC4 HC5
 refine tk (i := 0) (v := ?v0g2) rfl hHeld (Or.inl ⟨rfl, ?y0g2⟩) ?r0g2
 case y0g2 => (intro w h; obtain ⟨s0, s1, s2, s3, s4, s5, s6, s7, s8, s9, s10, s11⟩ := h; go_simp; try with_reducible rfl)
 try simp only [zA, zB, zC, Act.put, zD, zE, zF]
 refine tk (i := 1) (v := ?v1g2) rfl hHeld (Or.inl ⟨rfl, ?y1g2⟩) ?r1g2
 case y1g2 => (intro w h; obtain ⟨s0, s1, s2, s3, s4, s5, s6, s7, s8, s9, s10, s11⟩ := h; go_simp; try with_reducible rfl)
 try simp only [zA, zB, zC, Act.put, zD, zE, zF]
 refine tk (i := 2) (v := ?v2g2) rfl hHeld (Or.inl ⟨rfl, ?y2g2⟩) ?r2g2
 case y2g2 => (intro w h; obtain ⟨s0, s1, s2, s3, s4, s5, s6, s7, s8, s9, s10, s11⟩ := h; go_simp; try with_reducible rfl)
 try simp only [zA, zB, zC, Act.put, zD, zE, zF]
 refine tk (i := 3) (v := ?v3g2) rfl hHeld (Or.inl ⟨rfl, ?y3g2⟩) ?r3g2
 case y3g2 => (intro w h; obtain ⟨s0, s1, s2, s3, s4, s5, s6, s7, s8, s9, s10, s11⟩ := h; go_simp; try with_reducible rfl)
 try simp only [zA, zB, zC, Act.put, zD, zE, zF]
 refine tk (i := 4) (v := ?v4g2) rfl hHeld (Or.inl ⟨rfl, ?y4g2⟩) ?r4g2
 case y4g2 => (intro w h; obtain ⟨s0, s1, s2, s3, s4, s5, s6, s7, s8, s9, s10, s11⟩ := h; go_simp; try with_reducible rfl)
 try simp only [zA, zB, zC, Act.put, zD, zE, zF]
 refine tk (i := 5) (v := ?v5g2) rfl hHeld (Or.inl ⟨rfl, ?y5g2⟩) ?r5g2
 case y5g2 => (intro w h; obtain ⟨s0, s1, s2, s3, s4, s5, s6, s7, s8, s9, s10, s11⟩ := h; go_simp; try with_reducible rfl)
 try simp only [zA, zB, zC, Act.put, zD, zE, zF]
 refine tk (i := 6) (v := ?v6g2) rfl hHeld (Or.inl ⟨rfl, ?y6g2⟩) ?r6g2
 case y6g2 => (intro w h; obtain ⟨s0, s1, s2, s3, s4, s5, s6, s7, s8, s9, s10, s11⟩ := h; go_simp; try with_reducible rfl)
 try simp only [zA, zB, zC, Act.put, zD, zE, zF]
 refine tk (i := 7) (v := ?v7g2) rfl hHeld (Or.inl ⟨rfl, ?y7g2⟩) ?r7g2
 case y7g2 => (intro w h; obtain ⟨s0, s1, s2, s3, s4, s5, s6, s7, s8, s9, s10, s11⟩ := h; go_simp; try with_reducible rfl)
 try simp only [zA, zB, zC, Act.put, zD, zE, zF]
 refine wpAnyH_ready (rs := [8, 13]) (by kernel_rfl) (by simp) ?_
 refine AllReadyH.cons (o := _) rfl (fun K hK => ?_) (AllReadyH.cons (o := _) rfl (fun K hK => ?_) AllReadyH.nil)
 ·skip
  rw [if_pos (by rfl)]
  go_simp
  obtain ⟨s0, s1, s2, s3, s4, s5, s6, s7, s8, s9, s10, s11⟩ := hHeld
  refine (HPT.out A4 c4 _ s11 s10 hc4).mono ?_
  rintro e8 w8 ⟨v8, rfl, ⟨A5, c5, A6, c6, rfl, y1, y2, y3, y4⟩, hb8⟩
  have Y3 := zh y3
  have Y4 := zh y4
  clear y3 y4
  refine hK.out _ _ ⟨blk_below s0 hb8, keepc hb8 s1, keepc hb8 s2, keepc hb8 s3, keepc hb8 s4, keepc hb8 s5, blk_below s6 hb8, keepc hb8 s7, blk_below s8 hb8, blk_below s9 hb8, Kd.C_below s10 hb8, s11.trans (hb8.mono s11.size)⟩ (fun hHeld => ?_)
  clear hK K hb8 s0 s1 s2 s3 s4 s5 s6 s7 s8 s9 s10 s11
  try simp only [zA, zB, zC, Act.put, zD, zE, zF]
  refine tk (i := 9) (v := ?v9g2a) rfl hHeld (Or.inl ⟨rfl, ?y9g2a⟩) ?r9g2a
  case y9g2a => (intro w h; obtain ⟨s0, s1, s2, s3, s4, s5, s6, s7, s8, s9, s10, s11⟩ := h; go_simp; try with_reducible rfl)
  try simp only [zA, zB, zC, Act.put, zD, zE, zF]
  refine tk (i := 10) (v := ?v10g2a) rfl hHeld (Or.inl ⟨rfl, ?y10g2a⟩) ?r10g2a
  case y10g2a => (intro w h; obtain ⟨s0, s1, s2, s3, s4, s5, s6, s7, s8, s9, s10, s11⟩ := h; go_simp; try with_reducible rfl)
  try simp only [zA, zB, zC, Act.put, zD, zE, zF]
  refine tk (i := 11) (v := ?v11g2a) rfl hHeld (Or.inl ⟨rfl, ?y11g2a⟩) ?r11g2a
  case y11g2a => (intro w h; obtain ⟨s0, s1, s2, s3, s4, s5, s6, s7, s8, s9, s10, s11⟩ := h; go_simp; try with_reducible rfl)
  try simp only [zA, zB, zC, Act.put, zD, zE, zF]
  refine tk (i := 12) (v := ?v12g2a) rfl hHeld (Or.inl ⟨rfl, ?y12g2a⟩) ?r12g2a
  case y12g2a => (intro w h; obtain ⟨s0, s1, s2, s3, s4, s5, s6, s7, s8, s9, s10, s11⟩ := h; go_simp; try with_reducible rfl)
  try simp only [zA, zB, zC, Act.put, zD, zE, zF]
  refine wpAnyH_ready (rs := [13]) (by kernel_rfl) (by simp) ?_
  refine AllReadyH.cons (o := _) rfl (fun K hK => ?_) AllReadyH.nil
  rw [if_pos (by rfl)]
  obtain ⟨s0, s1, s2, s3, s4, s5, s6, s7, s8, s9, s10, s11⟩ := hHeld
  refine wp_box_row (N := 17) rfl (cs := #[.string ⟨#[]⟩, .int .i64 0, .slice none 0 0, .slice none 0 0, .int .u64 0]) (t := 26) (by first | (go_simp; done) | (go_simp; rfl)) ?_
  intro gx hgx w12 hkx hbx
  have Kgx := zh hkx
  have M5 := zh (show go < gx by rw [hgx]; exact blk_lt s9)
  have M6 := zh (show g < gx by rw [hgx]; exact blk_lt s0)
  have M7 := zh (show gu < gx by rw [hgx]; exact blk_lt s6)
  have Lgx := zh (show w.heap.size ≤ gx by rw [hgx]; exact s11.size)
  have Y3 := zc Y3 hbx
  have Y4 := zc Y4 hbx
  refine hK.out _ _ ⟨blk_below s0 hbx, keepc hbx s1, keepc hbx s2, keepc hbx s3, keepc hbx s4, keepc hbx s5, blk_below s6 hbx, keepc hbx s7, blk_below s8 hbx, blk_below s9 hbx, Kd.C_below s10 hbx, s11.trans (hbx.mono s11.size)⟩ (fun hHeld => ?_)
  clear hK K hkx hbx hgx s0 s1 s2 s3 s4 s5 s6 s7 s8 s9 s10 s11
  try simp only [zA, zB, zC, Act.put, zD, zE, zF]
  refine wpAnyH_ready (rs := [14]) (by kernel_rfl) (by simp) ?_
  refine AllReadyH.cons (o := _) rfl (fun K hK => ?_) AllReadyH.nil
  rw [if_pos (by rfl)]
  obtain ⟨s0, s1, s2, s3, s4, s5, s6, s7, s8, s9, s10, s11⟩ := hHeld
  refine wp_store_row rfl 26 (.tmp 17) (.tmp 84) rfl gx 0 _ 26 (.agg #[.string pb.f0, .int .i64 pb.f1, .slice A5 pb.f2.length c5, .slice A6 pb.f3.length c6, .int .u64 pb.f4]) [.string pb.f0, .int .i64 pb.f1, .slice A5 pb.f2.length c5, .slice A6 pb.f3.length c6, .int .u64 pb.f4] rfl rfl Kgx.out rfl isz_bucket (by show 0 + 5 ≤ 5; decide) (by simp [Value.oneCell']) ?_
  intro w14 hk ho
  have Y3 := zh (keepE Y3.out Kgx.out (bk_like _ _ _ _ _ _ _ _ _) ho.out)
  have Y4 := zh (keepU Y4.out Kgx.out (bk_like _ _ _ _ _ _ _ _ _) ho.out)
  have C4 := zh (keepU s10 Kgx.out (bk_like _ _ _ _ _ _ _ _ _) ho.out)
  have Kgx : Hid (w14.heap[gx]? = some (.cells #[.string pb.f0, .int .i64 pb.f1, .slice A5 pb.f2.length c5, .slice A6 pb.f3.length c6, .int .u64 pb.f4] 26 (0, 0))) := hk
  have HB := zh (ho.out.below s11 s11.size Lgx.out)
  have Kg := zh (ho.out.blk s0 (by have := M6.out; omega))
  have Kgu := zh (ho.out.blk s6 (by have := M7.out; omega))
  have Kgb := zh (ho.out.blk s8 (by have := M2.out; have := M5.out; omega))
  have Kgo := zh (ho.out.blk s9 (by have := M5.out; omega))
  refine hK.out _ _ ⟨Kg.out, blk_cell Kg.out 0, blk_cell Kg.out 1, blk_cell Kg.out 2, blk_cell Kg.out 3, blk_cell Kg.out 4, Kgu.out, blk_cell Kgu.out 1, Kgb.out, Kgo.out, C4.out, HB.out⟩ (fun hHeld => ?_)
  clear hK K hk ho C4 s0 s1 s2 s3 s4 s5 s6 s7 s8 s9 s10 s11
  try simp only [zA, zB, zC, Act.put, zD, zE, zF]
  refine tk (i := 15) (v := ?v15g2a) rfl hHeld (Or.inl ⟨rfl, ?y15g2a⟩) ?r15g2a
  case y15g2a => (intro w h; obtain ⟨s0, s1, s2, s3, s4, s5, s6, s7, s8, s9, s10, s11⟩ := h; go_simp; try with_reducible rfl)
  try simp only [zA, zB, zC, Act.put, zD, zE, zF]
  refine tk (i := 16) (v := ?v16g2a) rfl hHeld (Or.inl ⟨rfl, ?y16g2a⟩) ?r16g2a
  case y16g2a => (intro w h; obtain ⟨s0, s1, s2, s3, s4, s5, s6, s7, s8, s9, s10, s11⟩ := h; go_simp; try with_reducible rfl)
  try simp only [zA, zB, zC, Act.put, zD, zE, zF]
  refine wpAnyH_done (by kernel_rfl) ?_ _
  have p0 := zb Kgb.out 0 (.string b.f0)
  have p1 := zb Kgb.out 1 (.int .i64 b.f1)
  have p2 := zb Kgb.out 2 (.slice A2 b.f2.length c2)
  have p3 := zb Kgb.out 3 (.slice A3 b.f3.length c3)
  have p4 := zb Kgb.out 4 (.int .u64 b.f4)
  clear hHeld Kg Kgu
  go_wp2_with (((with_reducible refine gate_store (t := 26) (p := 8) (v := .tmp 89) rfl ?_); go_must (refine wpList_store_row rfl rfl 26 (.tmp 8) (.tmp 89) rfl go 0 _ 26 (.agg #[.string b.f0, .int .i64 b.f1, .slice A2 b.f2.length c2, .slice A3 b.f3.length c3, .int .u64 b.f4]) [.string b.f0, .int .i64 b.f1, .slice A2 b.f2.length c2, .slice A3 b.f3.length c3, .int .u64 b.f4] rfl rfl Kgo.out rfl isz_bucket (by show 0 + 5 ≤ 5; decide) (by simp [Value.oneCell']) ?_; intro w15 hk ho; have HB := zo ho HB Lgo; have z0 := zb hk.out 0 (.string b.f0); have z1 := zb hk.out 1 (.int .i64 b.f1); have z2 := zb hk.out 2 (.slice A2 b.f2.length c2); have z3 := zb hk.out 3 (.slice A3 b.f3.length c3); have z4 := zb hk.out 4 (.int .u64 b.f4); clear hk ho)))
  refine bodyPost_ret (v := .tuple #[.agg #[.string b.f0, .int .i64 b.f1, .slice A2 b.f2.length c2, .slice A3 b.f3.length c3, .int .u64 b.f4], .int .u64 0, .string ⟨#[]⟩, .int .i64 pe]) (by simp [results, Tryz.results17, go_sem, z0, z1, z2, z3, z4]) rfl ?_
  exact ⟨_, rfl, ⟨A2, c2, A3, c3, rfl, G2.out, G3.out, H2.out _ HB.out, H3.out _ HB.out⟩, HB.out⟩
 ·skip
  rw [if_pos (by rfl)]
  obtain ⟨s0, s1, s2, s3, s4, s5, s6, s7, s8, s9, s10, s11⟩ := hHeld
  refine wp_box_row (N := 17) rfl (cs := #[.string ⟨#[]⟩, .int .i64 0, .slice none 0 0, .slice none 0 0, .int .u64 0]) (t := 26) (by first | (go_simp; done) | (go_simp; rfl)) ?_
  intro gx hgx w12 hkx hbx
  have Kgx := zh hkx
  have M5 := zh (show go < gx by rw [hgx]; exact blk_lt s9)
  have M6 := zh (show g < gx by rw [hgx]; exact blk_lt s0)
  have M7 := zh (show gu < gx by rw [hgx]; exact blk_lt s6)
  have Lgx := zh (show w.heap.size ≤ gx by rw [hgx]; exact s11.size)
  refine hK.out _ _ ⟨blk_below s0 hbx, keepc hbx s1, keepc hbx s2, keepc hbx s3, keepc hbx s4, keepc hbx s5, blk_below s6 hbx, keepc hbx s7, blk_below s8 hbx, blk_below s9 hbx, Kd.C_below s10 hbx, s11.trans (hbx.mono s11.size)⟩ (fun hHeld => ?_)
  clear hK K hkx hbx hgx s0 s1 s2 s3 s4 s5 s6 s7 s8 s9 s10 s11
  try simp only [zA, zB, zC, Act.put, zD, zE, zF]
  refine wpAnyH_ready (rs := [8]) (by kernel_rfl) (by simp) ?_
  refine AllReadyH.cons (o := _) rfl (fun K hK => ?_) AllReadyH.nil
  rw [if_pos (by rfl)]
  go_simp
  obtain ⟨s0, s1, s2, s3, s4, s5, s6, s7, s8, s9, s10, s11⟩ := hHeld
  refine (HPT.out A4 c4 _ s11 s10 hc4).mono ?_
  rintro e8 w8 ⟨v8, rfl, ⟨A5, c5, A6, c6, rfl, y1, y2, y3, y4⟩, hb8⟩
  have Y3 := zh y3
  have Y4 := zh y4
  clear y3 y4
  have Kgx := zk Kgx hb8
  refine hK.out _ _ ⟨blk_below s0 hb8, keepc hb8 s1, keepc hb8 s2, keepc hb8 s3, keepc hb8 s4, keepc hb8 s5, blk_below s6 hb8, keepc hb8 s7, blk_below s8 hb8, blk_below s9 hb8, Kd.C_below s10 hb8, s11.trans (hb8.mono s11.size)⟩ (fun hHeld => ?_)
  clear hK K hb8 s0 s1 s2 s3 s4 s5 s6 s7 s8 s9 s10 s11
  try simp only [zA, zB, zC, Act.put, zD, zE, zF]
  refine tk (i := 9) (v := ?v9g2b) rfl hHeld (Or.inl ⟨rfl, ?y9g2b⟩) ?r9g2b
  case y9g2b => (intro w h; obtain ⟨s0, s1, s2, s3, s4, s5, s6, s7, s8, s9, s10, s11⟩ := h; go_simp; try with_reducible rfl)
  try simp only [zA, zB, zC, Act.put, zD, zE, zF]
  refine tk (i := 10) (v := ?v10g2b) rfl hHeld (Or.inl ⟨rfl, ?y10g2b⟩) ?r10g2b
  case y10g2b => (intro w h; obtain ⟨s0, s1, s2, s3, s4, s5, s6, s7, s8, s9, s10, s11⟩ := h; go_simp; try with_reducible rfl)
  try simp only [zA, zB, zC, Act.put, zD, zE, zF]
  refine tk (i := 11) (v := ?v11g2b) rfl hHeld (Or.inl ⟨rfl, ?y11g2b⟩) ?r11g2b
  case y11g2b => (intro w h; obtain ⟨s0, s1, s2, s3, s4, s5, s6, s7, s8, s9, s10, s11⟩ := h; go_simp; try with_reducible rfl)
  try simp only [zA, zB, zC, Act.put, zD, zE, zF]
  refine tk (i := 12) (v := ?v12g2b) rfl hHeld (Or.inl ⟨rfl, ?y12g2b⟩) ?r12g2b
  case y12g2b => (intro w h; obtain ⟨s0, s1, s2, s3, s4, s5, s6, s7, s8, s9, s10, s11⟩ := h; go_simp; try with_reducible rfl)
  try simp only [zA, zB, zC, Act.put, zD, zE, zF]
  refine wpAnyH_ready (rs := [14]) (by kernel_rfl) (by simp) ?_
  refine AllReadyH.cons (o := _) rfl (fun K hK => ?_) AllReadyH.nil
  rw [if_pos (by rfl)]
  obtain ⟨s0, s1, s2, s3, s4, s5, s6, s7, s8, s9, s10, s11⟩ := hHeld
  refine wp_store_row rfl 26 (.tmp 17) (.tmp 84) rfl gx 0 _ 26 (.agg #[.string pb.f0, .int .i64 pb.f1, .slice A5 pb.f2.length c5, .slice A6 pb.f3.length c6, .int .u64 pb.f4]) [.string pb.f0, .int .i64 pb.f1, .slice A5 pb.f2.length c5, .slice A6 pb.f3.length c6, .int .u64 pb.f4] rfl rfl Kgx.out rfl isz_bucket (by show 0 + 5 ≤ 5; decide) (by simp [Value.oneCell']) ?_
  intro w14 hk ho
  have Y3 := zh (keepE Y3.out Kgx.out (bk_like _ _ _ _ _ _ _ _ _) ho.out)
  have Y4 := zh (keepU Y4.out Kgx.out (bk_like _ _ _ _ _ _ _ _ _) ho.out)
  have C4 := zh (keepU s10 Kgx.out (bk_like _ _ _ _ _ _ _ _ _) ho.out)
  have Kgx : Hid (w14.heap[gx]? = some (.cells #[.string pb.f0, .int .i64 pb.f1, .slice A5 pb.f2.length c5, .slice A6 pb.f3.length c6, .int .u64 pb.f4] 26 (0, 0))) := hk
  have HB := zh (ho.out.below s11 s11.size Lgx.out)
  have Kg := zh (ho.out.blk s0 (by have := M6.out; omega))
  have Kgu := zh (ho.out.blk s6 (by have := M7.out; omega))
  have Kgb := zh (ho.out.blk s8 (by have := M2.out; have := M5.out; omega))
  have Kgo := zh (ho.out.blk s9 (by have := M5.out; omega))
  refine hK.out _ _ ⟨Kg.out, blk_cell Kg.out 0, blk_cell Kg.out 1, blk_cell Kg.out 2, blk_cell Kg.out 3, blk_cell Kg.out 4, Kgu.out, blk_cell Kgu.out 1, Kgb.out, Kgo.out, C4.out, HB.out⟩ (fun hHeld => ?_)
  clear hK K hk ho C4 s0 s1 s2 s3 s4 s5 s6 s7 s8 s9 s10 s11
  try simp only [zA, zB, zC, Act.put, zD, zE, zF]
  refine tk (i := 15) (v := ?v15g2b) rfl hHeld (Or.inl ⟨rfl, ?y15g2b⟩) ?r15g2b
  case y15g2b => (intro w h; obtain ⟨s0, s1, s2, s3, s4, s5, s6, s7, s8, s9, s10, s11⟩ := h; go_simp; try with_reducible rfl)
  try simp only [zA, zB, zC, Act.put, zD, zE, zF]
  refine tk (i := 16) (v := ?v16g2b) rfl hHeld (Or.inl ⟨rfl, ?y16g2b⟩) ?r16g2b
  case y16g2b => (intro w h; obtain ⟨s0, s1, s2, s3, s4, s5, s6, s7, s8, s9, s10, s11⟩ := h; go_simp; try with_reducible rfl)
  try simp only [zA, zB, zC, Act.put, zD, zE, zF]
  refine wpAnyH_done (by kernel_rfl) ?_ _
  have p0 := zb Kgb.out 0 (.string b.f0)
  have p1 := zb Kgb.out 1 (.int .i64 b.f1)
  have p2 := zb Kgb.out 2 (.slice A2 b.f2.length c2)
  have p3 := zb Kgb.out 3 (.slice A3 b.f3.length c3)
  have p4 := zb Kgb.out 4 (.int .u64 b.f4)
  clear hHeld Kg Kgu
  go_wp2_with (((with_reducible refine gate_store (t := 26) (p := 8) (v := .tmp 89) rfl ?_); go_must (refine wpList_store_row rfl rfl 26 (.tmp 8) (.tmp 89) rfl go 0 _ 26 (.agg #[.string b.f0, .int .i64 b.f1, .slice A2 b.f2.length c2, .slice A3 b.f3.length c3, .int .u64 b.f4]) [.string b.f0, .int .i64 b.f1, .slice A2 b.f2.length c2, .slice A3 b.f3.length c3, .int .u64 b.f4] rfl rfl Kgo.out rfl isz_bucket (by show 0 + 5 ≤ 5; decide) (by simp [Value.oneCell']) ?_; intro w15 hk ho; have HB := zo ho HB Lgo; have z0 := zb hk.out 0 (.string b.f0); have z1 := zb hk.out 1 (.int .i64 b.f1); have z2 := zb hk.out 2 (.slice A2 b.f2.length c2); have z3 := zb hk.out 3 (.slice A3 b.f3.length c3); have z4 := zb hk.out 4 (.int .u64 b.f4); clear hk ho)))
  refine bodyPost_ret (v := .tuple #[.agg #[.string b.f0, .int .i64 b.f1, .slice A2 b.f2.length c2, .slice A3 b.f3.length c3, .int .u64 b.f4], .int .u64 0, .string ⟨#[]⟩, .int .i64 pe]) (by simp [results, Tryz.results17, go_sem, z0, z1, z2, z3, z4]) rfl ?_
  exact ⟨_, rfl, ⟨A2, c2, A3, c3, rfl, G2.out, G3.out, H2.out _ HB.out, H3.out _ HB.out⟩, HB.out⟩
def wholeB (b : S26) (id : Int) (ps : List S43) (q : Int) : S26 × Int × ByteArray × Int :=
 let f := findR b.f3 id
 let x := wholeR f.1 ps
 let e2 := noR (!(x.2.2 == 0)) x.2.2 (noR (!(f.2 == 0)) f.2 (openR b anyK))
 if e2 = 0 then
  let p := laidR ⟨b.f0, b.f1, b.f2, (abortR b.f3 id).1, b.f4⟩ f.1.f1 (fun l id => putV l b.f1 ⟨id, x.1, false, q⟩)
  if p.2.2 = 0 then (p.1, p.2.1, x.2.1, 0) else (b, 0, ⟨#[]⟩, p.2.2)
 else (b, 0, ⟨#[]⟩, e2)
theorem find_abort {l : List S101} {id : Int} {u : S101} (h : findR l id = (u, 0)) : abortR l id = ((abortR l id).1, 0) := by
 unfold findR at h
 unfold abortR
 cases hc : checkB l with
 | false => rw [hc] at h; cases h
 | true =>
  rw [hc] at h
  cases hp : posU l id with
  | none => rw [hp] at h; cases h
  | some i => rfl
theorem wholeB.walk (b : S26) (A2 A3 : Option Addr) (c2 c3 : Nat) (id : Int) (ps : List S43) (A : Option Addr) (c : Nat) (q : Int) (w : World) (h2 : Kd.C k56 w A2 b.f2.length b.f2) (g2 : b.f2.length ≤ c2) (h3 : Kd.C k101 w A3 b.f3.length b.f3) (g3 : b.f3.length ≤ c3) (hl : ps.length < 100) (h4 : Kd.C k43 w A ps.length ps) :
  Calls Tryz.prog 17 #[.agg #[.string b.f0, .int .i64 b.f1, .slice A2 b.f2.length c2, .slice A3 b.f3.length c3, .int .u64 b.f4], .int .u64 id, .slice A ps.length c, .int .i64 q] w (BkPost (wholeB b id ps q).1 [.int .u64 (wholeB b id ps q).2.1, .string (wholeB b id ps q).2.2.1, .int .i64 (wholeB b id ps q).2.2.2] w) := by
 obtain ⟨⟨u, fe⟩, hf⟩ : ∃ f, findR b.f3 id = f := ⟨_, rfl⟩
 obtain ⟨⟨data, tx, we⟩, hw⟩ : ∃ f, wholeR u ps = f := ⟨_, rfl⟩
 by_cases hz : noR (!(we == 0)) we (noR (!(fe == 0)) fe (openR b anyK)) = 0
 ·obtain ⟨hwe, h1⟩ := noR_ok hz
  obtain ⟨hfe, he0⟩ := noR_ok h1
  subst hwe hfe
  obtain ⟨⟨pb, pl, pe⟩, hp⟩ : ∃ p, laidR ⟨b.f0, b.f1, b.f2, (abortR b.f3 id).1, b.f4⟩ u.f1 (fun l id => putV l b.f1 ⟨id, data, false, q⟩) = p := ⟨_, rfl⟩
  have e : wholeB b id ps q = if pe = 0 then (pb, pl, tx, 0) else (b, 0, ⟨#[]⟩, pe) := by
   unfold wholeB
   simp only [hf, hw, hp]
   rw [if_pos hz]
  rw [e]
  by_cases hpe : pe = 0
  ·rw [if_pos hpe]
   subst hpe
   exact whole_gg b A2 A3 c2 c3 id ps A c q w h2 g2 h3 g3 hl h4 he0 u hf data tx hw _ (find_abort hf) pb pl hp
  ·rw [if_neg hpe]
   exact whole_gn b A2 A3 c2 c3 id ps A c q w h2 g2 h3 g3 hl h4 he0 u hf data tx hw _ (find_abort hf) pb pl pe hpe hp
 ·have e : wholeB b id ps q = (b, 0, ⟨#[]⟩, noR (!(we == 0)) we (noR (!(fe == 0)) fe (openR b anyK))) := by
   unfold wholeB
   simp only [hf, hw]
   rw [if_neg hz]
  rw [e]
  have tt : ∀ x : Int, x ≠ 0 → (!(x == 0)) = true := fun x h => by rw [beq_eq_false_iff_ne.2 h]; rfl
  by_cases hfe : fe = 0
  ·subst hfe
   by_cases hwe : we = 0
   ·subst hwe; exact whole_n00 b A2 A3 c2 c3 id ps A c q w h2 g2 h3 g3 hl h4 _ rfl u hf data tx hw _ _ rfl rfl hz
   ·have t1 := tt we hwe
    rw [t1] at hz ⊢
    exact whole_n01 b A2 A3 c2 c3 id ps A c q w h2 g2 h3 g3 hl h4 _ rfl u hf data tx we hwe hw _ _ rfl rfl hz
  ·have t2 := tt fe hfe
   rw [t2] at hz ⊢
   by_cases hwe : we = 0
   ·subst hwe; exact whole_n10 b A2 A3 c2 c3 id ps A c q w h2 g2 h3 g3 hl h4 _ rfl u fe hfe hf data tx hw _ _ rfl rfl hz
   ·have t1 := tt we hwe
    rw [t1] at hz ⊢
    exact whole_n11 b A2 A3 c2 c3 id ps A c q w h2 g2 h3 g3 hl h4 _ rfl u fe hfe hf data tx we hwe hw _ _ rfl rfl hz
end
section
open Go.WideMaps Go.Maps
attribute [local go_sem] Oper.semAt_some
theorem one_P {w : World} {x : S43} {c : List Value} {g : Nat} (h : k43.K w x c) (hr : RawAt w ⟨g, 0, none⟩ c) : Kd.C k43 w (some ⟨g, 0, none⟩) 1 [x] := by
 have := rows_C (RowsOf.one_ x c h) (by simpa using hr) (by simp)
 simpa using this
theorem awake_gen (B1 B2 G B3 C D U1 U2 U3 : S26) (i6 q6 i8 q8 i13 q13 : Int) (s6 t11 : ByteArray) (m6 m8 m13 : Bool) (tg n9 n11 : Int) (h1 : laidR (⟨⟨#[98,111,120]⟩, 0, [], [], 0⟩ : S26) ⟨#[97]⟩ (fun l id => putV l (⟨⟨#[98,111,120]⟩, 0, [], [], 0⟩ : S26).f1 ⟨id, ⟨#[120]⟩, false, 0⟩) = (B1, 0, 0)) (h2 : laidR B1 ⟨#[97]⟩ (fun l id => putV l B1.f1 ⟨id, ⟨#[121]⟩, false, 0⟩) = (B2, 0, 0)) (h3 : laidR B2 ⟨#[97]⟩ (fun l id => deleteV l B2.f1 id 0) = (G, 0, 0)) (h4 : turnB B2 1 = (B3, 0)) (h5 : laidR B3 ⟨#[97]⟩ (fun l id => deleteV l B3.f1 id 1) = (C, 1, 0)) (h6 : getB C ⟨#[97]⟩ = (⟨i6, s6, m6, q6⟩, 13)) (h7 : dropB C ⟨#[97]⟩ 1 = (D, 0)) (h8 : getB D ⟨#[97]⟩ = (⟨i8, ⟨#[121]⟩, m8, q8⟩, 0)) (h9 : beginB B3 ⟨#[107]⟩ = (U1, n9, 0)) (h10 : layB U1 n9 ⟨1, ⟨#[119,104,111,108,101]⟩⟩ = (U2, tg, 0)) (h11 : wholeB U2 n9 [⟨1, tg⟩] 2 = (U3, n11, t11, 0)) (h12 : getB U3 ⟨#[107]⟩ = (⟨i13, ⟨#[119,104,111,108,101]⟩, m13, q13⟩, 0)) (hg : G.f2.length = 0 ∧ G.f3.length = 0) (w : World) :
  Calls Tryz.prog 14 #[] w fun e w' => e = .returned (.bool true) ∧ Below w.heap.size w w' := by
 have H0 := zh (fun (W : World) => newB_ok ⟨#[98,111,120]⟩ W (by kernel_rfl))
 have H1 : Hid (∀ W, Calls Tryz.prog 19 #[.agg #[.string ⟨#[98,111,120]⟩, .int .i64 0, .slice none 0 0, .slice none 0 0, .int .u64 0], .string ⟨#[97]⟩, .string ⟨#[120]⟩, .int .i64 0] W (BkPost B1 [.int .u64 0, .int .i64 0] W)) := fun W => by
  have x := putB.walk (⟨⟨#[98,111,120]⟩, 0, [], [], 0⟩ : S26) none none 0 0 ⟨#[97]⟩ ⟨#[120]⟩ 0 W (C_mt _ _ _) (Nat.le_refl _) (C_mt _ _ _) (Nat.le_refl _)
  rw [h1] at x
  exact x
 have H2 : Hid (∀ (AB1 DB1 : Option Addr) (cB1 dB1 : Nat) (W : World), Kd.C k56 W AB1 B1.f2.length B1.f2 → B1.f2.length ≤ cB1 → Kd.C k101 W DB1 B1.f3.length B1.f3 → B1.f3.length ≤ dB1 → Calls Tryz.prog 19 #[.agg #[.string B1.f0, .int .i64 B1.f1, .slice AB1 B1.f2.length cB1, .slice DB1 B1.f3.length dB1, .int .u64 B1.f4], .string ⟨#[97]⟩, .string ⟨#[121]⟩, .int .i64 0] W (BkPost B2 [.int .u64 0, .int .i64 0] W)) := fun A D c d W e2 g2 e3 g3 => by
  have x := putB.walk B1 A D c d ⟨#[97]⟩ ⟨#[121]⟩ 0 W e2 g2 e3 g3
  rw [h2] at x
  exact x
 have H3 : Hid (∀ (AB2 DB2 : Option Addr) (cB2 dB2 : Nat) (W : World), Kd.C k56 W AB2 B2.f2.length B2.f2 → B2.f2.length ≤ cB2 → Kd.C k101 W DB2 B2.f3.length B2.f3 → B2.f3.length ≤ dB2 → Calls Tryz.prog 39 #[.agg #[.string B2.f0, .int .i64 B2.f1, .slice AB2 B2.f2.length cB2, .slice DB2 B2.f3.length dB2, .int .u64 B2.f4], .string ⟨#[97]⟩, .int .i64 0] W (BkPost G [.int .u64 0, .int .i64 0] W)) := fun A D c d W e2 g2 e3 g3 => by
  have x := delB.walk B2 A D c d ⟨#[97]⟩ 0 W e2 g2 e3 g3
  rw [h3] at x
  exact x
 have H4 : Hid (∀ (AB2 DB2 : Option Addr) (cB2 dB2 : Nat) (W : World), Kd.C k56 W AB2 B2.f2.length B2.f2 → B2.f2.length ≤ cB2 → Kd.C k101 W DB2 B2.f3.length B2.f3 → B2.f3.length ≤ dB2 → Calls Tryz.prog 27 #[.agg #[.string B2.f0, .int .i64 B2.f1, .slice AB2 B2.f2.length cB2, .slice DB2 B2.f3.length dB2, .int .u64 B2.f4], .int .i64 1] W (BkPost B3 [.int .i64 0] W)) := fun A D c d W e2 g2 e3 g3 => by
  have x := turnB.walk B2 A D c d 1 W e2 g2 e3 g3
  rw [h4] at x
  exact x
 have H5 : Hid (∀ (AB3 DB3 : Option Addr) (cB3 dB3 : Nat) (W : World), Kd.C k56 W AB3 B3.f2.length B3.f2 → B3.f2.length ≤ cB3 → Kd.C k101 W DB3 B3.f3.length B3.f3 → B3.f3.length ≤ dB3 → Calls Tryz.prog 39 #[.agg #[.string B3.f0, .int .i64 B3.f1, .slice AB3 B3.f2.length cB3, .slice DB3 B3.f3.length dB3, .int .u64 B3.f4], .string ⟨#[97]⟩, .int .i64 1] W (BkPost C [.int .u64 1, .int .i64 0] W)) := fun A D c d W e2 g2 e3 g3 => by
  have x := delB.walk B3 A D c d ⟨#[97]⟩ 1 W e2 g2 e3 g3
  rw [h5] at x
  exact x
 have H6 : Hid (∀ (AC DC : Option Addr) (cC dC : Nat) (W : World), Kd.C k56 W AC C.f2.length C.f2 → C.f2.length ≤ cC → Kd.C k101 W DC C.f3.length C.f3 → C.f3.length ≤ dC → Calls Tryz.prog 18 #[.agg #[.string C.f0, .int .i64 C.f1, .slice AC C.f2.length cC, .slice DC C.f3.length dC, .int .u64 C.f4], .string ⟨#[97]⟩] W (OnePost ⟨i6, s6, m6, q6⟩ 13 W)) := fun A D c d W e2 g2 e3 g3 => by
  have x := getB.walk C A D c d ⟨#[97]⟩ W e2 g2 e3 g3
  rw [h6] at x
  exact x
 have H7 : Hid (∀ (AC DC : Option Addr) (cC dC : Nat) (W : World), Kd.C k56 W AC C.f2.length C.f2 → C.f2.length ≤ cC → Kd.C k101 W DC C.f3.length C.f3 → C.f3.length ≤ dC → Calls Tryz.prog 40 #[.agg #[.string C.f0, .int .i64 C.f1, .slice AC C.f2.length cC, .slice DC C.f3.length dC, .int .u64 C.f4], .string ⟨#[97]⟩, .int .u64 1] W (BkPost D [.int .i64 0] W)) := fun A D' c d W e2 g2 e3 g3 => by
  have x := dropB.walk C A D' c d ⟨#[97]⟩ 1 W e2 g2 e3 g3
  rw [h7] at x
  exact x
 have H8 : Hid (∀ (AD DD : Option Addr) (cD dD : Nat) (W : World), Kd.C k56 W AD D.f2.length D.f2 → D.f2.length ≤ cD → Kd.C k101 W DD D.f3.length D.f3 → D.f3.length ≤ dD → Calls Tryz.prog 18 #[.agg #[.string D.f0, .int .i64 D.f1, .slice AD D.f2.length cD, .slice DD D.f3.length dD, .int .u64 D.f4], .string ⟨#[97]⟩] W (OnePost ⟨i8, ⟨#[121]⟩, m8, q8⟩ 0 W)) := fun A D' c d W e2 g2 e3 g3 => by
  have x := getB.walk D A D' c d ⟨#[97]⟩ W e2 g2 e3 g3
  rw [h8] at x
  exact x
 have H9 : Hid (∀ (AB3 DB3 : Option Addr) (cB3 dB3 : Nat) (W : World), Kd.C k56 W AB3 B3.f2.length B3.f2 → B3.f2.length ≤ cB3 → Kd.C k101 W DB3 B3.f3.length B3.f3 → B3.f3.length ≤ dB3 → Calls Tryz.prog 12 #[.agg #[.string B3.f0, .int .i64 B3.f1, .slice AB3 B3.f2.length cB3, .slice DB3 B3.f3.length dB3, .int .u64 B3.f4], .string ⟨#[107]⟩] W (BkPost U1 [.int .u64 n9, .int .i64 0] W)) := fun A D c d W e2 g2 e3 g3 => by
  have x := beginB.walk B3 A D c d ⟨#[107]⟩ W e2 g2 e3 g3
  rw [h9] at x
  exact x
 have H10 : Hid (∀ (AU1 DU1 : Option Addr) (cU1 dU1 : Nat) (W : World), Kd.C k56 W AU1 U1.f2.length U1.f2 → U1.f2.length ≤ cU1 → Kd.C k101 W DU1 U1.f3.length U1.f3 → U1.f3.length ≤ dU1 → Calls Tryz.prog 15 #[.agg #[.string U1.f0, .int .i64 U1.f1, .slice AU1 U1.f2.length cU1, .slice DU1 U1.f3.length dU1, .int .u64 U1.f4], .int .u64 n9, .agg #[.int .i64 1, .string ⟨#[119,104,111,108,101]⟩]] W (BkPost U2 [.int .u32 tg, .int .i64 0] W)) := fun A D c d W e2 g2 e3 g3 => by
  have x := layB.walk U1 A D c d n9 ⟨1, ⟨#[119,104,111,108,101]⟩⟩ W e2 g2 e3 g3
  rw [h10] at x
  exact x
 have H11 : Hid (∀ (AU2 DU2 : Option Addr) (cU2 dU2 : Nat) (W : World), Kd.C k56 W AU2 U2.f2.length U2.f2 → U2.f2.length ≤ cU2 → Kd.C k101 W DU2 U2.f3.length U2.f3 → U2.f3.length ≤ dU2 → ∀ gl : Nat, W.heap[gl]? = some (.cells #[.int .i64 1, .int .u32 tg] 43 (0, 0)) → Calls Tryz.prog 17 #[.agg #[.string U2.f0, .int .i64 U2.f1, .slice AU2 U2.f2.length cU2, .slice DU2 U2.f3.length dU2, .int .u64 U2.f4], .int .u64 n9, .slice (some ⟨gl, 0, none⟩) 1 1, .int .i64 2] W (BkPost U3 [.int .u64 n11, .string t11, .int .i64 0] W)) := fun A D c d W e2 g2 e3 g3 gl kl => by
  have x := wholeB.walk U2 A D c d n9 [⟨1, tg⟩] (some ⟨gl, 0, none⟩) 1 2 W e2 g2 e3 g3 (by show 1 < 100; decide) (one_P (k43_mk W (⟨1, tg⟩ : S43)) (blkRaw (cs := [.int .i64 1, .int .u32 tg]) kl))
  rw [h11] at x
  exact x
 have H12 : Hid (∀ (AU3 DU3 : Option Addr) (cU3 dU3 : Nat) (W : World), Kd.C k56 W AU3 U3.f2.length U3.f2 → U3.f2.length ≤ cU3 → Kd.C k101 W DU3 U3.f3.length U3.f3 → U3.f3.length ≤ dU3 → Calls Tryz.prog 18 #[.agg #[.string U3.f0, .int .i64 U3.f1, .slice AU3 U3.f2.length cU3, .slice DU3 U3.f3.length dU3, .int .u64 U3.f4], .string ⟨#[107]⟩] W (OnePost ⟨i13, ⟨#[119,104,111,108,101]⟩, m13, q13⟩ 0 W)) := fun A D c d W e2 g2 e3 g3 => by
  have x := getB.walk U3 A D c d ⟨#[107]⟩ W e2 g2 e3 g3
  rw [h12] at x
  exact x
 have HE : Hid (∀ (AG DG : Option Addr) (cG dG : Nat) (W : World), Kd.C k56 W AG G.f2.length G.f2 → G.f2.length ≤ cG → Kd.C k101 W DG G.f3.length G.f3 → G.f3.length ≤ dG → Calls Tryz.prog 41 #[.agg #[.string G.f0, .int .i64 G.f1, .slice AG G.f2.length cG, .slice DG G.f3.length dG, .int .u64 G.f4]] W (fun e w' => e = .returned (.bool true) ∧ Below W.heap.size W w')) := fun A D c d W e2 g2 e3 g3 => by
  have x := bucket_Empty.calls G.f0 G.f1 A c G.f2 D d G.f3 G.f4 true W e2 g2 e3 g3 (by unfold bucket_Empty.f; rw [hg.1, hg.2]; rfl)
  exact x
 have HB := zh (Below.refl w.heap.size w)
 clear h1 h2 h3 h4 h5 h6 h7 h8 h9 h10 h11 h12 hg
 go_enter Tryz.func14, Tryz.ntmps14
 go_wp2_with (first
  | ((with_reducible refine gate_dst (N := 1) rfl ?_); go_must (refine box_event ?hg (N := 1) ?hd (cs := #[.string ⟨#[]⟩, .int .i64 0, .slice none 0 0, .slice none 0 0, .int .u64 0]) (t := 26) ?hr ?_; (case hd => rfl); (case hg => rfl); (case hr => first | (go_simp; done) | (go_simp; rfl)); intro gB hqgB wb0 hbgB hbelgB; have KgB := zh hbgB; have LgB := zh (show w.heap.size ≤ gB by rw [hqgB]; exact HB.out.size); have HB := keepB HB hbelgB; have HD := zh hbelgB; have WD := zh (show _ ≤ gB by rw [hqgB]; exact Nat.le_refl _); clear hbgB hbelgB hqgB))
  | ((with_reducible refine gate_dst (N := 7) rfl ?_); go_must (refine box_event ?hg (N := 7) ?hd (cs := #[.string ⟨#[]⟩, .int .i64 0, .slice none 0 0, .slice none 0 0, .int .u64 0]) (t := 26) ?hr ?_; (case hd => rfl); (case hg => rfl); (case hr => first | (go_simp; done) | (go_simp; rfl)); intro gG hqgG wb3 hbgG hbelgG; have KgG := zh hbgG; have LgG := zh (show w.heap.size ≤ gG by rw [hqgG]; exact HB.out.size); have HB := keepB HB hbelgG; have NgBgG := zh (show gB < gG by rw [hqgG]; exact blk_lt KgB.out); have HD := zh hbelgG; have WD := zh (show _ ≤ gG by rw [hqgG]; exact Nat.le_refl _); have KgB := zk KgB hbelgG; clear hbgG hbelgG hqgG))
  | ((with_reducible refine gate_dst (N := 11) rfl ?_); go_must (refine box_event ?hg (N := 11) ?hd (cs := #[.string ⟨#[]⟩, .int .i64 0, .slice none 0 0, .slice none 0 0, .int .u64 0]) (t := 26) ?hr ?_; (case hd => rfl); (case hg => rfl); (case hr => first | (go_simp; done) | (go_simp; rfl)); intro gC hqgC wb5 hbgC hbelgC; have KgC := zh hbgC; have LgC := zh (show w.heap.size ≤ gC by rw [hqgC]; exact HB.out.size); have HB := keepB HB hbelgC; have NgBgC := zh (show gB < gC by rw [hqgC]; exact blk_lt KgB.out); have NgGgC := zh (show gG < gC by rw [hqgC]; exact blk_lt KgG.out); have HD := zh hbelgC; have WD := zh (show _ ≤ gC by rw [hqgC]; exact Nat.le_refl _); have KgB := zk KgB hbelgC; have KgG := zk KgG hbelgC; clear hbgC hbelgC hqgC))
  | ((with_reducible refine gate_dst (N := 14) rfl ?_); go_must (refine box_event ?hg (N := 14) ?hd (cs := #[.int .u64 0, .string ⟨#[]⟩, .bool false, .int .i64 0]) (t := 47) ?hr ?_; (case hd => rfl); (case hg => rfl); (case hr => first | (go_simp; done) | (go_simp; rfl)); intro gv hqgv wb6 hbgv hbelgv; have Kgv := zh hbgv; have Lgv := zh (show w.heap.size ≤ gv by rw [hqgv]; exact HB.out.size); have HB := keepB HB hbelgv; have NgBgv := zh (show gB < gv by rw [hqgv]; exact blk_lt KgB.out); have NgGgv := zh (show gG < gv by rw [hqgv]; exact blk_lt KgG.out); have NgCgv := zh (show gC < gv by rw [hqgv]; exact blk_lt KgC.out); have HD := zh hbelgv; have WD := zh (show _ ≤ gv by rw [hqgv]; exact Nat.le_refl _); have KgB := zk KgB hbelgv; have KgG := zk KgG hbelgv; have KgC := zk KgC hbelgv; clear hbgv hbelgv hqgv))
  | ((with_reducible refine gate_dst (N := 16) rfl ?_); go_must (refine box_event ?hg (N := 16) ?hd (cs := #[.string ⟨#[]⟩, .int .i64 0, .slice none 0 0, .slice none 0 0, .int .u64 0]) (t := 26) ?hr ?_; (case hd => rfl); (case hg => rfl); (case hr => first | (go_simp; done) | (go_simp; rfl)); intro gD hqgD wb7 hbgD hbelgD; have KgD := zh hbgD; have LgD := zh (show w.heap.size ≤ gD by rw [hqgD]; exact HB.out.size); have HB := keepB HB hbelgD; have NgBgD := zh (show gB < gD by rw [hqgD]; exact blk_lt KgB.out); have NgGgD := zh (show gG < gD by rw [hqgD]; exact blk_lt KgG.out); have NgCgD := zh (show gC < gD by rw [hqgD]; exact blk_lt KgC.out); have HD := zh hbelgD; have WD := zh (show _ ≤ gD by rw [hqgD]; exact Nat.le_refl _); have KgB := zk KgB hbelgD; have KgG := zk KgG hbelgD; have KgC := zk KgC hbelgD; clear hbgD hbelgD hqgD))
  | ((with_reducible refine gate_dst (N := 18) rfl ?_); go_must (refine box_event ?hg (N := 18) ?hd (cs := #[.int .u64 0, .string ⟨#[]⟩, .bool false, .int .i64 0]) (t := 47) ?hr ?_; (case hd => rfl); (case hg => rfl); (case hr => first | (go_simp; done) | (go_simp; rfl)); intro gV hqgV wb8 hbgV hbelgV; have KgV := zh hbgV; have LgV := zh (show w.heap.size ≤ gV by rw [hqgV]; exact HB.out.size); have HB := keepB HB hbelgV; have NgBgV := zh (show gB < gV by rw [hqgV]; exact blk_lt KgB.out); have NgGgV := zh (show gG < gV by rw [hqgV]; exact blk_lt KgG.out); have NgDgV := zh (show gD < gV by rw [hqgV]; exact blk_lt KgD.out); have HD := zh hbelgV; have WD := zh (show _ ≤ gV by rw [hqgV]; exact Nat.le_refl _); have KgB := zk KgB hbelgV; have KgG := zk KgG hbelgV; have KgD := zk KgD hbelgV; clear hbgV hbelgV hqgV))
  | ((with_reducible refine gate_dst (N := 20) rfl ?_); go_must (refine box_event ?hg (N := 20) ?hd (cs := #[.string ⟨#[]⟩, .int .i64 0, .slice none 0 0, .slice none 0 0, .int .u64 0]) (t := 26) ?hr ?_; (case hd => rfl); (case hg => rfl); (case hr => first | (go_simp; done) | (go_simp; rfl)); intro gU hqgU wb9 hbgU hbelgU; have KgU := zh hbgU; have LgU := zh (show w.heap.size ≤ gU by rw [hqgU]; exact HB.out.size); have HB := keepB HB hbelgU; have NgBgU := zh (show gB < gU by rw [hqgU]; exact blk_lt KgB.out); have NgGgU := zh (show gG < gU by rw [hqgU]; exact blk_lt KgG.out); have NgVgU := zh (show gV < gU by rw [hqgU]; exact blk_lt KgV.out); have HD := zh hbelgU; have WD := zh (show _ ≤ gU by rw [hqgU]; exact Nat.le_refl _); have KgB := zk KgB hbelgU; have KgG := zk KgG hbelgU; have KgV := zk KgV hbelgU; clear hbgU hbelgU hqgU))
  | ((with_reducible refine gate_dst (N := 28) rfl ?_); go_must (refine box_event ?hg (N := 28) ?hd (cs := #[.int .u64 0, .string ⟨#[]⟩, .bool false, .int .i64 0]) (t := 47) ?hr ?_; (case hd => rfl); (case hg => rfl); (case hr => first | (go_simp; done) | (go_simp; rfl)); intro gW hqgW wb12 hbgW hbelgW; have KgW := zh hbgW; have LgW := zh (show w.heap.size ≤ gW by rw [hqgW]; exact HB.out.size); have HB := keepB HB hbelgW; have NgGgW := zh (show gG < gW by rw [hqgW]; exact blk_lt KgG.out); have NgVgW := zh (show gV < gW by rw [hqgW]; exact blk_lt KgV.out); have NgUgW := zh (show gU < gW by rw [hqgW]; exact blk_lt KgU.out); have HD := zh hbelgW; have WD := zh (show _ ≤ gW by rw [hqgW]; exact Nat.le_refl _); have KgG := zk KgG hbelgW; have KgV := zk KgV hbelgW; have KgU := zk KgU hbelgW; clear hbgW hbelgW hqgW))
  | ((with_reducible refine gate_dst (N := 98) rfl ?_); go_must (refine lit_event ?hg (N := 98) ?hd (cs := #[.int .i64 1, .int .u32 tg]) (t := 43) 1 ?hr ?_; (case hd => rfl); (case hg => rfl); (case hr => first | (go_simp; done) | (go_simp; rfl)); intro gl hql wl hbl hbell; have Kl := zh hbl; have HB := keepB HB hbell; have KgG := zk KgG hbell; have KgV := zk KgV hbell; have KgU := zk KgU hbell; have EG := zc EG hbell; have UG := zc UG hbell; have EU2 := zc EU2 hbell; have UU2 := zc UU2 hbell; have a0 := zb KgU.out 0 (.string U2.f0); have a1 := zb KgU.out 1 (.int .i64 U2.f1); have a2 := zb KgU.out 2 (.slice AU2 U2.f2.length cU2); have a3 := zb KgU.out 3 (.slice DU2 U2.f3.length dU2); have a4 := zb KgU.out 4 (.int .u64 U2.f4); clear hbl hbell hql))
  | (go_at_call 26; go_must (first
    | (refine (H0.out _).mono ?_; rintro e w' ⟨rfl, hb⟩; have HB := keepB HB hb; clear hb)))
  | (go_at_call 19; go_must (first
    | (clear MK1; refine (H1.out _).mono ?_; rintro e w' ⟨v, rfl, ⟨AB1, cB1, DB1, dB1, rfl, x2, x3, y2, y3⟩, hb⟩; have HB := keepB HB hb; have KgB := zk KgB hb; have XB1 := zh x2; have YB1 := zh x3; have EB1 := zh y2; have UB1 := zh y3; clear x2 x3 y2 y3; clear a0 a1 a2 a3 a4; clear hb)
    | (clear MK2; refine (H2.out AB1 DB1 cB1 dB1 _ EB1.out XB1.out UB1.out YB1.out).mono ?_; rintro e w' ⟨v, rfl, ⟨AB2, cB2, DB2, dB2, rfl, x2, x3, y2, y3⟩, hb⟩; have HB := keepB HB hb; have KgB := zk KgB hb; have EB1 := zc EB1 hb; have UB1 := zc UB1 hb; have XB2 := zh x2; have YB2 := zh x3; have EB2 := zh y2; have UB2 := zh y3; clear x2 x3 y2 y3; clear a0 a1 a2 a3 a4; clear hb)))
  | (go_at_call 39; go_must (first
    | (clear MK3; refine (H3.out AB2 DB2 cB2 dB2 _ EB2.out XB2.out UB2.out YB2.out).mono ?_; rintro e w' ⟨v, rfl, ⟨AG, cG, DG, dG, rfl, x2, x3, y2, y3⟩, hb⟩; have HB := keepB HB hb; have KgB := zk KgB hb; have EB2 := zc EB2 hb; have UB2 := zc UB2 hb; have XG := zh x2; have YG := zh x3; have EG := zh y2; have UG := zh y3; clear x2 x3 y2 y3; clear a0 a1 a2 a3 a4; clear hb)
    | (clear MK5; refine (H5.out AB3 DB3 cB3 dB3 _ EB3.out XB3.out UB3.out YB3.out).mono ?_; rintro e w' ⟨v, rfl, ⟨AC, cC, DC, dC, rfl, x2, x3, y2, y3⟩, hb⟩; have HB := keepB HB hb; have KgB := zk KgB hb; have KgG := zk KgG hb; have EB3 := zc EB3 hb; have UB3 := zc UB3 hb; have EG := zc EG hb; have UG := zc UG hb; have XC := zh x2; have YC := zh x3; have EC := zh y2; have UC := zh y3; clear x2 x3 y2 y3; clear a0 a1 a2 a3 a4; clear hb)))
  | (go_at_call 27; go_must (first
    | (clear MK4; refine (H4.out AB2 DB2 cB2 dB2 _ EB2.out XB2.out UB2.out YB2.out).mono ?_; rintro e w' ⟨v, rfl, ⟨AB3, cB3, DB3, dB3, rfl, x2, x3, y2, y3⟩, hb⟩; have HB := keepB HB hb; have KgB := zk KgB hb; have KgG := zk KgG hb; have EB2 := zc EB2 hb; have UB2 := zc UB2 hb; have EG := zc EG hb; have UG := zc UG hb; have XB3 := zh x2; have YB3 := zh x3; have EB3 := zh y2; have UB3 := zh y3; clear x2 x3 y2 y3; clear a0 a1 a2 a3 a4; clear hb)))
  | (go_at_call 18; go_must (first
    | (clear MK6; refine (H6.out AC DC cC dC _ EC.out XC.out UC.out YC.out).mono ?_; rintro e w' ⟨rfl, hb⟩; have HB := keepB HB hb; have KgB := zk KgB hb; have KgG := zk KgG hb; have KgC := zk KgC hb; have EB3 := zc EB3 hb; have UB3 := zc UB3 hb; have EG := zc EG hb; have UG := zc UG hb; have EC := zc EC hb; have UC := zc UC hb; clear a0 a1 a2 a3 a4; clear hb)
    | (clear MK8; refine (H8.out AD DD cD dD _ ED.out XD.out UD.out YD.out).mono ?_; rintro e w' ⟨rfl, hb⟩; have HB := keepB HB hb; have KgB := zk KgB hb; have KgG := zk KgG hb; have KgD := zk KgD hb; have EB3 := zc EB3 hb; have UB3 := zc UB3 hb; have EG := zc EG hb; have UG := zc UG hb; have ED := zc ED hb; have UD := zc UD hb; clear a0 a1 a2 a3 a4; clear hb)
    | (clear MK12; refine (H12.out AU3 DU3 cU3 dU3 _ EU3.out XU3.out UU3.out YU3.out).mono ?_; rintro e w' ⟨rfl, hb⟩; have HB := keepB HB hb; have KgG := zk KgG hb; have KgV := zk KgV hb; have KgU := zk KgU hb; have EG := zc EG hb; have UG := zc UG hb; have EU3 := zc EU3 hb; have UU3 := zc UU3 hb; clear a0 a1 a2 a3 a4; clear hb)))
  | (go_at_call 40; go_must (first
    | (clear MK7; refine (H7.out AC DC cC dC _ EC.out XC.out UC.out YC.out).mono ?_; rintro e w' ⟨v, rfl, ⟨AD, cD, DD, dD, rfl, x2, x3, y2, y3⟩, hb⟩; have HB := keepB HB hb; have KgB := zk KgB hb; have KgG := zk KgG hb; have KgC := zk KgC hb; have EB3 := zc EB3 hb; have UB3 := zc UB3 hb; have EG := zc EG hb; have UG := zc UG hb; have EC := zc EC hb; have UC := zc UC hb; have XD := zh x2; have YD := zh x3; have ED := zh y2; have UD := zh y3; clear x2 x3 y2 y3; clear a0 a1 a2 a3 a4; clear hb)))
  | (go_at_call 12; go_must (first
    | (clear MK9; refine (H9.out AB3 DB3 cB3 dB3 _ EB3.out XB3.out UB3.out YB3.out).mono ?_; rintro e w' ⟨v, rfl, ⟨AU1, cU1, DU1, dU1, rfl, x2, x3, y2, y3⟩, hb⟩; have HB := keepB HB hb; have KgB := zk KgB hb; have KgG := zk KgG hb; have KgV := zk KgV hb; have EB3 := zc EB3 hb; have UB3 := zc UB3 hb; have EG := zc EG hb; have UG := zc UG hb; have XU1 := zh x2; have YU1 := zh x3; have EU1 := zh y2; have UU1 := zh y3; clear x2 x3 y2 y3; clear a0 a1 a2 a3 a4; clear hb)))
  | (go_at_call 15; go_must (first
    | (clear MK10; refine (H10.out AU1 DU1 cU1 dU1 _ EU1.out XU1.out UU1.out YU1.out).mono ?_; rintro e w' ⟨v, rfl, ⟨AU2, cU2, DU2, dU2, rfl, x2, x3, y2, y3⟩, hb⟩; have HB := keepB HB hb; have KgG := zk KgG hb; have KgV := zk KgV hb; have KgU := zk KgU hb; have EG := zc EG hb; have UG := zc UG hb; have EU1 := zc EU1 hb; have UU1 := zc UU1 hb; have XU2 := zh x2; have YU2 := zh x3; have EU2 := zh y2; have UU2 := zh y3; clear x2 x3 y2 y3; clear a0 a1 a2 a3 a4; clear hb)))
  | (go_at_call 17; go_must (first
    | (clear MK11; refine (H11.out AU2 DU2 cU2 dU2 _ EU2.out XU2.out UU2.out YU2.out gl Kl.out).mono ?_; rintro e w' ⟨v, rfl, ⟨AU3, cU3, DU3, dU3, rfl, x2, x3, y2, y3⟩, hb⟩; have HB := keepB HB hb; have KgG := zk KgG hb; have KgV := zk KgV hb; have KgU := zk KgU hb; have EG := zc EG hb; have UG := zc UG hb; have EU2 := zc EU2 hb; have UU2 := zc UU2 hb; have XU3 := zh x2; have YU3 := zh x3; have EU3 := zh y2; have UU3 := zh y3; clear x2 x3 y2 y3; clear a0 a1 a2 a3 a4; clear hb)))
  | (go_at_call 41; go_must (refine (HE.out AG DG cG dG _ EG.out XG.out UG.out YG.out).mono ?_; rintro e w' ⟨rfl, hb⟩; have HB := keepB HB hb; have KgV := zk KgV hb; have KgW := zk KgW hb; have b0 := zb KgV.out 0 (.int .u64 i8); have b1 := zb KgV.out 1 (.string ⟨#[121]⟩); have b2 := zb KgV.out 2 (.bool m8); have b3 := zb KgV.out 3 (.int .i64 q8); have d0 := zb KgW.out 0 (.int .u64 i13); have d1 := zb KgW.out 1 (.string ⟨#[119,104,111,108,101]⟩); have d2 := zb KgW.out 2 (.bool m13); have d3 := zb KgW.out 3 (.int .i64 q13); clear hb))
  | ((with_reducible refine gate_store (t := 26) (p := 1) (v := .tmp 32) rfl ?_); go_must (refine wpList_store_row rfl rfl 26 (.tmp 1) (.tmp 32) rfl gB 0 _ 26 (.agg #[.string ⟨#[98,111,120]⟩, .int .i64 0, .slice none 0 0, .slice none 0 0, .int .u64 0]) [.string ⟨#[98,111,120]⟩, .int .i64 0, .slice none 0 0, .slice none 0 0, .int .u64 0] rfl rfl KgB.out rfl isz_bucket (by show 0 + 5 ≤ 5; decide) (by simp [Value.oneCell']) ?_; intro ws0 hk ho; clear HD WD; have KgB : Hid (ws0.heap[gB]? = some (.cells #[.string ⟨#[98,111,120]⟩, .int .i64 0, .slice none 0 0, .slice none 0 0, .int .u64 0] 26 (0, 0))) := hk; have HB := zo ho HB LgB; have a0 := zb KgB.out 0 (.string ⟨#[98,111,120]⟩); have a1 := zb KgB.out 1 (.int .i64 0); have a2 := zb KgB.out 2 (.slice none 0 0); have a3 := zb KgB.out 3 (.slice none 0 0); have a4 := zb KgB.out 4 (.int .u64 0); have MK1 := zh True.intro; clear hk ho))
  | ((with_reducible refine gate_store (t := 26) (p := 1) (v := .tmp 37) rfl ?_); go_must (refine wpList_store_row rfl rfl 26 (.tmp 1) (.tmp 37) rfl gB 0 _ 26 (.agg #[.string B1.f0, .int .i64 B1.f1, .slice AB1 B1.f2.length cB1, .slice DB1 B1.f3.length dB1, .int .u64 B1.f4]) [.string B1.f0, .int .i64 B1.f1, .slice AB1 B1.f2.length cB1, .slice DB1 B1.f3.length dB1, .int .u64 B1.f4] rfl rfl KgB.out rfl isz_bucket (by show 0 + 5 ≤ 5; decide) (by simp [Value.oneCell']) ?_; intro ws1 hk ho; have EB1 := zh (keepE EB1.out KgB.out (bk_like _ _ _ _ _ _ _ _ _) ho.out); have UB1 := zh (keepU UB1.out KgB.out (bk_like _ _ _ _ _ _ _ _ _) ho.out); have KgB : Hid (ws1.heap[gB]? = some (.cells #[.string B1.f0, .int .i64 B1.f1, .slice AB1 B1.f2.length cB1, .slice DB1 B1.f3.length dB1, .int .u64 B1.f4] 26 (0, 0))) := hk; have HB := zo ho HB LgB; have a0 := zb KgB.out 0 (.string B1.f0); have a1 := zb KgB.out 1 (.int .i64 B1.f1); have a2 := zb KgB.out 2 (.slice AB1 B1.f2.length cB1); have a3 := zb KgB.out 3 (.slice DB1 B1.f3.length dB1); have a4 := zb KgB.out 4 (.int .u64 B1.f4); have MK2 := zh True.intro; clear hk ho))
  | ((with_reducible refine gate_store (t := 26) (p := 1) (v := .tmp 43) rfl ?_); go_must (refine wpList_store_row rfl rfl 26 (.tmp 1) (.tmp 43) rfl gB 0 _ 26 (.agg #[.string B2.f0, .int .i64 B2.f1, .slice AB2 B2.f2.length cB2, .slice DB2 B2.f3.length dB2, .int .u64 B2.f4]) [.string B2.f0, .int .i64 B2.f1, .slice AB2 B2.f2.length cB2, .slice DB2 B2.f3.length dB2, .int .u64 B2.f4] rfl rfl KgB.out rfl isz_bucket (by show 0 + 5 ≤ 5; decide) (by simp [Value.oneCell']) ?_; intro ws2 hk ho; have EB2 := zh (keepE EB2.out KgB.out (bk_like _ _ _ _ _ _ _ _ _) ho.out); have UB2 := zh (keepU UB2.out KgB.out (bk_like _ _ _ _ _ _ _ _ _) ho.out); have KgB : Hid (ws2.heap[gB]? = some (.cells #[.string B2.f0, .int .i64 B2.f1, .slice AB2 B2.f2.length cB2, .slice DB2 B2.f3.length dB2, .int .u64 B2.f4] 26 (0, 0))) := hk; have HB := zo ho HB LgB; have a0 := zb KgB.out 0 (.string B2.f0); have a1 := zb KgB.out 1 (.int .i64 B2.f1); have a2 := zb KgB.out 2 (.slice AB2 B2.f2.length cB2); have a3 := zb KgB.out 3 (.slice DB2 B2.f3.length dB2); have a4 := zb KgB.out 4 (.int .u64 B2.f4); have MK3 := zh True.intro; clear hk ho))
  | ((with_reducible refine gate_store (t := 26) (p := 7) (v := .tmp 49) rfl ?_); go_must (refine wpList_store_row rfl rfl 26 (.tmp 7) (.tmp 49) rfl gG 0 _ 26 (.agg #[.string G.f0, .int .i64 G.f1, .slice AG G.f2.length cG, .slice DG G.f3.length dG, .int .u64 G.f4]) [.string G.f0, .int .i64 G.f1, .slice AG G.f2.length cG, .slice DG G.f3.length dG, .int .u64 G.f4] rfl rfl KgG.out rfl isz_bucket (by show 0 + 5 ≤ 5; decide) (by simp [Value.oneCell']) ?_; intro ws3 hk ho; have EB2 := zc EB2 (ho.out.below HD.out HD.out.size WD.out); have UB2 := zc UB2 (ho.out.below HD.out HD.out.size WD.out); have EG := zc EG (ho.out.below HD.out HD.out.size WD.out); have UG := zc UG (ho.out.below HD.out HD.out.size WD.out); clear HD WD; have KgG : Hid (ws3.heap[gG]? = some (.cells #[.string G.f0, .int .i64 G.f1, .slice AG G.f2.length cG, .slice DG G.f3.length dG, .int .u64 G.f4] 26 (0, 0))) := hk; have HB := zo ho HB LgG; have KgB := zl ho KgB (by have := NgBgG.out; omega); have a0 := zb KgB.out 0 (.string B2.f0); have a1 := zb KgB.out 1 (.int .i64 B2.f1); have a2 := zb KgB.out 2 (.slice AB2 B2.f2.length cB2); have a3 := zb KgB.out 3 (.slice DB2 B2.f3.length dB2); have a4 := zb KgB.out 4 (.int .u64 B2.f4); have MK4 := zh True.intro; clear hk ho))
  | ((with_reducible refine gate_store (t := 26) (p := 1) (v := .tmp 55) rfl ?_); go_must (refine wpList_store_row rfl rfl 26 (.tmp 1) (.tmp 55) rfl gB 0 _ 26 (.agg #[.string B3.f0, .int .i64 B3.f1, .slice AB3 B3.f2.length cB3, .slice DB3 B3.f3.length dB3, .int .u64 B3.f4]) [.string B3.f0, .int .i64 B3.f1, .slice AB3 B3.f2.length cB3, .slice DB3 B3.f3.length dB3, .int .u64 B3.f4] rfl rfl KgB.out rfl isz_bucket (by show 0 + 5 ≤ 5; decide) (by simp [Value.oneCell']) ?_; intro ws4 hk ho; have EB3 := zh (keepE EB3.out KgB.out (bk_like _ _ _ _ _ _ _ _ _) ho.out); have UB3 := zh (keepU UB3.out KgB.out (bk_like _ _ _ _ _ _ _ _ _) ho.out); have EG := zh (keepE EG.out KgB.out (bk_like _ _ _ _ _ _ _ _ _) ho.out); have UG := zh (keepU UG.out KgB.out (bk_like _ _ _ _ _ _ _ _ _) ho.out); have KgB : Hid (ws4.heap[gB]? = some (.cells #[.string B3.f0, .int .i64 B3.f1, .slice AB3 B3.f2.length cB3, .slice DB3 B3.f3.length dB3, .int .u64 B3.f4] 26 (0, 0))) := hk; have HB := zo ho HB LgB; have KgG := zl ho KgG (by have := NgBgG.out; omega); have a0 := zb KgB.out 0 (.string B3.f0); have a1 := zb KgB.out 1 (.int .i64 B3.f1); have a2 := zb KgB.out 2 (.slice AB3 B3.f2.length cB3); have a3 := zb KgB.out 3 (.slice DB3 B3.f3.length dB3); have a4 := zb KgB.out 4 (.int .u64 B3.f4); have MK5 := zh True.intro; clear hk ho))
  | ((with_reducible refine gate_store (t := 26) (p := 11) (v := .tmp 60) rfl ?_); go_must (refine wpList_store_row rfl rfl 26 (.tmp 11) (.tmp 60) rfl gC 0 _ 26 (.agg #[.string C.f0, .int .i64 C.f1, .slice AC C.f2.length cC, .slice DC C.f3.length dC, .int .u64 C.f4]) [.string C.f0, .int .i64 C.f1, .slice AC C.f2.length cC, .slice DC C.f3.length dC, .int .u64 C.f4] rfl rfl KgC.out rfl isz_bucket (by show 0 + 5 ≤ 5; decide) (by simp [Value.oneCell']) ?_; intro ws5 hk ho; have EB3 := zc EB3 (ho.out.below HD.out HD.out.size WD.out); have UB3 := zc UB3 (ho.out.below HD.out HD.out.size WD.out); have EG := zc EG (ho.out.below HD.out HD.out.size WD.out); have UG := zc UG (ho.out.below HD.out HD.out.size WD.out); have EC := zc EC (ho.out.below HD.out HD.out.size WD.out); have UC := zc UC (ho.out.below HD.out HD.out.size WD.out); clear HD WD; have KgC : Hid (ws5.heap[gC]? = some (.cells #[.string C.f0, .int .i64 C.f1, .slice AC C.f2.length cC, .slice DC C.f3.length dC, .int .u64 C.f4] 26 (0, 0))) := hk; have HB := zo ho HB LgC; have KgB := zl ho KgB (by have := NgBgC.out; omega); have KgG := zl ho KgG (by have := NgGgC.out; omega); have a0 := zb KgC.out 0 (.string C.f0); have a1 := zb KgC.out 1 (.int .i64 C.f1); have a2 := zb KgC.out 2 (.slice AC C.f2.length cC); have a3 := zb KgC.out 3 (.slice DC C.f3.length dC); have a4 := zb KgC.out 4 (.int .u64 C.f4); have MK6 := zh True.intro; clear hk ho))
  | ((with_reducible refine gate_store (t := 47) (p := 14) (v := .tmp 66) rfl ?_); go_must (refine wpList_store_row rfl rfl 47 (.tmp 14) (.tmp 66) rfl gv 0 _ 47 (.agg #[.int .u64 i6, .string s6, .bool m6, .int .i64 q6]) [.int .u64 i6, .string s6, .bool m6, .int .i64 q6] rfl rfl Kgv.out rfl (by kernel_rfl) (by show 0 + 4 ≤ 4; decide) (by simp [Value.oneCell']) ?_; intro ws6 hk ho; have EB3 := zc EB3 (ho.out.below HD.out HD.out.size WD.out); have UB3 := zc UB3 (ho.out.below HD.out HD.out.size WD.out); have EG := zc EG (ho.out.below HD.out HD.out.size WD.out); have UG := zc UG (ho.out.below HD.out HD.out.size WD.out); have EC := zc EC (ho.out.below HD.out HD.out.size WD.out); have UC := zc UC (ho.out.below HD.out HD.out.size WD.out); clear HD WD; have Kgv : Hid (ws6.heap[gv]? = some (.cells #[.int .u64 i6, .string s6, .bool m6, .int .i64 q6] 47 (0, 0))) := hk; have HB := zo ho HB Lgv; have KgB := zl ho KgB (by have := NgBgv.out; omega); have KgG := zl ho KgG (by have := NgGgv.out; omega); have KgC := zl ho KgC (by have := NgCgv.out; omega); have a0 := zb KgC.out 0 (.string C.f0); have a1 := zb KgC.out 1 (.int .i64 C.f1); have a2 := zb KgC.out 2 (.slice AC C.f2.length cC); have a3 := zb KgC.out 3 (.slice DC C.f3.length dC); have a4 := zb KgC.out 4 (.int .u64 C.f4); have MK7 := zh True.intro; clear hk ho))
  | ((with_reducible refine gate_store (t := 26) (p := 16) (v := .tmp 72) rfl ?_); go_must (refine wpList_store_row rfl rfl 26 (.tmp 16) (.tmp 72) rfl gD 0 _ 26 (.agg #[.string D.f0, .int .i64 D.f1, .slice AD D.f2.length cD, .slice DD D.f3.length dD, .int .u64 D.f4]) [.string D.f0, .int .i64 D.f1, .slice AD D.f2.length cD, .slice DD D.f3.length dD, .int .u64 D.f4] rfl rfl KgD.out rfl isz_bucket (by show 0 + 5 ≤ 5; decide) (by simp [Value.oneCell']) ?_; intro ws7 hk ho; have EB3 := zc EB3 (ho.out.below HD.out HD.out.size WD.out); have UB3 := zc UB3 (ho.out.below HD.out HD.out.size WD.out); have EG := zc EG (ho.out.below HD.out HD.out.size WD.out); have UG := zc UG (ho.out.below HD.out HD.out.size WD.out); have ED := zc ED (ho.out.below HD.out HD.out.size WD.out); have UD := zc UD (ho.out.below HD.out HD.out.size WD.out); clear HD WD; have KgD : Hid (ws7.heap[gD]? = some (.cells #[.string D.f0, .int .i64 D.f1, .slice AD D.f2.length cD, .slice DD D.f3.length dD, .int .u64 D.f4] 26 (0, 0))) := hk; have HB := zo ho HB LgD; have KgB := zl ho KgB (by have := NgBgD.out; omega); have KgG := zl ho KgG (by have := NgGgD.out; omega); have a0 := zb KgD.out 0 (.string D.f0); have a1 := zb KgD.out 1 (.int .i64 D.f1); have a2 := zb KgD.out 2 (.slice AD D.f2.length cD); have a3 := zb KgD.out 3 (.slice DD D.f3.length dD); have a4 := zb KgD.out 4 (.int .u64 D.f4); have MK8 := zh True.intro; clear hk ho))
  | ((with_reducible refine gate_store (t := 47) (p := 18) (v := .tmp 77) rfl ?_); go_must (refine wpList_store_row rfl rfl 47 (.tmp 18) (.tmp 77) rfl gV 0 _ 47 (.agg #[.int .u64 i8, .string ⟨#[121]⟩, .bool m8, .int .i64 q8]) [.int .u64 i8, .string ⟨#[121]⟩, .bool m8, .int .i64 q8] rfl rfl KgV.out rfl (by kernel_rfl) (by show 0 + 4 ≤ 4; decide) (by simp [Value.oneCell']) ?_; intro ws8 hk ho; have EB3 := zc EB3 (ho.out.below HD.out HD.out.size WD.out); have UB3 := zc UB3 (ho.out.below HD.out HD.out.size WD.out); have EG := zc EG (ho.out.below HD.out HD.out.size WD.out); have UG := zc UG (ho.out.below HD.out HD.out.size WD.out); clear HD WD; have KgV : Hid (ws8.heap[gV]? = some (.cells #[.int .u64 i8, .string ⟨#[121]⟩, .bool m8, .int .i64 q8] 47 (0, 0))) := hk; have HB := zo ho HB LgV; have KgB := zl ho KgB (by have := NgBgV.out; omega); have KgG := zl ho KgG (by have := NgGgV.out; omega); have a0 := zb KgB.out 0 (.string B3.f0); have a1 := zb KgB.out 1 (.int .i64 B3.f1); have a2 := zb KgB.out 2 (.slice AB3 B3.f2.length cB3); have a3 := zb KgB.out 3 (.slice DB3 B3.f3.length dB3); have a4 := zb KgB.out 4 (.int .u64 B3.f4); have MK9 := zh True.intro; clear hk ho))
  | ((with_reducible refine gate_store (t := 26) (p := 20) (v := .tmp 82) rfl ?_); go_must (refine wpList_store_row rfl rfl 26 (.tmp 20) (.tmp 82) rfl gU 0 _ 26 (.agg #[.string U1.f0, .int .i64 U1.f1, .slice AU1 U1.f2.length cU1, .slice DU1 U1.f3.length dU1, .int .u64 U1.f4]) [.string U1.f0, .int .i64 U1.f1, .slice AU1 U1.f2.length cU1, .slice DU1 U1.f3.length dU1, .int .u64 U1.f4] rfl rfl KgU.out rfl isz_bucket (by show 0 + 5 ≤ 5; decide) (by simp [Value.oneCell']) ?_; intro ws9 hk ho; have EG := zc EG (ho.out.below HD.out HD.out.size WD.out); have UG := zc UG (ho.out.below HD.out HD.out.size WD.out); have EU1 := zc EU1 (ho.out.below HD.out HD.out.size WD.out); have UU1 := zc UU1 (ho.out.below HD.out HD.out.size WD.out); clear HD WD; have KgU : Hid (ws9.heap[gU]? = some (.cells #[.string U1.f0, .int .i64 U1.f1, .slice AU1 U1.f2.length cU1, .slice DU1 U1.f3.length dU1, .int .u64 U1.f4] 26 (0, 0))) := hk; have HB := zo ho HB LgU; have KgG := zl ho KgG (by have := NgGgU.out; omega); have KgV := zl ho KgV (by have := NgVgU.out; omega); have a0 := zb KgU.out 0 (.string U1.f0); have a1 := zb KgU.out 1 (.int .i64 U1.f1); have a2 := zb KgU.out 2 (.slice AU1 U1.f2.length cU1); have a3 := zb KgU.out 3 (.slice DU1 U1.f3.length dU1); have a4 := zb KgU.out 4 (.int .u64 U1.f4); have MK10 := zh True.intro; clear hk ho))
  | ((with_reducible refine gate_store (t := 26) (p := 20) (v := .tmp 90) rfl ?_); go_must (refine wpList_store_row rfl rfl 26 (.tmp 20) (.tmp 90) rfl gU 0 _ 26 (.agg #[.string U2.f0, .int .i64 U2.f1, .slice AU2 U2.f2.length cU2, .slice DU2 U2.f3.length dU2, .int .u64 U2.f4]) [.string U2.f0, .int .i64 U2.f1, .slice AU2 U2.f2.length cU2, .slice DU2 U2.f3.length dU2, .int .u64 U2.f4] rfl rfl KgU.out rfl isz_bucket (by show 0 + 5 ≤ 5; decide) (by simp [Value.oneCell']) ?_; intro ws10 hk ho; have EG := zh (keepE EG.out KgU.out (bk_like _ _ _ _ _ _ _ _ _) ho.out); have UG := zh (keepU UG.out KgU.out (bk_like _ _ _ _ _ _ _ _ _) ho.out); have EU2 := zh (keepE EU2.out KgU.out (bk_like _ _ _ _ _ _ _ _ _) ho.out); have UU2 := zh (keepU UU2.out KgU.out (bk_like _ _ _ _ _ _ _ _ _) ho.out); have KgU : Hid (ws10.heap[gU]? = some (.cells #[.string U2.f0, .int .i64 U2.f1, .slice AU2 U2.f2.length cU2, .slice DU2 U2.f3.length dU2, .int .u64 U2.f4] 26 (0, 0))) := hk; have HB := zo ho HB LgU; have KgG := zl ho KgG (by have := NgGgU.out; omega); have KgV := zl ho KgV (by have := NgVgU.out; omega); have a0 := zb KgU.out 0 (.string U2.f0); have a1 := zb KgU.out 1 (.int .i64 U2.f1); have a2 := zb KgU.out 2 (.slice AU2 U2.f2.length cU2); have a3 := zb KgU.out 3 (.slice DU2 U2.f3.length dU2); have a4 := zb KgU.out 4 (.int .u64 U2.f4); have MK11 := zh True.intro; clear hk ho))
  | ((with_reducible refine gate_store (t := 26) (p := 20) (v := .tmp 100) rfl ?_); go_must (refine wpList_store_row rfl rfl 26 (.tmp 20) (.tmp 100) rfl gU 0 _ 26 (.agg #[.string U3.f0, .int .i64 U3.f1, .slice AU3 U3.f2.length cU3, .slice DU3 U3.f3.length dU3, .int .u64 U3.f4]) [.string U3.f0, .int .i64 U3.f1, .slice AU3 U3.f2.length cU3, .slice DU3 U3.f3.length dU3, .int .u64 U3.f4] rfl rfl KgU.out rfl isz_bucket (by show 0 + 5 ≤ 5; decide) (by simp [Value.oneCell']) ?_; intro ws11 hk ho; have EG := zh (keepE EG.out KgU.out (bk_like _ _ _ _ _ _ _ _ _) ho.out); have UG := zh (keepU UG.out KgU.out (bk_like _ _ _ _ _ _ _ _ _) ho.out); have EU3 := zh (keepE EU3.out KgU.out (bk_like _ _ _ _ _ _ _ _ _) ho.out); have UU3 := zh (keepU UU3.out KgU.out (bk_like _ _ _ _ _ _ _ _ _) ho.out); have KgU : Hid (ws11.heap[gU]? = some (.cells #[.string U3.f0, .int .i64 U3.f1, .slice AU3 U3.f2.length cU3, .slice DU3 U3.f3.length dU3, .int .u64 U3.f4] 26 (0, 0))) := hk; have HB := zo ho HB LgU; have KgG := zl ho KgG (by have := NgGgU.out; omega); have KgV := zl ho KgV (by have := NgVgU.out; omega); have a0 := zb KgU.out 0 (.string U3.f0); have a1 := zb KgU.out 1 (.int .i64 U3.f1); have a2 := zb KgU.out 2 (.slice AU3 U3.f2.length cU3); have a3 := zb KgU.out 3 (.slice DU3 U3.f3.length dU3); have a4 := zb KgU.out 4 (.int .u64 U3.f4); have MK12 := zh True.intro; clear hk ho))
  | ((with_reducible refine gate_store (t := 47) (p := 28) (v := .tmp 107) rfl ?_); go_must (refine wpList_store_row rfl rfl 47 (.tmp 28) (.tmp 107) rfl gW 0 _ 47 (.agg #[.int .u64 i13, .string ⟨#[119,104,111,108,101]⟩, .bool m13, .int .i64 q13]) [.int .u64 i13, .string ⟨#[119,104,111,108,101]⟩, .bool m13, .int .i64 q13] rfl rfl KgW.out rfl (by kernel_rfl) (by show 0 + 4 ≤ 4; decide) (by simp [Value.oneCell']) ?_; intro ws12 hk ho; have EG := zc EG (ho.out.below HD.out HD.out.size WD.out); have UG := zc UG (ho.out.below HD.out HD.out.size WD.out); clear HD WD; have KgW : Hid (ws12.heap[gW]? = some (.cells #[.int .u64 i13, .string ⟨#[119,104,111,108,101]⟩, .bool m13, .int .i64 q13] 47 (0, 0))) := hk; have HB := zo ho HB LgW; have KgG := zl ho KgG (by have := NgGgW.out; omega); have KgV := zl ho KgV (by have := NgVgW.out; omega); have MK13 := zh True.intro; have a0 := zb KgG.out 0 (.string G.f0); have a1 := zb KgG.out 1 (.int .i64 G.f1); have a2 := zb KgG.out 2 (.slice AG G.f2.length cG); have a3 := zb KgG.out 3 (.slice DG G.f3.length dG); have a4 := zb KgG.out 4 (.int .u64 G.f4); have b0 := zb KgV.out 0 (.int .u64 i8); have b1 := zb KgV.out 1 (.string ⟨#[121]⟩); have b2 := zb KgV.out 2 (.bool m8); have b3 := zb KgV.out 3 (.int .i64 q8); have d0 := zb KgW.out 0 (.int .u64 i13); have d1 := zb KgW.out 1 (.string ⟨#[119,104,111,108,101]⟩); have d2 := zb KgW.out 2 (.bool m13); have d3 := zb KgW.out 3 (.int .i64 q13); clear hk ho)))
 refine bodyPost_ret (v := .bool true) (by simp [results, Tryz.results14, go_sem]) rfl ?_
 exact ⟨rfl, HB.out⟩
end
section
open Go.WideMaps Go.Maps
def aB1 : S26 := (laidR (⟨⟨#[98,111,120]⟩, 0, [], [], 0⟩ : S26) ⟨#[97]⟩ (fun l id => putV l (⟨⟨#[98,111,120]⟩, 0, [], [], 0⟩ : S26).f1 ⟨id, ⟨#[120]⟩, false, 0⟩)).1
def aB2 : S26 := (laidR aB1 ⟨#[97]⟩ (fun l id => putV l aB1.f1 ⟨id, ⟨#[121]⟩, false, 0⟩)).1
def aG : S26 := (laidR aB2 ⟨#[97]⟩ (fun l id => deleteV l aB2.f1 id 0)).1
def aB3 : S26 := (turnB aB2 1).1
def aC : S26 := (laidR aB3 ⟨#[97]⟩ (fun l id => deleteV l aB3.f1 id 1)).1
def aD : S26 := (dropB aC ⟨#[97]⟩ 1).1
def aU1 : S26 := (beginB aB3 ⟨#[107]⟩).1
def aU2 : S26 := (layB aU1 (beginB aB3 ⟨#[107]⟩).2.1 ⟨1, ⟨#[119,104,111,108,101]⟩⟩).1
def aU3 : S26 := (wholeB aU2 (beginB aB3 ⟨#[107]⟩).2.1 [⟨1, (layB aU1 (beginB aB3 ⟨#[107]⟩).2.1 ⟨1, ⟨#[119,104,111,108,101]⟩⟩).2.1⟩] 2).1
theorem awake.walk (w : World) : Calls Tryz.prog 14 #[] w fun e w' => e = .returned (.bool true) ∧ Below w.heap.size w w' :=
 awake_gen aB1 aB2 aG aB3 aC aD aU1 aU2 aU3 (getB aC ⟨#[97]⟩).1.f0 (getB aC ⟨#[97]⟩).1.f3 (getB aD ⟨#[97]⟩).1.f0 (getB aD ⟨#[97]⟩).1.f3 (getB aU3 ⟨#[107]⟩).1.f0 (getB aU3 ⟨#[107]⟩).1.f3 (getB aC ⟨#[97]⟩).1.f1 (wholeB aU2 (beginB aB3 ⟨#[107]⟩).2.1 [⟨1, (layB aU1 (beginB aB3 ⟨#[107]⟩).2.1 ⟨1, ⟨#[119,104,111,108,101]⟩⟩).2.1⟩] 2).2.2.1 (getB aC ⟨#[97]⟩).1.f2 (getB aD ⟨#[97]⟩).1.f2 (getB aU3 ⟨#[107]⟩).1.f2 ((layB aU1 (beginB aB3 ⟨#[107]⟩).2.1 ⟨1, ⟨#[119,104,111,108,101]⟩⟩).2.1) ((beginB aB3 ⟨#[107]⟩).2.1) (wholeB aU2 (beginB aB3 ⟨#[107]⟩).2.1 [⟨1, (layB aU1 (beginB aB3 ⟨#[107]⟩).2.1 ⟨1, ⟨#[119,104,111,108,101]⟩⟩).2.1⟩] 2).2.1
  (by kernel_rfl) (by kernel_rfl) (by kernel_rfl) (by kernel_rfl) (by kernel_rfl) (by kernel_rfl) (by kernel_rfl) (by kernel_rfl) (by kernel_rfl) (by kernel_rfl) (by kernel_rfl) (by kernel_rfl) ⟨by kernel_rfl, by kernel_rfl⟩ w
end
section
open Go.WideMaps Go.Maps
attribute [local go_sem] Oper.semAt_some
def cutS (n : Nat) (s : ByteArray) : ByteArray := if n < s.size then s.extract 0 n else s
theorem few_cut (s : ByteArray) : cellarerlaw01_Few.f s = some (cutS 80 s) := by
 unfold cellarerlaw01_Few.f cutS
 by_cases h : 80 < s.size
 ·rw [if_pos (by omega), if_pos (by decide), if_pos (by omega), if_pos h]
 ·rw [if_neg (by omega), if_neg h]
theorem cut_00 (kd id n q : Int) (key data : ByteArray) (A : Option Addr) (m c : Nat) (w : World) (hm : m ≤ c) (hd : data.size ≤ 2001) (hp : m ≤ 40) :
  Calls Tryz.prog 22 #[.agg #[.int .u8 kd, .string key, .string data, .int .u64 id, .int .i64 n, .int .i64 q, .slice A m c]] w fun e w' => e = .returned (.agg #[.int .u8 kd, .string (cutS 80 key), .string data, .int .u64 id, .int .i64 n, .int .i64 q, .slice A m c]) ∧ Below w.heap.size w w' := by
 have HF := zh (fun (W : World) => cellarerlaw01_Few.calls key _ W (few_cut key))
 have d0 : decide ((2001 : Int) < (data.size : Int)) = false := decide_eq_false (by omega)
 have d1 : decide ((data.size : Int) > 2001) = false := decide_eq_false (by omega)
 have d2 : ¬ 2001 < data.size := by omega
 have p0 : decide ((40 : Int) < (m : Int)) = false := decide_eq_false (by omega)
 have p1 : decide ((m : Int) > 40) = false := decide_eq_false (by omega)
 have p2 : ¬ 40 < m := by omega
 have HB := zh (Below.refl w.heap.size w)
 have l1 : True := trivial
 have l2 : True := trivial
 have l3 : True := trivial
 go_enter Tryz.func22, Tryz.ntmps22
 go_wp2_with (first
  | ((with_reducible refine gate_dst (N := 1) rfl ?_); go_must (refine box_event ?hg (N := 1) ?hd (cs := #[.int .u8 kd, .string key, .string data, .int .u64 id, .int .i64 n, .int .i64 q, .slice A m c]) (t := 59) ?hr ?_; (case hd => rfl); (case hg => rfl); (case hr => first | (go_simp; done) | (go_simp; rfl)); intro gb hqgb w1 hbgb hbelgb; have Kgb := zh hbgb; have Lgb := zh (show w.heap.size ≤ gb by rw [hqgb]; exact HB.out.size); have HB := keepB HB hbelgb; clear hbgb hbelgb hqgb))
  | ((with_reducible refine gate_dst (N := 2) rfl ?_); go_must (refine box_event ?hg (N := 2) ?hd (cs := #[.int .u8 0, .string ⟨#[]⟩, .string ⟨#[]⟩, .int .u64 0, .int .i64 0, .int .i64 0, .slice none 0 0]) (t := 59) ?hr ?_; (case hd => rfl); (case hg => rfl); (case hr => first | (go_simp; done) | (go_simp; rfl)); intro go hqgo w2 hbgo hbelgo; have Kgo := zh hbgo; have Lgo := zh (show w.heap.size ≤ go by rw [hqgo]; exact HB.out.size); have HB := keepB HB hbelgo; have M2 := zh (show gb < go by rw [hqgo]; exact blk_lt Kgb.out); have Kgb := zk Kgb hbelgo; have a0 := zb Kgb.out 0 (.int .u8 kd); have a1 := zb Kgb.out 1 (.string key); have a2 := zb Kgb.out 2 (.string data); have a3 := zb Kgb.out 3 (.int .u64 id); have a4 := zb Kgb.out 4 (.int .i64 n); have a5 := zb Kgb.out 5 (.int .i64 q); have a6 := zb Kgb.out 6 (.slice A m c); clear hbgo hbelgo hqgo))
  | (go_at_call 11; go_must (refine (HF.out _).mono ?_; rintro e w3 ⟨rfl, hb⟩; have hb := outD hb; have HB := keepB HB hb; have Kgb := zk Kgb hb; have Kgo := zk Kgo hb; clear hb a0 a1 a2 a3 a4 a5 a6))
  | ((with_reducible refine gate_store (t := 9) (p := 6) (v := .tmp 5) rfl ?_); go_must (refine wpList_store_row rfl rfl 9 (.tmp 6) (.tmp 5) rfl gb 1 _ 59 (.string (cutS 80 key)) [.string (cutS 80 key)] rfl rfl Kgb.out rfl (by kernel_rfl) (by show 1 + 1 ≤ 7; decide) (by simp [Value.oneCell']) ?_; intro w4 hk ho; have Kgb : Hid (w4.heap[gb]? = some (.cells #[.int .u8 kd, .string (cutS 80 key), .string data, .int .u64 id, .int .i64 n, .int .i64 q, .slice A m c] 59 (0, 0))) := hk; have HB := zo ho HB Lgb; have Kgo := zl ho Kgo (by have := M2.out; omega); have b0 := zb Kgb.out 0 (.int .u8 kd); have b1 := zb Kgb.out 1 (.string (cutS 80 key)); have b2 := zb Kgb.out 2 (.string data); have b3 := zb Kgb.out 3 (.int .u64 id); have b4 := zb Kgb.out 4 (.int .i64 n); have b5 := zb Kgb.out 5 (.int .i64 q); have b6 := zb Kgb.out 6 (.slice A m c); clear hk ho))
  | ((with_reducible refine gate_store (t := 59) (p := 2) (v := .tmp 23) rfl ?_); go_must (refine wpList_store_row rfl rfl 59 (.tmp 2) (.tmp 23) rfl go 0 _ 59 (.agg #[.int .u8 kd, .string (cutS 80 key), .string data, .int .u64 id, .int .i64 n, .int .i64 q, .slice A m c]) [.int .u8 kd, .string (cutS 80 key), .string data, .int .u64 id, .int .i64 n, .int .i64 q, .slice A m c] rfl rfl Kgo.out rfl (by kernel_rfl) (by show 0 + 7 ≤ 7; decide) (by simp [Value.oneCell']) ?_; intro w7 hk ho; have HB := zo ho HB Lgo; have z0 := zb hk.out 0 (.int .u8 kd); have z1 := zb hk.out 1 (.string (cutS 80 key)); have z2 := zb hk.out 2 (.string data); have z3 := zb hk.out 3 (.int .u64 id); have z4 := zb hk.out 4 (.int .i64 n); have z5 := zb hk.out 5 (.int .i64 q); have z6 := zb hk.out 6 (.slice A m c); clear hk ho)))
 refine bodyPost_ret (v := .agg #[.int .u8 kd, .string (cutS 80 key), .string data, .int .u64 id, .int .i64 n, .int .i64 q, .slice A m c]) (by simp [results, Tryz.results22, go_sem, z0, z1, z2, z3, z4, z5, z6]) rfl ?_
 exact ⟨rfl, HB.out⟩
theorem cut_10 (kd id n q : Int) (key data : ByteArray) (A : Option Addr) (m c : Nat) (w : World) (hm : m ≤ c) (hd : 2001 < data.size) (hp : m ≤ 40) :
  Calls Tryz.prog 22 #[.agg #[.int .u8 kd, .string key, .string data, .int .u64 id, .int .i64 n, .int .i64 q, .slice A m c]] w fun e w' => e = .returned (.agg #[.int .u8 kd, .string (cutS 80 key), .string (data.extract 0 2001), .int .u64 id, .int .i64 n, .int .i64 q, .slice A m c]) ∧ Below w.heap.size w w' := by
 have HF := zh (fun (W : World) => cellarerlaw01_Few.calls key _ W (few_cut key))
 have d0 : decide ((2001 : Int) < (data.size : Int)) = true := decide_eq_true (by omega)
 have d1 : decide ((data.size : Int) > 2001) = true := decide_eq_true (by omega)
 have d2 : 2001 < data.size := by omega
 have p0 : decide ((40 : Int) < (m : Int)) = false := decide_eq_false (by omega)
 have p1 : decide ((m : Int) > 40) = false := decide_eq_false (by omega)
 have p2 : ¬ 40 < m := by omega
 have HB := zh (Below.refl w.heap.size w)
 have l1 : 2001 ≤ data.size := by omega
 have l2 : True := trivial
 have l3 : True := trivial
 go_enter Tryz.func22, Tryz.ntmps22
 go_wp2_with (first
  | ((with_reducible refine gate_dst (N := 1) rfl ?_); go_must (refine box_event ?hg (N := 1) ?hd (cs := #[.int .u8 kd, .string key, .string data, .int .u64 id, .int .i64 n, .int .i64 q, .slice A m c]) (t := 59) ?hr ?_; (case hd => rfl); (case hg => rfl); (case hr => first | (go_simp; done) | (go_simp; rfl)); intro gb hqgb w1 hbgb hbelgb; have Kgb := zh hbgb; have Lgb := zh (show w.heap.size ≤ gb by rw [hqgb]; exact HB.out.size); have HB := keepB HB hbelgb; clear hbgb hbelgb hqgb))
  | ((with_reducible refine gate_dst (N := 2) rfl ?_); go_must (refine box_event ?hg (N := 2) ?hd (cs := #[.int .u8 0, .string ⟨#[]⟩, .string ⟨#[]⟩, .int .u64 0, .int .i64 0, .int .i64 0, .slice none 0 0]) (t := 59) ?hr ?_; (case hd => rfl); (case hg => rfl); (case hr => first | (go_simp; done) | (go_simp; rfl)); intro go hqgo w2 hbgo hbelgo; have Kgo := zh hbgo; have Lgo := zh (show w.heap.size ≤ go by rw [hqgo]; exact HB.out.size); have HB := keepB HB hbelgo; have M2 := zh (show gb < go by rw [hqgo]; exact blk_lt Kgb.out); have Kgb := zk Kgb hbelgo; have a0 := zb Kgb.out 0 (.int .u8 kd); have a1 := zb Kgb.out 1 (.string key); have a2 := zb Kgb.out 2 (.string data); have a3 := zb Kgb.out 3 (.int .u64 id); have a4 := zb Kgb.out 4 (.int .i64 n); have a5 := zb Kgb.out 5 (.int .i64 q); have a6 := zb Kgb.out 6 (.slice A m c); clear hbgo hbelgo hqgo))
  | (go_at_call 11; go_must (refine (HF.out _).mono ?_; rintro e w3 ⟨rfl, hb⟩; have hb := outD hb; have HB := keepB HB hb; have Kgb := zk Kgb hb; have Kgo := zk Kgo hb; clear hb a0 a1 a2 a3 a4 a5 a6))
  | ((with_reducible refine gate_store (t := 9) (p := 6) (v := .tmp 5) rfl ?_); go_must (refine wpList_store_row rfl rfl 9 (.tmp 6) (.tmp 5) rfl gb 1 _ 59 (.string (cutS 80 key)) [.string (cutS 80 key)] rfl rfl Kgb.out rfl (by kernel_rfl) (by show 1 + 1 ≤ 7; decide) (by simp [Value.oneCell']) ?_; intro w4 hk ho; have Kgb : Hid (w4.heap[gb]? = some (.cells #[.int .u8 kd, .string (cutS 80 key), .string data, .int .u64 id, .int .i64 n, .int .i64 q, .slice A m c] 59 (0, 0))) := hk; have HB := zo ho HB Lgb; have Kgo := zl ho Kgo (by have := M2.out; omega); have b0 := zb Kgb.out 0 (.int .u8 kd); have b1 := zb Kgb.out 1 (.string (cutS 80 key)); have b2 := zb Kgb.out 2 (.string data); have b3 := zb Kgb.out 3 (.int .u64 id); have b4 := zb Kgb.out 4 (.int .i64 n); have b5 := zb Kgb.out 5 (.int .i64 q); have b6 := zb Kgb.out 6 (.slice A m c); clear hk ho))
  | ((with_reducible refine gate_store (t := 9) (p := 14) (v := .tmp 13) rfl ?_); go_must (refine wpList_store_row rfl rfl 9 (.tmp 14) (.tmp 13) rfl gb 2 _ 59 (.string (data.extract 0 2001)) [.string (data.extract 0 2001)] rfl rfl Kgb.out rfl (by kernel_rfl) (by show 2 + 1 ≤ 7; decide) (by simp [Value.oneCell']) ?_; intro w5 hk ho; have Kgb : Hid (w5.heap[gb]? = some (.cells #[.int .u8 kd, .string (cutS 80 key), .string (data.extract 0 2001), .int .u64 id, .int .i64 n, .int .i64 q, .slice A m c] 59 (0, 0))) := hk; have HB := zo ho HB Lgb; have Kgo := zl ho Kgo (by have := M2.out; omega); clear b0 b1 b2 b3 b4 b5 b6; have b0 := zb Kgb.out 0 (.int .u8 kd); have b1 := zb Kgb.out 1 (.string (cutS 80 key)); have b2 := zb Kgb.out 2 (.string (data.extract 0 2001)); have b3 := zb Kgb.out 3 (.int .u64 id); have b4 := zb Kgb.out 4 (.int .i64 n); have b5 := zb Kgb.out 5 (.int .i64 q); have b6 := zb Kgb.out 6 (.slice A m c); clear hk ho))
  | ((with_reducible refine gate_store (t := 59) (p := 2) (v := .tmp 23) rfl ?_); go_must (refine wpList_store_row rfl rfl 59 (.tmp 2) (.tmp 23) rfl go 0 _ 59 (.agg #[.int .u8 kd, .string (cutS 80 key), .string (data.extract 0 2001), .int .u64 id, .int .i64 n, .int .i64 q, .slice A m c]) [.int .u8 kd, .string (cutS 80 key), .string (data.extract 0 2001), .int .u64 id, .int .i64 n, .int .i64 q, .slice A m c] rfl rfl Kgo.out rfl (by kernel_rfl) (by show 0 + 7 ≤ 7; decide) (by simp [Value.oneCell']) ?_; intro w7 hk ho; have HB := zo ho HB Lgo; have z0 := zb hk.out 0 (.int .u8 kd); have z1 := zb hk.out 1 (.string (cutS 80 key)); have z2 := zb hk.out 2 (.string (data.extract 0 2001)); have z3 := zb hk.out 3 (.int .u64 id); have z4 := zb hk.out 4 (.int .i64 n); have z5 := zb hk.out 5 (.int .i64 q); have z6 := zb hk.out 6 (.slice A m c); clear hk ho)))
 refine bodyPost_ret (v := .agg #[.int .u8 kd, .string (cutS 80 key), .string (data.extract 0 2001), .int .u64 id, .int .i64 n, .int .i64 q, .slice A m c]) (by simp [results, Tryz.results22, go_sem, z0, z1, z2, z3, z4, z5, z6]) rfl ?_
 exact ⟨rfl, HB.out⟩
theorem cut_01 (kd id n q : Int) (key data : ByteArray) (A : Option Addr) (m c : Nat) (w : World) (hm : m ≤ c) (hd : data.size ≤ 2001) (hp : 40 < m) :
  Calls Tryz.prog 22 #[.agg #[.int .u8 kd, .string key, .string data, .int .u64 id, .int .i64 n, .int .i64 q, .slice A m c]] w fun e w' => e = .returned (.agg #[.int .u8 kd, .string (cutS 80 key), .string data, .int .u64 id, .int .i64 n, .int .i64 q, .slice A 40 c]) ∧ Below w.heap.size w w' := by
 have HF := zh (fun (W : World) => cellarerlaw01_Few.calls key _ W (few_cut key))
 have d0 : decide ((2001 : Int) < (data.size : Int)) = false := decide_eq_false (by omega)
 have d1 : decide ((data.size : Int) > 2001) = false := decide_eq_false (by omega)
 have d2 : ¬ 2001 < data.size := by omega
 have p0 : decide ((40 : Int) < (m : Int)) = true := decide_eq_true (by omega)
 have p1 : decide ((m : Int) > 40) = true := decide_eq_true (by omega)
 have p2 : 40 < m := by omega
 have HB := zh (Below.refl w.heap.size w)
 have l1 : True := trivial
 have l2 : 40 ≤ c := by omega
 have l3 : 40 ≤ m := by omega
 go_enter Tryz.func22, Tryz.ntmps22
 go_wp2_with (first
  | ((with_reducible refine gate_dst (N := 1) rfl ?_); go_must (refine box_event ?hg (N := 1) ?hd (cs := #[.int .u8 kd, .string key, .string data, .int .u64 id, .int .i64 n, .int .i64 q, .slice A m c]) (t := 59) ?hr ?_; (case hd => rfl); (case hg => rfl); (case hr => first | (go_simp; done) | (go_simp; rfl)); intro gb hqgb w1 hbgb hbelgb; have Kgb := zh hbgb; have Lgb := zh (show w.heap.size ≤ gb by rw [hqgb]; exact HB.out.size); have HB := keepB HB hbelgb; clear hbgb hbelgb hqgb))
  | ((with_reducible refine gate_dst (N := 2) rfl ?_); go_must (refine box_event ?hg (N := 2) ?hd (cs := #[.int .u8 0, .string ⟨#[]⟩, .string ⟨#[]⟩, .int .u64 0, .int .i64 0, .int .i64 0, .slice none 0 0]) (t := 59) ?hr ?_; (case hd => rfl); (case hg => rfl); (case hr => first | (go_simp; done) | (go_simp; rfl)); intro go hqgo w2 hbgo hbelgo; have Kgo := zh hbgo; have Lgo := zh (show w.heap.size ≤ go by rw [hqgo]; exact HB.out.size); have HB := keepB HB hbelgo; have M2 := zh (show gb < go by rw [hqgo]; exact blk_lt Kgb.out); have Kgb := zk Kgb hbelgo; have a0 := zb Kgb.out 0 (.int .u8 kd); have a1 := zb Kgb.out 1 (.string key); have a2 := zb Kgb.out 2 (.string data); have a3 := zb Kgb.out 3 (.int .u64 id); have a4 := zb Kgb.out 4 (.int .i64 n); have a5 := zb Kgb.out 5 (.int .i64 q); have a6 := zb Kgb.out 6 (.slice A m c); clear hbgo hbelgo hqgo))
  | (go_at_call 11; go_must (refine (HF.out _).mono ?_; rintro e w3 ⟨rfl, hb⟩; have hb := outD hb; have HB := keepB HB hb; have Kgb := zk Kgb hb; have Kgo := zk Kgo hb; clear hb a0 a1 a2 a3 a4 a5 a6))
  | ((with_reducible refine gate_store (t := 9) (p := 6) (v := .tmp 5) rfl ?_); go_must (refine wpList_store_row rfl rfl 9 (.tmp 6) (.tmp 5) rfl gb 1 _ 59 (.string (cutS 80 key)) [.string (cutS 80 key)] rfl rfl Kgb.out rfl (by kernel_rfl) (by show 1 + 1 ≤ 7; decide) (by simp [Value.oneCell']) ?_; intro w4 hk ho; have Kgb : Hid (w4.heap[gb]? = some (.cells #[.int .u8 kd, .string (cutS 80 key), .string data, .int .u64 id, .int .i64 n, .int .i64 q, .slice A m c] 59 (0, 0))) := hk; have HB := zo ho HB Lgb; have Kgo := zl ho Kgo (by have := M2.out; omega); have b0 := zb Kgb.out 0 (.int .u8 kd); have b1 := zb Kgb.out 1 (.string (cutS 80 key)); have b2 := zb Kgb.out 2 (.string data); have b3 := zb Kgb.out 3 (.int .u64 id); have b4 := zb Kgb.out 4 (.int .i64 n); have b5 := zb Kgb.out 5 (.int .i64 q); have b6 := zb Kgb.out 6 (.slice A m c); clear hk ho))
  | ((with_reducible refine gate_store (t := 35) (p := 22) (v := .tmp 21) rfl ?_); go_must (refine wpList_store_row rfl rfl 35 (.tmp 22) (.tmp 21) rfl gb 6 _ 59 (.slice A 40 c) [.slice A 40 c] rfl rfl Kgb.out rfl (by kernel_rfl) (by show 6 + 1 ≤ 7; decide) (by simp [Value.oneCell']) ?_; intro w6 hk ho; have Kgb : Hid (w6.heap[gb]? = some (.cells #[.int .u8 kd, .string (cutS 80 key), .string data, .int .u64 id, .int .i64 n, .int .i64 q, .slice A 40 c] 59 (0, 0))) := hk; have HB := zo ho HB Lgb; have Kgo := zl ho Kgo (by have := M2.out; omega); clear b0 b1 b2 b3 b4 b5 b6; have b0 := zb Kgb.out 0 (.int .u8 kd); have b1 := zb Kgb.out 1 (.string (cutS 80 key)); have b2 := zb Kgb.out 2 (.string data); have b3 := zb Kgb.out 3 (.int .u64 id); have b4 := zb Kgb.out 4 (.int .i64 n); have b5 := zb Kgb.out 5 (.int .i64 q); have b6 := zb Kgb.out 6 (.slice A 40 c); clear hk ho))
  | ((with_reducible refine gate_store (t := 59) (p := 2) (v := .tmp 23) rfl ?_); go_must (refine wpList_store_row rfl rfl 59 (.tmp 2) (.tmp 23) rfl go 0 _ 59 (.agg #[.int .u8 kd, .string (cutS 80 key), .string data, .int .u64 id, .int .i64 n, .int .i64 q, .slice A 40 c]) [.int .u8 kd, .string (cutS 80 key), .string data, .int .u64 id, .int .i64 n, .int .i64 q, .slice A 40 c] rfl rfl Kgo.out rfl (by kernel_rfl) (by show 0 + 7 ≤ 7; decide) (by simp [Value.oneCell']) ?_; intro w7 hk ho; have HB := zo ho HB Lgo; have z0 := zb hk.out 0 (.int .u8 kd); have z1 := zb hk.out 1 (.string (cutS 80 key)); have z2 := zb hk.out 2 (.string data); have z3 := zb hk.out 3 (.int .u64 id); have z4 := zb hk.out 4 (.int .i64 n); have z5 := zb hk.out 5 (.int .i64 q); have z6 := zb hk.out 6 (.slice A 40 c); clear hk ho)))
 refine bodyPost_ret (v := .agg #[.int .u8 kd, .string (cutS 80 key), .string data, .int .u64 id, .int .i64 n, .int .i64 q, .slice A 40 c]) (by simp [results, Tryz.results22, go_sem, z0, z1, z2, z3, z4, z5, z6]) rfl ?_
 exact ⟨rfl, HB.out⟩
theorem cut_11 (kd id n q : Int) (key data : ByteArray) (A : Option Addr) (m c : Nat) (w : World) (hm : m ≤ c) (hd : 2001 < data.size) (hp : 40 < m) :
  Calls Tryz.prog 22 #[.agg #[.int .u8 kd, .string key, .string data, .int .u64 id, .int .i64 n, .int .i64 q, .slice A m c]] w fun e w' => e = .returned (.agg #[.int .u8 kd, .string (cutS 80 key), .string (data.extract 0 2001), .int .u64 id, .int .i64 n, .int .i64 q, .slice A 40 c]) ∧ Below w.heap.size w w' := by
 have HF := zh (fun (W : World) => cellarerlaw01_Few.calls key _ W (few_cut key))
 have d0 : decide ((2001 : Int) < (data.size : Int)) = true := decide_eq_true (by omega)
 have d1 : decide ((data.size : Int) > 2001) = true := decide_eq_true (by omega)
 have d2 : 2001 < data.size := by omega
 have p0 : decide ((40 : Int) < (m : Int)) = true := decide_eq_true (by omega)
 have p1 : decide ((m : Int) > 40) = true := decide_eq_true (by omega)
 have p2 : 40 < m := by omega
 have HB := zh (Below.refl w.heap.size w)
 have l1 : 2001 ≤ data.size := by omega
 have l2 : 40 ≤ c := by omega
 have l3 : 40 ≤ m := by omega
 go_enter Tryz.func22, Tryz.ntmps22
 go_wp2_with (first
  | ((with_reducible refine gate_dst (N := 1) rfl ?_); go_must (refine box_event ?hg (N := 1) ?hd (cs := #[.int .u8 kd, .string key, .string data, .int .u64 id, .int .i64 n, .int .i64 q, .slice A m c]) (t := 59) ?hr ?_; (case hd => rfl); (case hg => rfl); (case hr => first | (go_simp; done) | (go_simp; rfl)); intro gb hqgb w1 hbgb hbelgb; have Kgb := zh hbgb; have Lgb := zh (show w.heap.size ≤ gb by rw [hqgb]; exact HB.out.size); have HB := keepB HB hbelgb; clear hbgb hbelgb hqgb))
  | ((with_reducible refine gate_dst (N := 2) rfl ?_); go_must (refine box_event ?hg (N := 2) ?hd (cs := #[.int .u8 0, .string ⟨#[]⟩, .string ⟨#[]⟩, .int .u64 0, .int .i64 0, .int .i64 0, .slice none 0 0]) (t := 59) ?hr ?_; (case hd => rfl); (case hg => rfl); (case hr => first | (go_simp; done) | (go_simp; rfl)); intro go hqgo w2 hbgo hbelgo; have Kgo := zh hbgo; have Lgo := zh (show w.heap.size ≤ go by rw [hqgo]; exact HB.out.size); have HB := keepB HB hbelgo; have M2 := zh (show gb < go by rw [hqgo]; exact blk_lt Kgb.out); have Kgb := zk Kgb hbelgo; have a0 := zb Kgb.out 0 (.int .u8 kd); have a1 := zb Kgb.out 1 (.string key); have a2 := zb Kgb.out 2 (.string data); have a3 := zb Kgb.out 3 (.int .u64 id); have a4 := zb Kgb.out 4 (.int .i64 n); have a5 := zb Kgb.out 5 (.int .i64 q); have a6 := zb Kgb.out 6 (.slice A m c); clear hbgo hbelgo hqgo))
  | (go_at_call 11; go_must (refine (HF.out _).mono ?_; rintro e w3 ⟨rfl, hb⟩; have hb := outD hb; have HB := keepB HB hb; have Kgb := zk Kgb hb; have Kgo := zk Kgo hb; clear hb a0 a1 a2 a3 a4 a5 a6))
  | ((with_reducible refine gate_store (t := 9) (p := 6) (v := .tmp 5) rfl ?_); go_must (refine wpList_store_row rfl rfl 9 (.tmp 6) (.tmp 5) rfl gb 1 _ 59 (.string (cutS 80 key)) [.string (cutS 80 key)] rfl rfl Kgb.out rfl (by kernel_rfl) (by show 1 + 1 ≤ 7; decide) (by simp [Value.oneCell']) ?_; intro w4 hk ho; have Kgb : Hid (w4.heap[gb]? = some (.cells #[.int .u8 kd, .string (cutS 80 key), .string data, .int .u64 id, .int .i64 n, .int .i64 q, .slice A m c] 59 (0, 0))) := hk; have HB := zo ho HB Lgb; have Kgo := zl ho Kgo (by have := M2.out; omega); have b0 := zb Kgb.out 0 (.int .u8 kd); have b1 := zb Kgb.out 1 (.string (cutS 80 key)); have b2 := zb Kgb.out 2 (.string data); have b3 := zb Kgb.out 3 (.int .u64 id); have b4 := zb Kgb.out 4 (.int .i64 n); have b5 := zb Kgb.out 5 (.int .i64 q); have b6 := zb Kgb.out 6 (.slice A m c); clear hk ho))
  | ((with_reducible refine gate_store (t := 9) (p := 14) (v := .tmp 13) rfl ?_); go_must (refine wpList_store_row rfl rfl 9 (.tmp 14) (.tmp 13) rfl gb 2 _ 59 (.string (data.extract 0 2001)) [.string (data.extract 0 2001)] rfl rfl Kgb.out rfl (by kernel_rfl) (by show 2 + 1 ≤ 7; decide) (by simp [Value.oneCell']) ?_; intro w5 hk ho; have Kgb : Hid (w5.heap[gb]? = some (.cells #[.int .u8 kd, .string (cutS 80 key), .string (data.extract 0 2001), .int .u64 id, .int .i64 n, .int .i64 q, .slice A m c] 59 (0, 0))) := hk; have HB := zo ho HB Lgb; have Kgo := zl ho Kgo (by have := M2.out; omega); clear b0 b1 b2 b3 b4 b5 b6; have b0 := zb Kgb.out 0 (.int .u8 kd); have b1 := zb Kgb.out 1 (.string (cutS 80 key)); have b2 := zb Kgb.out 2 (.string (data.extract 0 2001)); have b3 := zb Kgb.out 3 (.int .u64 id); have b4 := zb Kgb.out 4 (.int .i64 n); have b5 := zb Kgb.out 5 (.int .i64 q); have b6 := zb Kgb.out 6 (.slice A m c); clear hk ho))
  | ((with_reducible refine gate_store (t := 35) (p := 22) (v := .tmp 21) rfl ?_); go_must (refine wpList_store_row rfl rfl 35 (.tmp 22) (.tmp 21) rfl gb 6 _ 59 (.slice A 40 c) [.slice A 40 c] rfl rfl Kgb.out rfl (by kernel_rfl) (by show 6 + 1 ≤ 7; decide) (by simp [Value.oneCell']) ?_; intro w6 hk ho; have Kgb : Hid (w6.heap[gb]? = some (.cells #[.int .u8 kd, .string (cutS 80 key), .string (data.extract 0 2001), .int .u64 id, .int .i64 n, .int .i64 q, .slice A 40 c] 59 (0, 0))) := hk; have HB := zo ho HB Lgb; have Kgo := zl ho Kgo (by have := M2.out; omega); clear b0 b1 b2 b3 b4 b5 b6; have b0 := zb Kgb.out 0 (.int .u8 kd); have b1 := zb Kgb.out 1 (.string (cutS 80 key)); have b2 := zb Kgb.out 2 (.string (data.extract 0 2001)); have b3 := zb Kgb.out 3 (.int .u64 id); have b4 := zb Kgb.out 4 (.int .i64 n); have b5 := zb Kgb.out 5 (.int .i64 q); have b6 := zb Kgb.out 6 (.slice A 40 c); clear hk ho))
  | ((with_reducible refine gate_store (t := 59) (p := 2) (v := .tmp 23) rfl ?_); go_must (refine wpList_store_row rfl rfl 59 (.tmp 2) (.tmp 23) rfl go 0 _ 59 (.agg #[.int .u8 kd, .string (cutS 80 key), .string (data.extract 0 2001), .int .u64 id, .int .i64 n, .int .i64 q, .slice A 40 c]) [.int .u8 kd, .string (cutS 80 key), .string (data.extract 0 2001), .int .u64 id, .int .i64 n, .int .i64 q, .slice A 40 c] rfl rfl Kgo.out rfl (by kernel_rfl) (by show 0 + 7 ≤ 7; decide) (by simp [Value.oneCell']) ?_; intro w7 hk ho; have HB := zo ho HB Lgo; have z0 := zb hk.out 0 (.int .u8 kd); have z1 := zb hk.out 1 (.string (cutS 80 key)); have z2 := zb hk.out 2 (.string (data.extract 0 2001)); have z3 := zb hk.out 3 (.int .u64 id); have z4 := zb hk.out 4 (.int .i64 n); have z5 := zb hk.out 5 (.int .i64 q); have z6 := zb hk.out 6 (.slice A 40 c); clear hk ho)))
 refine bodyPost_ret (v := .agg #[.int .u8 kd, .string (cutS 80 key), .string (data.extract 0 2001), .int .u64 id, .int .i64 n, .int .i64 q, .slice A 40 c]) (by simp [results, Tryz.results22, go_sem, z0, z1, z2, z3, z4, z5, z6]) rfl ?_
 exact ⟨rfl, HB.out⟩
theorem cut.walk (kd id n q : Int) (key data : ByteArray) (A : Option Addr) (ps : List S43) (c : Nat) (w : World) (hm : ps.length ≤ c) :
  Calls Tryz.prog 22 #[.agg #[.int .u8 kd, .string key, .string data, .int .u64 id, .int .i64 n, .int .i64 q, .slice A ps.length c]] w fun e w' => e = .returned (.agg #[.int .u8 kd, .string (cutS 80 key), .string (cutS 2001 data), .int .u64 id, .int .i64 n, .int .i64 q, .slice A (ps.take 40).length c]) ∧ Below w.heap.size w w' := by
 by_cases hd : 2001 < data.size
 ·have e1 : cutS 2001 data = data.extract 0 2001 := by unfold cutS; rw [if_pos hd]
  by_cases hp : 40 < ps.length
  ·have e2 : (ps.take 40).length = 40 := by rw [List.length_take]; omega
   rw [e1, e2]; exact cut_11 kd id n q key data A ps.length c w hm hd hp
  ·have e2 : (ps.take 40).length = ps.length := by rw [List.length_take]; omega
   rw [e1, e2]; exact cut_10 kd id n q key data A ps.length c w hm hd (by omega)
 ·have e1 : cutS 2001 data = data := by unfold cutS; rw [if_neg hd]
  by_cases hp : 40 < ps.length
  ·have e2 : (ps.take 40).length = 40 := by rw [List.length_take]; omega
   rw [e1, e2]; exact cut_01 kd id n q key data A ps.length c w hm (by omega) hp
  ·have e2 : (ps.take 40).length = ps.length := by rw [List.length_take]; omega
   rw [e1, e2]; exact cut_00 kd id n q key data A ps.length c w hm (by omega) (by omega)
end
section
open Go.WideMaps Go.Maps
def DidLike (cs : Array Value) : Prop := ∃ (s : ByteArray) (i : Int) (A2 : Option Addr) (n2 c2 : Nat) (A3 : Option Addr) (n3 c3 : Nat) (l d : Int) (x : ByteArray) (e : Int), cs = #[.string s, .int .i64 i, .slice A2 n2 c2, .slice A3 n3 c3, .int .u64 l, .int .u64 d, .string x, .int .i64 e]
section
variable {w w1 : World} {g : Nat} {cs : Array Value} {t : TypeId} {fr : Nat × Nat} {A : Option Addr} {n : Nat}
theorem didV {l : List S47} (h : Kd.C k47 w A n l) (hg : w.heap[g]? = some (.cells cs t fr)) (hw : DidLike cs) (ho : Only g w w1) : Kd.C k47 w1 A n l :=
 C_sep h hg ho (fun x c o hk hc => by
  obtain rfl := k47_open hk
  obtain ⟨_, _, _, _, _, _, _, _, _, _, _, _, rfl⟩ := hw
  have h2 := hc 2 _ rfl
  rcases o with _ | _ | _ | _ | _ | _ | o <;> simp at h2) (fun x c hk => by obtain rfl := k47_open hk; exact k47_mk w1 x)
theorem didPt {l : List S40} (h : Kd.C k40 w A n l) (hg : w.heap[g]? = some (.cells cs t fr)) (hw : DidLike cs) (ho : Only g w w1) : Kd.C k40 w1 A n l :=
 C_sep h hg ho (fun x c o hk hc => by
  obtain rfl := k40_open hk
  obtain ⟨_, _, _, _, _, _, _, _, _, _, _, _, rfl⟩ := hw
  have h0 := hc 0 _ rfl
  have h1 := hc 1 _ rfl
  rcases o with _ | _ | _ | _ | _ | _ | _ | _ | o <;> simp at h0 h1) (fun x c hk => by obtain rfl := k40_open hk; exact k40_mk w1 x)
theorem didE {l : List S56} (h : Kd.C k56 w A n l) (hg : w.heap[g]? = some (.cells cs t fr)) (hw : DidLike cs) (ho : Only g w w1) : Kd.C k56 w1 A n l :=
 C_sep h hg ho (fun x c o hk hc => by
  obtain ⟨A1, c1, rfl, _, _⟩ := k56_open hk
  obtain ⟨_, _, _, _, _, _, _, _, _, _, _, _, rfl⟩ := hw
  have h0 := hc 0 _ rfl
  have h1 := hc 1 _ rfl
  rcases o with _ | _ | _ | _ | _ | _ | _ | _ | o <;> simp at h0 h1) (fun x c hk => by obtain ⟨A1, c1, rfl, h1, h2⟩ := k56_open hk; exact k56_mk w1 x h1 (didV h2 hg hw ho))
theorem didU {l : List S101} (h : Kd.C k101 w A n l) (hg : w.heap[g]? = some (.cells cs t fr)) (hw : DidLike cs) (ho : Only g w w1) : Kd.C k101 w1 A n l :=
 C_sep h hg ho (fun x c o hk hc => by
  obtain ⟨A1, c1, rfl, _, _⟩ := k101_open hk
  obtain ⟨_, _, _, _, _, _, _, _, _, _, _, _, rfl⟩ := hw
  have h1 := hc 1 _ rfl
  have h2 := hc 2 _ rfl
  rcases o with _ | _ | _ | _ | _ | _ | _ | o <;> simp at h1 h2) (fun x c hk => by obtain ⟨A1, c1, rfl, h1, h2⟩ := k101_open hk; exact k101_mk w1 x h1 (didPt h2 hg hw ho))
end
end
section
open Go.WideMaps Go.Maps
attribute [local go_sem] Oper.semAt_some
def DoPost (x : S26) (id : Int) (tg : ByteArray) (er : Int) (w : World) (e : Ending) (w' : World) : Prop :=
 ∃ A5 c5 A6 c6, e = .returned (.agg #[.string x.f0, .int .i64 x.f1, .slice A5 x.f2.length c5, .slice A6 x.f3.length c6, .int .u64 x.f4, .int .u64 id, .string tg, .int .i64 er]) ∧ x.f2.length ≤ c5 ∧ x.f3.length ≤ c6 ∧ Kd.C k56 w' A5 x.f2.length x.f2 ∧ Kd.C k101 w' A6 x.f3.length x.f3 ∧ Below w.heap.size w w'
theorem did_like (s : ByteArray) (i : Int) (A2 : Option Addr) (n2 c2 : Nat) (A3 : Option Addr) (n3 c3 : Nat) (l d : Int) (x : ByteArray) (e : Int) : DidLike #[.string s, .int .i64 i, .slice A2 n2 c2, .slice A3 n3 c3, .int .u64 l, .int .u64 d, .string x, .int .i64 e] := ⟨s, i, A2, n2, c2, A3, n3, c3, l, d, x, e, rfl⟩
theorem do_put0 (b : S26) (A2 A3 : Option Addr) (c2 c3 : Nat) (kd id n q : Int) (key data : ByteArray) (A : Option Addr) (ps : List S43) (c : Nat) (w : World) (h2 : Kd.C k56 w A2 b.f2.length b.f2) (g2 : b.f2.length ≤ c2) (h3 : Kd.C k101 w A3 b.f3.length b.f3) (g3 : b.f3.length ≤ c3) (hk : Int.tmod kd 9 = 0) :
  Calls Tryz.prog 23 #[.agg #[.string b.f0, .int .i64 b.f1, .slice A2 b.f2.length c2, .slice A3 b.f3.length c3, .int .u64 b.f4], .agg #[.int .u8 kd, .string key, .string data, .int .u64 id, .int .i64 n, .int .i64 q, .slice A ps.length c]] w (DoPost (laidR b key (fun l id => putV l b.f1 ⟨id, data, false, q⟩)).1 (laidR b key (fun l id => putV l b.f1 ⟨id, data, false, q⟩)).2.1 ⟨#[]⟩ (laidR b key (fun l id => putV l b.f1 ⟨id, data, false, q⟩)).2.2 w) := by
 have HC := zh (fun (W : World) (h : Below w.heap.size w W) => putB.walk b A2 A3 c2 c3 key data q W (Kd.C_below h2 h) g2 (Kd.C_below h3 h) g3)
 generalize laidR b key (fun l id => putV l b.f1 ⟨id, data, false, q⟩) = r at *
 obtain ⟨kb, li, er⟩ := r
 have HB := zh (Below.refl w.heap.size w)
 have kf : ∀ j : Int, (Int.tmod kd 9 == j) = ((0 : Int) == j) := fun j => by rw [hk]
 have e0 : (Int.tmod kd 9 == 0) = true := kf 0
 have e1 : (Int.tmod kd 9 == 1) = false := kf 1
 have e2 : (Int.tmod kd 9 == 2) = false := kf 2
 have e3 : (Int.tmod kd 9 == 3) = false := kf 3
 have e4 : (Int.tmod kd 9 == 4) = false := kf 4
 have e5 : (Int.tmod kd 9 == 5) = false := kf 5
 have e6 : (Int.tmod kd 9 == 6) = false := kf 6
 have e7 : (Int.tmod kd 9 == 7) = false := kf 7
 clear h2 h3 g2 g3 kf hk
 go_enter Tryz.func23, Tryz.ntmps23
 go_wp2_with (first
  | ((with_reducible refine gate_dst (N := 2) rfl ?_); go_must (refine box_event ?hg (N := 2) ?hd (cs := #[.string b.f0, .int .i64 b.f1, .slice A2 b.f2.length c2, .slice A3 b.f3.length c3, .int .u64 b.f4]) (t := 26) ?hr ?_; (case hd => rfl); (case hg => rfl); (case hr => first | (go_simp; done) | (go_simp; rfl)); intro gb hqgb w1 hbgb hbelgb; have Kgb := zh hbgb; have Lgb := zh (show w.heap.size ≤ gb by rw [hqgb]; exact HB.out.size); have HB := keepB HB hbelgb; clear hbgb hbelgb hqgb))
  | ((with_reducible refine gate_dst (N := 3) rfl ?_); go_must (refine box_event ?hg (N := 3) ?hd (cs := #[.int .u8 kd, .string key, .string data, .int .u64 id, .int .i64 n, .int .i64 q, .slice A ps.length c]) (t := 59) ?hr ?_; (case hd => rfl); (case hg => rfl); (case hr => first | (go_simp; done) | (go_simp; rfl)); intro ga hqga w2 hbga hbelga; have Kga := zh hbga; have Lga := zh (show w.heap.size ≤ ga by rw [hqga]; exact HB.out.size); have HB := keepB HB hbelga; have M1 := zh (show gb < ga by rw [hqga]; exact blk_lt Kgb.out); have Kgb := zk Kgb hbelga; clear hbga hbelga hqga))
  | ((with_reducible refine gate_dst (N := 4) rfl ?_); go_must (refine box_event ?hg (N := 4) ?hd (cs := #[.string ⟨#[]⟩, .int .i64 0, .slice none 0 0, .slice none 0 0, .int .u64 0, .int .u64 0, .string ⟨#[]⟩, .int .i64 0]) (t := 62) ?hr ?_; (case hd => rfl); (case hg => rfl); (case hr => first | (go_simp; done) | (go_simp; rfl)); intro go hqgo w3 hbgo hbelgo; have Kgo := zh hbgo; have Lgo := zh (show w.heap.size ≤ go by rw [hqgo]; exact HB.out.size); have HB := keepB HB hbelgo; have M2 := zh (show ga < go by rw [hqgo]; exact blk_lt Kga.out); have Kgb := zk Kgb hbelgo; have Kga := zk Kga hbelgo; clear hbgo hbelgo hqgo))
  | ((with_reducible refine gate_dst (N := 5) rfl ?_); go_must (refine box_event ?hg (N := 5) ?hd (cs := #[.string ⟨#[]⟩, .int .i64 0, .slice none 0 0, .slice none 0 0, .int .u64 0, .int .u64 0, .string ⟨#[]⟩, .int .i64 0]) (t := 62) ?hr ?_; (case hd => rfl); (case hg => rfl); (case hr => first | (go_simp; done) | (go_simp; rfl)); intro gd hqgd w4 hbgd hbelgd; have Kgd := zh hbgd; have Lgd := zh (show w.heap.size ≤ gd by rw [hqgd]; exact HB.out.size); have HB := keepB HB hbelgd; have M3 := zh (show go < gd by rw [hqgd]; exact blk_lt Kgo.out); have Kgb := zk Kgb hbelgd; have Kga := zk Kga hbelgd; have Kgo := zk Kgo hbelgd; clear hbgd hbelgd hqgd))
  | ((with_reducible refine gate_store (t := 62) (p := 5) (v := .tmp 9) rfl ?_); go_must (refine wpList_store_row rfl rfl 62 (.tmp 5) (.tmp 9) rfl gd 0 _ 62 (.agg #[.string ⟨#[]⟩, .int .i64 0, .slice none 0 0, .slice none 0 0, .int .u64 0, .int .u64 0, .string ⟨#[]⟩, .int .i64 0]) [.string ⟨#[]⟩, .int .i64 0, .slice none 0 0, .slice none 0 0, .int .u64 0, .int .u64 0, .string ⟨#[]⟩, .int .i64 0] rfl rfl Kgd.out rfl (by kernel_rfl) (by show 0 + 8 ≤ 8; decide) (by simp [Value.oneCell']) ?_; intro w5 hk ho; have Kgd : Hid (w5.heap[gd]? = some (.cells #[.string ⟨#[]⟩, .int .i64 0, .slice none 0 0, .slice none 0 0, .int .u64 0, .int .u64 0, .string ⟨#[]⟩, .int .i64 0] 62 (0, 0))) := hk; have HB := zo ho HB Lgd; have Kgb := zl ho Kgb (by have := M1.out; have := M2.out; have := M3.out; omega); have Kga := zl ho Kga (by have := M1.out; have := M2.out; have := M3.out; omega); have Kgo := zl ho Kgo (by have := M1.out; have := M2.out; have := M3.out; omega); have a0 := zb Kgb.out 0 (.string b.f0); have a1 := zb Kgb.out 1 (.int .i64 b.f1); have a2 := zb Kgb.out 2 (.slice A2 b.f2.length c2); have a3 := zb Kgb.out 3 (.slice A3 b.f3.length c3); have a4 := zb Kgb.out 4 (.int .u64 b.f4); have b0 := zb Kga.out 0 (.int .u8 kd); have b1 := zb Kga.out 1 (.string key); have b2 := zb Kga.out 2 (.string data); have b3 := zb Kga.out 3 (.int .u64 id); have b4 := zb Kga.out 4 (.int .i64 n); have b5 := zb Kga.out 5 (.int .i64 q); have b6 := zb Kga.out 6 (.slice A ps.length c); clear hk ho))
  | (go_at_call 19; go_must (refine (HC.out _ HB.out).mono ?_; rintro e w6 ⟨v, rfl, ⟨A5, c5, A6, c6, rfl, y1, y2, y3, y4⟩, hb⟩; have Y3 := zh y3; have Y4 := zh y4; have HB := keepB HB hb; have Kgo := zk Kgo hb; have Kgd := zk Kgd hb; clear hb y3 y4 a0 a1 a2 a3 a4 b0 b1 b2 b3 b4 b5 b6))
  | ((with_reducible refine gate_store (t := 26) (p := 45) (v := .tmp 42) rfl ?_); go_must (refine wpList_store_row rfl rfl 26 (.tmp 45) (.tmp 42) rfl gd 0 _ 62 (.agg #[.string kb.f0, .int .i64 kb.f1, .slice A5 kb.f2.length c5, .slice A6 kb.f3.length c6, .int .u64 kb.f4]) [.string kb.f0, .int .i64 kb.f1, .slice A5 kb.f2.length c5, .slice A6 kb.f3.length c6, .int .u64 kb.f4] rfl rfl Kgd.out rfl isz_bucket (by show 0 + 5 ≤ 8; decide) (by simp [Value.oneCell']) ?_; intro x0 hk ho; have Y3 := zh (didE Y3.out Kgd.out (did_like _ _ _ _ _ _ _ _ _ _ _ _) ho.out); have Y4 := zh (didU Y4.out Kgd.out (did_like _ _ _ _ _ _ _ _ _ _ _ _) ho.out); have Kgd : Hid (x0.heap[gd]? = some (.cells #[.string kb.f0, .int .i64 kb.f1, .slice A5 kb.f2.length c5, .slice A6 kb.f3.length c6, .int .u64 kb.f4, .int .u64 0, .string ⟨#[]⟩, .int .i64 0] 62 (0, 0))) := hk; have HB := zo ho HB Lgd; have Kgo := zl ho Kgo (by have := M3.out; omega); clear hk ho))
  | ((with_reducible refine gate_store (t := 24) (p := 46) (v := .tmp 43) rfl ?_); go_must (refine wpList_store_row rfl rfl 24 (.tmp 46) (.tmp 43) rfl gd 5 _ 62 (.int .u64 li) [.int .u64 li] rfl rfl Kgd.out rfl (by kernel_rfl) (by show 5 + 1 ≤ 8; decide) (by simp [Value.oneCell']) ?_; intro x1 hk ho; have Y3 := zh (didE Y3.out Kgd.out (did_like _ _ _ _ _ _ _ _ _ _ _ _) ho.out); have Y4 := zh (didU Y4.out Kgd.out (did_like _ _ _ _ _ _ _ _ _ _ _ _) ho.out); have Kgd : Hid (x1.heap[gd]? = some (.cells #[.string kb.f0, .int .i64 kb.f1, .slice A5 kb.f2.length c5, .slice A6 kb.f3.length c6, .int .u64 kb.f4, .int .u64 li, .string ⟨#[]⟩, .int .i64 0] 62 (0, 0))) := hk; have HB := zo ho HB Lgd; have Kgo := zl ho Kgo (by have := M3.out; omega); clear hk ho))
  | ((with_reducible refine gate_store (t := 30) (p := 47) (v := .tmp 44) rfl ?_); go_must (refine wpList_store_row rfl rfl 30 (.tmp 47) (.tmp 44) rfl gd 7 _ 62 (.int .i64 er) [.int .i64 er] rfl rfl Kgd.out rfl (by kernel_rfl) (by show 7 + 1 ≤ 8; decide) (by simp [Value.oneCell']) ?_; intro x2 hk ho; have Y3 := zh (didE Y3.out Kgd.out (did_like _ _ _ _ _ _ _ _ _ _ _ _) ho.out); have Y4 := zh (didU Y4.out Kgd.out (did_like _ _ _ _ _ _ _ _ _ _ _ _) ho.out); have Kgd : Hid (x2.heap[gd]? = some (.cells #[.string kb.f0, .int .i64 kb.f1, .slice A5 kb.f2.length c5, .slice A6 kb.f3.length c6, .int .u64 kb.f4, .int .u64 li, .string ⟨#[]⟩, .int .i64 er] 62 (0, 0))) := hk; have HB := zo ho HB Lgd; have Kgo := zl ho Kgo (by have := M3.out; omega); have d0 := zb Kgd.out 0 (.string kb.f0); have d1 := zb Kgd.out 1 (.int .i64 kb.f1); have d2 := zb Kgd.out 2 (.slice A5 kb.f2.length c5); have d3 := zb Kgd.out 3 (.slice A6 kb.f3.length c6); have d4 := zb Kgd.out 4 (.int .u64 kb.f4); have d5 := zb Kgd.out 5 (.int .u64 li); have d6 := zb Kgd.out 6 (.string ⟨#[]⟩); have d7 := zb Kgd.out 7 (.int .i64 er); clear hk ho))
  | ((with_reducible refine gate_store (t := 62) (p := 4) (v := .tmp 133) rfl ?_); go_must (refine wpList_store_row rfl rfl 62 (.tmp 4) (.tmp 133) rfl go 0 _ 62 (.agg #[.string kb.f0, .int .i64 kb.f1, .slice A5 kb.f2.length c5, .slice A6 kb.f3.length c6, .int .u64 kb.f4, .int .u64 li, .string ⟨#[]⟩, .int .i64 er]) [.string kb.f0, .int .i64 kb.f1, .slice A5 kb.f2.length c5, .slice A6 kb.f3.length c6, .int .u64 kb.f4, .int .u64 li, .string ⟨#[]⟩, .int .i64 er] rfl rfl Kgo.out rfl (by kernel_rfl) (by show 0 + 8 ≤ 8; decide) (by simp [Value.oneCell']) ?_; intro x9 hk ho; have Y3 := zh (didE Y3.out Kgo.out (did_like _ _ _ _ _ _ _ _ _ _ _ _) ho.out); have Y4 := zh (didU Y4.out Kgo.out (did_like _ _ _ _ _ _ _ _ _ _ _ _) ho.out); have HB := zo ho HB Lgo; have z0 := zb hk.out 0 (.string kb.f0); have z1 := zb hk.out 1 (.int .i64 kb.f1); have z2 := zb hk.out 2 (.slice A5 kb.f2.length c5); have z3 := zb hk.out 3 (.slice A6 kb.f3.length c6); have z4 := zb hk.out 4 (.int .u64 kb.f4); have z5 := zb hk.out 5 (.int .u64 li); have z6 := zb hk.out 6 (.string ⟨#[]⟩); have z7 := zb hk.out 7 (.int .i64 er); clear hk ho)))
 refine bodyPost_ret (v := .agg #[.string kb.f0, .int .i64 kb.f1, .slice A5 kb.f2.length c5, .slice A6 kb.f3.length c6, .int .u64 kb.f4, .int .u64 li, .string ⟨#[]⟩, .int .i64 er]) (by simp [results, Tryz.results23, go_sem, z0, z1, z2, z3, z4, z5, z6, z7]) rfl ?_
 exact ⟨A5, c5, A6, c6, rfl, y1, y2, Y3.out, Y4.out, HB.out⟩
theorem do_put1 (b : S26) (A2 A3 : Option Addr) (c2 c3 : Nat) (kd id n q : Int) (key data : ByteArray) (A : Option Addr) (ps : List S43) (c : Nat) (w : World) (h2 : Kd.C k56 w A2 b.f2.length b.f2) (g2 : b.f2.length ≤ c2) (h3 : Kd.C k101 w A3 b.f3.length b.f3) (g3 : b.f3.length ≤ c3) (hk : Int.tmod kd 9 = 1) :
  Calls Tryz.prog 23 #[.agg #[.string b.f0, .int .i64 b.f1, .slice A2 b.f2.length c2, .slice A3 b.f3.length c3, .int .u64 b.f4], .agg #[.int .u8 kd, .string key, .string data, .int .u64 id, .int .i64 n, .int .i64 q, .slice A ps.length c]] w (DoPost (laidR b key (fun l id => putV l b.f1 ⟨id, data, false, q⟩)).1 (laidR b key (fun l id => putV l b.f1 ⟨id, data, false, q⟩)).2.1 ⟨#[]⟩ (laidR b key (fun l id => putV l b.f1 ⟨id, data, false, q⟩)).2.2 w) := by
 have HC := zh (fun (W : World) (h : Below w.heap.size w W) => putB.walk b A2 A3 c2 c3 key data q W (Kd.C_below h2 h) g2 (Kd.C_below h3 h) g3)
 generalize laidR b key (fun l id => putV l b.f1 ⟨id, data, false, q⟩) = r at *
 obtain ⟨kb, li, er⟩ := r
 have HB := zh (Below.refl w.heap.size w)
 have kf : ∀ j : Int, (Int.tmod kd 9 == j) = ((1 : Int) == j) := fun j => by rw [hk]
 have e0 : (Int.tmod kd 9 == 0) = false := kf 0
 have e1 : (Int.tmod kd 9 == 1) = true := kf 1
 have e2 : (Int.tmod kd 9 == 2) = false := kf 2
 have e3 : (Int.tmod kd 9 == 3) = false := kf 3
 have e4 : (Int.tmod kd 9 == 4) = false := kf 4
 have e5 : (Int.tmod kd 9 == 5) = false := kf 5
 have e6 : (Int.tmod kd 9 == 6) = false := kf 6
 have e7 : (Int.tmod kd 9 == 7) = false := kf 7
 clear h2 h3 g2 g3 kf hk
 go_enter Tryz.func23, Tryz.ntmps23
 go_wp2_with (first
  | ((with_reducible refine gate_dst (N := 2) rfl ?_); go_must (refine box_event ?hg (N := 2) ?hd (cs := #[.string b.f0, .int .i64 b.f1, .slice A2 b.f2.length c2, .slice A3 b.f3.length c3, .int .u64 b.f4]) (t := 26) ?hr ?_; (case hd => rfl); (case hg => rfl); (case hr => first | (go_simp; done) | (go_simp; rfl)); intro gb hqgb w1 hbgb hbelgb; have Kgb := zh hbgb; have Lgb := zh (show w.heap.size ≤ gb by rw [hqgb]; exact HB.out.size); have HB := keepB HB hbelgb; clear hbgb hbelgb hqgb))
  | ((with_reducible refine gate_dst (N := 3) rfl ?_); go_must (refine box_event ?hg (N := 3) ?hd (cs := #[.int .u8 kd, .string key, .string data, .int .u64 id, .int .i64 n, .int .i64 q, .slice A ps.length c]) (t := 59) ?hr ?_; (case hd => rfl); (case hg => rfl); (case hr => first | (go_simp; done) | (go_simp; rfl)); intro ga hqga w2 hbga hbelga; have Kga := zh hbga; have Lga := zh (show w.heap.size ≤ ga by rw [hqga]; exact HB.out.size); have HB := keepB HB hbelga; have M1 := zh (show gb < ga by rw [hqga]; exact blk_lt Kgb.out); have Kgb := zk Kgb hbelga; clear hbga hbelga hqga))
  | ((with_reducible refine gate_dst (N := 4) rfl ?_); go_must (refine box_event ?hg (N := 4) ?hd (cs := #[.string ⟨#[]⟩, .int .i64 0, .slice none 0 0, .slice none 0 0, .int .u64 0, .int .u64 0, .string ⟨#[]⟩, .int .i64 0]) (t := 62) ?hr ?_; (case hd => rfl); (case hg => rfl); (case hr => first | (go_simp; done) | (go_simp; rfl)); intro go hqgo w3 hbgo hbelgo; have Kgo := zh hbgo; have Lgo := zh (show w.heap.size ≤ go by rw [hqgo]; exact HB.out.size); have HB := keepB HB hbelgo; have M2 := zh (show ga < go by rw [hqgo]; exact blk_lt Kga.out); have Kgb := zk Kgb hbelgo; have Kga := zk Kga hbelgo; clear hbgo hbelgo hqgo))
  | ((with_reducible refine gate_dst (N := 5) rfl ?_); go_must (refine box_event ?hg (N := 5) ?hd (cs := #[.string ⟨#[]⟩, .int .i64 0, .slice none 0 0, .slice none 0 0, .int .u64 0, .int .u64 0, .string ⟨#[]⟩, .int .i64 0]) (t := 62) ?hr ?_; (case hd => rfl); (case hg => rfl); (case hr => first | (go_simp; done) | (go_simp; rfl)); intro gd hqgd w4 hbgd hbelgd; have Kgd := zh hbgd; have Lgd := zh (show w.heap.size ≤ gd by rw [hqgd]; exact HB.out.size); have HB := keepB HB hbelgd; have M3 := zh (show go < gd by rw [hqgd]; exact blk_lt Kgo.out); have Kgb := zk Kgb hbelgd; have Kga := zk Kga hbelgd; have Kgo := zk Kgo hbelgd; clear hbgd hbelgd hqgd))
  | ((with_reducible refine gate_store (t := 62) (p := 5) (v := .tmp 9) rfl ?_); go_must (refine wpList_store_row rfl rfl 62 (.tmp 5) (.tmp 9) rfl gd 0 _ 62 (.agg #[.string ⟨#[]⟩, .int .i64 0, .slice none 0 0, .slice none 0 0, .int .u64 0, .int .u64 0, .string ⟨#[]⟩, .int .i64 0]) [.string ⟨#[]⟩, .int .i64 0, .slice none 0 0, .slice none 0 0, .int .u64 0, .int .u64 0, .string ⟨#[]⟩, .int .i64 0] rfl rfl Kgd.out rfl (by kernel_rfl) (by show 0 + 8 ≤ 8; decide) (by simp [Value.oneCell']) ?_; intro w5 hk ho; have Kgd : Hid (w5.heap[gd]? = some (.cells #[.string ⟨#[]⟩, .int .i64 0, .slice none 0 0, .slice none 0 0, .int .u64 0, .int .u64 0, .string ⟨#[]⟩, .int .i64 0] 62 (0, 0))) := hk; have HB := zo ho HB Lgd; have Kgb := zl ho Kgb (by have := M1.out; have := M2.out; have := M3.out; omega); have Kga := zl ho Kga (by have := M1.out; have := M2.out; have := M3.out; omega); have Kgo := zl ho Kgo (by have := M1.out; have := M2.out; have := M3.out; omega); have a0 := zb Kgb.out 0 (.string b.f0); have a1 := zb Kgb.out 1 (.int .i64 b.f1); have a2 := zb Kgb.out 2 (.slice A2 b.f2.length c2); have a3 := zb Kgb.out 3 (.slice A3 b.f3.length c3); have a4 := zb Kgb.out 4 (.int .u64 b.f4); have b0 := zb Kga.out 0 (.int .u8 kd); have b1 := zb Kga.out 1 (.string key); have b2 := zb Kga.out 2 (.string data); have b3 := zb Kga.out 3 (.int .u64 id); have b4 := zb Kga.out 4 (.int .i64 n); have b5 := zb Kga.out 5 (.int .i64 q); have b6 := zb Kga.out 6 (.slice A ps.length c); clear hk ho))
  | (go_at_call 19; go_must (refine (HC.out _ HB.out).mono ?_; rintro e w6 ⟨v, rfl, ⟨A5, c5, A6, c6, rfl, y1, y2, y3, y4⟩, hb⟩; have Y3 := zh y3; have Y4 := zh y4; have HB := keepB HB hb; have Kgo := zk Kgo hb; have Kgd := zk Kgd hb; clear hb y3 y4 a0 a1 a2 a3 a4 b0 b1 b2 b3 b4 b5 b6))
  | ((with_reducible refine gate_store (t := 26) (p := 45) (v := .tmp 42) rfl ?_); go_must (refine wpList_store_row rfl rfl 26 (.tmp 45) (.tmp 42) rfl gd 0 _ 62 (.agg #[.string kb.f0, .int .i64 kb.f1, .slice A5 kb.f2.length c5, .slice A6 kb.f3.length c6, .int .u64 kb.f4]) [.string kb.f0, .int .i64 kb.f1, .slice A5 kb.f2.length c5, .slice A6 kb.f3.length c6, .int .u64 kb.f4] rfl rfl Kgd.out rfl isz_bucket (by show 0 + 5 ≤ 8; decide) (by simp [Value.oneCell']) ?_; intro x0 hk ho; have Y3 := zh (didE Y3.out Kgd.out (did_like _ _ _ _ _ _ _ _ _ _ _ _) ho.out); have Y4 := zh (didU Y4.out Kgd.out (did_like _ _ _ _ _ _ _ _ _ _ _ _) ho.out); have Kgd : Hid (x0.heap[gd]? = some (.cells #[.string kb.f0, .int .i64 kb.f1, .slice A5 kb.f2.length c5, .slice A6 kb.f3.length c6, .int .u64 kb.f4, .int .u64 0, .string ⟨#[]⟩, .int .i64 0] 62 (0, 0))) := hk; have HB := zo ho HB Lgd; have Kgo := zl ho Kgo (by have := M3.out; omega); clear hk ho))
  | ((with_reducible refine gate_store (t := 24) (p := 46) (v := .tmp 43) rfl ?_); go_must (refine wpList_store_row rfl rfl 24 (.tmp 46) (.tmp 43) rfl gd 5 _ 62 (.int .u64 li) [.int .u64 li] rfl rfl Kgd.out rfl (by kernel_rfl) (by show 5 + 1 ≤ 8; decide) (by simp [Value.oneCell']) ?_; intro x1 hk ho; have Y3 := zh (didE Y3.out Kgd.out (did_like _ _ _ _ _ _ _ _ _ _ _ _) ho.out); have Y4 := zh (didU Y4.out Kgd.out (did_like _ _ _ _ _ _ _ _ _ _ _ _) ho.out); have Kgd : Hid (x1.heap[gd]? = some (.cells #[.string kb.f0, .int .i64 kb.f1, .slice A5 kb.f2.length c5, .slice A6 kb.f3.length c6, .int .u64 kb.f4, .int .u64 li, .string ⟨#[]⟩, .int .i64 0] 62 (0, 0))) := hk; have HB := zo ho HB Lgd; have Kgo := zl ho Kgo (by have := M3.out; omega); clear hk ho))
  | ((with_reducible refine gate_store (t := 30) (p := 47) (v := .tmp 44) rfl ?_); go_must (refine wpList_store_row rfl rfl 30 (.tmp 47) (.tmp 44) rfl gd 7 _ 62 (.int .i64 er) [.int .i64 er] rfl rfl Kgd.out rfl (by kernel_rfl) (by show 7 + 1 ≤ 8; decide) (by simp [Value.oneCell']) ?_; intro x2 hk ho; have Y3 := zh (didE Y3.out Kgd.out (did_like _ _ _ _ _ _ _ _ _ _ _ _) ho.out); have Y4 := zh (didU Y4.out Kgd.out (did_like _ _ _ _ _ _ _ _ _ _ _ _) ho.out); have Kgd : Hid (x2.heap[gd]? = some (.cells #[.string kb.f0, .int .i64 kb.f1, .slice A5 kb.f2.length c5, .slice A6 kb.f3.length c6, .int .u64 kb.f4, .int .u64 li, .string ⟨#[]⟩, .int .i64 er] 62 (0, 0))) := hk; have HB := zo ho HB Lgd; have Kgo := zl ho Kgo (by have := M3.out; omega); have d0 := zb Kgd.out 0 (.string kb.f0); have d1 := zb Kgd.out 1 (.int .i64 kb.f1); have d2 := zb Kgd.out 2 (.slice A5 kb.f2.length c5); have d3 := zb Kgd.out 3 (.slice A6 kb.f3.length c6); have d4 := zb Kgd.out 4 (.int .u64 kb.f4); have d5 := zb Kgd.out 5 (.int .u64 li); have d6 := zb Kgd.out 6 (.string ⟨#[]⟩); have d7 := zb Kgd.out 7 (.int .i64 er); clear hk ho))
  | ((with_reducible refine gate_store (t := 62) (p := 4) (v := .tmp 133) rfl ?_); go_must (refine wpList_store_row rfl rfl 62 (.tmp 4) (.tmp 133) rfl go 0 _ 62 (.agg #[.string kb.f0, .int .i64 kb.f1, .slice A5 kb.f2.length c5, .slice A6 kb.f3.length c6, .int .u64 kb.f4, .int .u64 li, .string ⟨#[]⟩, .int .i64 er]) [.string kb.f0, .int .i64 kb.f1, .slice A5 kb.f2.length c5, .slice A6 kb.f3.length c6, .int .u64 kb.f4, .int .u64 li, .string ⟨#[]⟩, .int .i64 er] rfl rfl Kgo.out rfl (by kernel_rfl) (by show 0 + 8 ≤ 8; decide) (by simp [Value.oneCell']) ?_; intro x9 hk ho; have Y3 := zh (didE Y3.out Kgo.out (did_like _ _ _ _ _ _ _ _ _ _ _ _) ho.out); have Y4 := zh (didU Y4.out Kgo.out (did_like _ _ _ _ _ _ _ _ _ _ _ _) ho.out); have HB := zo ho HB Lgo; have z0 := zb hk.out 0 (.string kb.f0); have z1 := zb hk.out 1 (.int .i64 kb.f1); have z2 := zb hk.out 2 (.slice A5 kb.f2.length c5); have z3 := zb hk.out 3 (.slice A6 kb.f3.length c6); have z4 := zb hk.out 4 (.int .u64 kb.f4); have z5 := zb hk.out 5 (.int .u64 li); have z6 := zb hk.out 6 (.string ⟨#[]⟩); have z7 := zb hk.out 7 (.int .i64 er); clear hk ho)))
 refine bodyPost_ret (v := .agg #[.string kb.f0, .int .i64 kb.f1, .slice A5 kb.f2.length c5, .slice A6 kb.f3.length c6, .int .u64 kb.f4, .int .u64 li, .string ⟨#[]⟩, .int .i64 er]) (by simp [results, Tryz.results23, go_sem, z0, z1, z2, z3, z4, z5, z6, z7]) rfl ?_
 exact ⟨A5, c5, A6, c6, rfl, y1, y2, Y3.out, Y4.out, HB.out⟩
end
section
open Go.WideMaps Go.Maps
attribute [local go_sem] Oper.semAt_some
theorem do_del (b : S26) (A2 A3 : Option Addr) (c2 c3 : Nat) (kd id n q : Int) (key data : ByteArray) (A : Option Addr) (ps : List S43) (c : Nat) (w : World) (h2 : Kd.C k56 w A2 b.f2.length b.f2) (g2 : b.f2.length ≤ c2) (h3 : Kd.C k101 w A3 b.f3.length b.f3) (g3 : b.f3.length ≤ c3) (hk : Int.tmod kd 9 = 2) :
  Calls Tryz.prog 23 #[.agg #[.string b.f0, .int .i64 b.f1, .slice A2 b.f2.length c2, .slice A3 b.f3.length c3, .int .u64 b.f4], .agg #[.int .u8 kd, .string key, .string data, .int .u64 id, .int .i64 n, .int .i64 q, .slice A ps.length c]] w (DoPost (laidR b key (fun l id => deleteV l b.f1 id q)).1 (laidR b key (fun l id => deleteV l b.f1 id q)).2.1 ⟨#[]⟩ (laidR b key (fun l id => deleteV l b.f1 id q)).2.2 w) := by
 have HC := zh (fun (W : World) (h : Below w.heap.size w W) => delB.walk b A2 A3 c2 c3 key q W (Kd.C_below h2 h) g2 (Kd.C_below h3 h) g3)
 generalize laidR b key (fun l id => deleteV l b.f1 id q) = r at *
 obtain ⟨kb, li, er⟩ := r
 have HB := zh (Below.refl w.heap.size w)
 have kf : ∀ j : Int, (Int.tmod kd 9 == j) = ((2 : Int) == j) := fun j => by rw [hk]
 have e0 : (Int.tmod kd 9 == 0) = false := kf 0
 have e1 : (Int.tmod kd 9 == 1) = false := kf 1
 have e2 : (Int.tmod kd 9 == 2) = true := kf 2
 have e3 : (Int.tmod kd 9 == 3) = false := kf 3
 have e4 : (Int.tmod kd 9 == 4) = false := kf 4
 have e5 : (Int.tmod kd 9 == 5) = false := kf 5
 have e6 : (Int.tmod kd 9 == 6) = false := kf 6
 have e7 : (Int.tmod kd 9 == 7) = false := kf 7
 clear h2 h3 g2 g3 kf hk
 go_enter Tryz.func23, Tryz.ntmps23
 go_wp2_with (first
  | ((with_reducible refine gate_dst (N := 2) rfl ?_); go_must (refine box_event ?hg (N := 2) ?hd (cs := #[.string b.f0, .int .i64 b.f1, .slice A2 b.f2.length c2, .slice A3 b.f3.length c3, .int .u64 b.f4]) (t := 26) ?hr ?_; (case hd => rfl); (case hg => rfl); (case hr => first | (go_simp; done) | (go_simp; rfl)); intro gb hqgb w1 hbgb hbelgb; have Kgb := zh hbgb; have Lgb := zh (show w.heap.size ≤ gb by rw [hqgb]; exact HB.out.size); have HB := keepB HB hbelgb; clear hbgb hbelgb hqgb))
  | ((with_reducible refine gate_dst (N := 3) rfl ?_); go_must (refine box_event ?hg (N := 3) ?hd (cs := #[.int .u8 kd, .string key, .string data, .int .u64 id, .int .i64 n, .int .i64 q, .slice A ps.length c]) (t := 59) ?hr ?_; (case hd => rfl); (case hg => rfl); (case hr => first | (go_simp; done) | (go_simp; rfl)); intro ga hqga w2 hbga hbelga; have Kga := zh hbga; have Lga := zh (show w.heap.size ≤ ga by rw [hqga]; exact HB.out.size); have HB := keepB HB hbelga; have M1 := zh (show gb < ga by rw [hqga]; exact blk_lt Kgb.out); have Kgb := zk Kgb hbelga; clear hbga hbelga hqga))
  | ((with_reducible refine gate_dst (N := 4) rfl ?_); go_must (refine box_event ?hg (N := 4) ?hd (cs := #[.string ⟨#[]⟩, .int .i64 0, .slice none 0 0, .slice none 0 0, .int .u64 0, .int .u64 0, .string ⟨#[]⟩, .int .i64 0]) (t := 62) ?hr ?_; (case hd => rfl); (case hg => rfl); (case hr => first | (go_simp; done) | (go_simp; rfl)); intro go hqgo w3 hbgo hbelgo; have Kgo := zh hbgo; have Lgo := zh (show w.heap.size ≤ go by rw [hqgo]; exact HB.out.size); have HB := keepB HB hbelgo; have M2 := zh (show ga < go by rw [hqgo]; exact blk_lt Kga.out); have Kgb := zk Kgb hbelgo; have Kga := zk Kga hbelgo; clear hbgo hbelgo hqgo))
  | ((with_reducible refine gate_dst (N := 5) rfl ?_); go_must (refine box_event ?hg (N := 5) ?hd (cs := #[.string ⟨#[]⟩, .int .i64 0, .slice none 0 0, .slice none 0 0, .int .u64 0, .int .u64 0, .string ⟨#[]⟩, .int .i64 0]) (t := 62) ?hr ?_; (case hd => rfl); (case hg => rfl); (case hr => first | (go_simp; done) | (go_simp; rfl)); intro gd hqgd w4 hbgd hbelgd; have Kgd := zh hbgd; have Lgd := zh (show w.heap.size ≤ gd by rw [hqgd]; exact HB.out.size); have HB := keepB HB hbelgd; have M3 := zh (show go < gd by rw [hqgd]; exact blk_lt Kgo.out); have Kgb := zk Kgb hbelgd; have Kga := zk Kga hbelgd; have Kgo := zk Kgo hbelgd; clear hbgd hbelgd hqgd))
  | ((with_reducible refine gate_store (t := 62) (p := 5) (v := .tmp 9) rfl ?_); go_must (refine wpList_store_row rfl rfl 62 (.tmp 5) (.tmp 9) rfl gd 0 _ 62 (.agg #[.string ⟨#[]⟩, .int .i64 0, .slice none 0 0, .slice none 0 0, .int .u64 0, .int .u64 0, .string ⟨#[]⟩, .int .i64 0]) [.string ⟨#[]⟩, .int .i64 0, .slice none 0 0, .slice none 0 0, .int .u64 0, .int .u64 0, .string ⟨#[]⟩, .int .i64 0] rfl rfl Kgd.out rfl (by kernel_rfl) (by show 0 + 8 ≤ 8; decide) (by simp [Value.oneCell']) ?_; intro w5 hk ho; have Kgd : Hid (w5.heap[gd]? = some (.cells #[.string ⟨#[]⟩, .int .i64 0, .slice none 0 0, .slice none 0 0, .int .u64 0, .int .u64 0, .string ⟨#[]⟩, .int .i64 0] 62 (0, 0))) := hk; have HB := zo ho HB Lgd; have Kgb := zl ho Kgb (by have := M1.out; have := M2.out; have := M3.out; omega); have Kga := zl ho Kga (by have := M1.out; have := M2.out; have := M3.out; omega); have Kgo := zl ho Kgo (by have := M1.out; have := M2.out; have := M3.out; omega); have a0 := zb Kgb.out 0 (.string b.f0); have a1 := zb Kgb.out 1 (.int .i64 b.f1); have a2 := zb Kgb.out 2 (.slice A2 b.f2.length c2); have a3 := zb Kgb.out 3 (.slice A3 b.f3.length c3); have a4 := zb Kgb.out 4 (.int .u64 b.f4); have b0 := zb Kga.out 0 (.int .u8 kd); have b1 := zb Kga.out 1 (.string key); have b2 := zb Kga.out 2 (.string data); have b3 := zb Kga.out 3 (.int .u64 id); have b4 := zb Kga.out 4 (.int .i64 n); have b5 := zb Kga.out 5 (.int .i64 q); have b6 := zb Kga.out 6 (.slice A ps.length c); clear hk ho))
  | (go_at_call 39; go_must (refine (HC.out _ HB.out).mono ?_; rintro e w6 ⟨v, rfl, ⟨A5, c5, A6, c6, rfl, y1, y2, y3, y4⟩, hb⟩; have Y3 := zh y3; have Y4 := zh y4; have HB := keepB HB hb; have Kgo := zk Kgo hb; have Kgd := zk Kgd hb; clear hb y3 y4 a0 a1 a2 a3 a4 b0 b1 b2 b3 b4 b5 b6))
  | ((with_reducible refine gate_store (t := 26) (p := 60) (v := .tmp 57) rfl ?_); go_must (refine wpList_store_row rfl rfl 26 (.tmp 60) (.tmp 57) rfl gd 0 _ 62 (.agg #[.string kb.f0, .int .i64 kb.f1, .slice A5 kb.f2.length c5, .slice A6 kb.f3.length c6, .int .u64 kb.f4]) [.string kb.f0, .int .i64 kb.f1, .slice A5 kb.f2.length c5, .slice A6 kb.f3.length c6, .int .u64 kb.f4] rfl rfl Kgd.out rfl isz_bucket (by show 0 + 5 ≤ 8; decide) (by simp [Value.oneCell']) ?_; intro x0 hk ho; have Y3 := zh (didE Y3.out Kgd.out (did_like _ _ _ _ _ _ _ _ _ _ _ _) ho.out); have Y4 := zh (didU Y4.out Kgd.out (did_like _ _ _ _ _ _ _ _ _ _ _ _) ho.out); have Kgd : Hid (x0.heap[gd]? = some (.cells #[.string kb.f0, .int .i64 kb.f1, .slice A5 kb.f2.length c5, .slice A6 kb.f3.length c6, .int .u64 kb.f4, .int .u64 0, .string ⟨#[]⟩, .int .i64 0] 62 (0, 0))) := hk; have HB := zo ho HB Lgd; have Kgo := zl ho Kgo (by have := M3.out; omega); clear hk ho))
  | ((with_reducible refine gate_store (t := 24) (p := 61) (v := .tmp 58) rfl ?_); go_must (refine wpList_store_row rfl rfl 24 (.tmp 61) (.tmp 58) rfl gd 5 _ 62 (.int .u64 li) [.int .u64 li] rfl rfl Kgd.out rfl (by kernel_rfl) (by show 5 + 1 ≤ 8; decide) (by simp [Value.oneCell']) ?_; intro x1 hk ho; have Y3 := zh (didE Y3.out Kgd.out (did_like _ _ _ _ _ _ _ _ _ _ _ _) ho.out); have Y4 := zh (didU Y4.out Kgd.out (did_like _ _ _ _ _ _ _ _ _ _ _ _) ho.out); have Kgd : Hid (x1.heap[gd]? = some (.cells #[.string kb.f0, .int .i64 kb.f1, .slice A5 kb.f2.length c5, .slice A6 kb.f3.length c6, .int .u64 kb.f4, .int .u64 li, .string ⟨#[]⟩, .int .i64 0] 62 (0, 0))) := hk; have HB := zo ho HB Lgd; have Kgo := zl ho Kgo (by have := M3.out; omega); clear hk ho))
  | ((with_reducible refine gate_store (t := 30) (p := 62) (v := .tmp 59) rfl ?_); go_must (refine wpList_store_row rfl rfl 30 (.tmp 62) (.tmp 59) rfl gd 7 _ 62 (.int .i64 er) [.int .i64 er] rfl rfl Kgd.out rfl (by kernel_rfl) (by show 7 + 1 ≤ 8; decide) (by simp [Value.oneCell']) ?_; intro x2 hk ho; have Y3 := zh (didE Y3.out Kgd.out (did_like _ _ _ _ _ _ _ _ _ _ _ _) ho.out); have Y4 := zh (didU Y4.out Kgd.out (did_like _ _ _ _ _ _ _ _ _ _ _ _) ho.out); have Kgd : Hid (x2.heap[gd]? = some (.cells #[.string kb.f0, .int .i64 kb.f1, .slice A5 kb.f2.length c5, .slice A6 kb.f3.length c6, .int .u64 kb.f4, .int .u64 li, .string ⟨#[]⟩, .int .i64 er] 62 (0, 0))) := hk; have HB := zo ho HB Lgd; have Kgo := zl ho Kgo (by have := M3.out; omega); have d0 := zb Kgd.out 0 (.string kb.f0); have d1 := zb Kgd.out 1 (.int .i64 kb.f1); have d2 := zb Kgd.out 2 (.slice A5 kb.f2.length c5); have d3 := zb Kgd.out 3 (.slice A6 kb.f3.length c6); have d4 := zb Kgd.out 4 (.int .u64 kb.f4); have d5 := zb Kgd.out 5 (.int .u64 li); have d6 := zb Kgd.out 6 (.string ⟨#[]⟩); have d7 := zb Kgd.out 7 (.int .i64 er); clear hk ho))
  | ((with_reducible refine gate_store (t := 62) (p := 4) (v := .tmp 133) rfl ?_); go_must (refine wpList_store_row rfl rfl 62 (.tmp 4) (.tmp 133) rfl go 0 _ 62 (.agg #[.string kb.f0, .int .i64 kb.f1, .slice A5 kb.f2.length c5, .slice A6 kb.f3.length c6, .int .u64 kb.f4, .int .u64 li, .string ⟨#[]⟩, .int .i64 er]) [.string kb.f0, .int .i64 kb.f1, .slice A5 kb.f2.length c5, .slice A6 kb.f3.length c6, .int .u64 kb.f4, .int .u64 li, .string ⟨#[]⟩, .int .i64 er] rfl rfl Kgo.out rfl (by kernel_rfl) (by show 0 + 8 ≤ 8; decide) (by simp [Value.oneCell']) ?_; intro x9 hk ho; have Y3 := zh (didE Y3.out Kgo.out (did_like _ _ _ _ _ _ _ _ _ _ _ _) ho.out); have Y4 := zh (didU Y4.out Kgo.out (did_like _ _ _ _ _ _ _ _ _ _ _ _) ho.out); have HB := zo ho HB Lgo; have z0 := zb hk.out 0 (.string kb.f0); have z1 := zb hk.out 1 (.int .i64 kb.f1); have z2 := zb hk.out 2 (.slice A5 kb.f2.length c5); have z3 := zb hk.out 3 (.slice A6 kb.f3.length c6); have z4 := zb hk.out 4 (.int .u64 kb.f4); have z5 := zb hk.out 5 (.int .u64 li); have z6 := zb hk.out 6 (.string ⟨#[]⟩); have z7 := zb hk.out 7 (.int .i64 er); clear hk ho)))
 refine bodyPost_ret (v := .agg #[.string kb.f0, .int .i64 kb.f1, .slice A5 kb.f2.length c5, .slice A6 kb.f3.length c6, .int .u64 kb.f4, .int .u64 li, .string ⟨#[]⟩, .int .i64 er]) (by simp [results, Tryz.results23, go_sem, z0, z1, z2, z3, z4, z5, z6, z7]) rfl ?_
 exact ⟨A5, c5, A6, c6, rfl, y1, y2, Y3.out, Y4.out, HB.out⟩
end
section
open Go.WideMaps Go.Maps
attribute [local go_sem] Oper.semAt_some
end
section
open Go.WideMaps Go.Maps
attribute [local go_sem] Oper.semAt_some
structure Did where
 b : S26
 id : Int
 tg : ByteArray
 er : Int
structure Act where
 kd : Int
 key : ByteArray
 data : ByteArray
 id : Int
 n : Int
 q : Int
 ps : List S43
def d3 (r : S26 × Int × Int) : Did := ⟨r.1, r.2.1, ⟨#[]⟩, r.2.2⟩
def d2 (r : S26 × Int) : Did := ⟨r.1, 0, ⟨#[]⟩, r.2⟩
def doR (b : S26) (a : Act) : Did :=
 if Int.tmod a.kd 9 = 0 then d3 (laidR b a.key (fun l id => putV l b.f1 ⟨id, a.data, false, a.q⟩))
 else if Int.tmod a.kd 9 = 1 then d3 (laidR b a.key (fun l id => putV l b.f1 ⟨id, a.data, false, a.q⟩))
 else if Int.tmod a.kd 9 = 2 then d3 (laidR b a.key (fun l id => deleteV l b.f1 id a.q))
 else if Int.tmod a.kd 9 = 3 then d2 (dropB b a.key a.id)
 else if Int.tmod a.kd 9 = 4 then d2 (turnB b a.n)
 else if Int.tmod a.kd 9 = 5 then d3 (beginB b a.key)
 else if Int.tmod a.kd 9 = 6 then ⟨(layB b a.id ⟨a.n, a.data⟩).1, IntKind.u64.wrap (layB b a.id ⟨a.n, a.data⟩).2.1, ⟨#[]⟩, (layB b a.id ⟨a.n, a.data⟩).2.2⟩
 else if Int.tmod a.kd 9 = 7 then d2 (abortB b a.id)
 else ⟨(wholeB b a.id a.ps a.q).1, (wholeB b a.id a.ps a.q).2.1, (wholeB b a.id a.ps a.q).2.2.1, (wholeB b a.id a.ps a.q).2.2.2⟩
end
section
open Go.WideMaps Go.Maps
theorem putV_ok {l : List S47} {st : Int} {x : S47} (h : (putV l st x).2 = 0) :
  chainB l = true ∧ 0 ≤ st ∧ st ≤ 2 ∧ mayV x = true ∧ (0 < l.length → (l.headD z47).f3 ≤ x.f3) ∧ (st = 1 → x.f0 ≠ 0) ∧ (putV l st x).1 = (if st = 1 then x :: l else ⟨0, x.f1, x.f2, x.f3⟩ :: delV 0 l) ∧ (putV l st x).1.length ≤ 20 := by
 unfold putV at h ⊢
 by_cases h1 : chainB l = false ∨ ¬ (0 ≤ st ∧ st ≤ 2) ∨ mayV x = false ∨ (0 < l.length ∧ x.f3 < (l.headD z47).f3)
 ·rw [if_pos h1] at h; cases h
 ·rw [if_neg h1] at h ⊢
  by_cases h2 : (layV st l x).2 ≠ 0
  ·rw [if_pos h2] at h; exact absurd h h2
  ·rw [if_neg h2] at h ⊢
   by_cases h3 : 20 < (layV st l x).1.length
   ·rw [if_pos h3] at h; cases h
   ·rw [if_neg h3]
    have q1 : chainB l = true := bool_no (fun c => h1 (Or.inl c))
    have q2 : 0 ≤ st ∧ st ≤ 2 := Decidable.byContradiction (fun c => h1 (Or.inr (Or.inl c)))
    have q3 : mayV x = true := bool_no (fun c => h1 (Or.inr (Or.inr (Or.inl c))))
    refine ⟨q1, q2.1, q2.2, q3, fun hl => ?_, fun hs => ?_, ?_, Nat.le_of_not_lt h3⟩
    ·exact Int.not_lt.1 (fun c => h1 (Or.inr (Or.inr (Or.inr ⟨hl, c⟩))))
    ·intro c
     apply h2
     unfold layV
     rw [if_pos hs, if_pos (by rw [c]; rfl)]
     exact (by decide : (1 : Int) ≠ 0)
    ·unfold layV at h2 ⊢
     by_cases hs : st = 1
     ·rw [if_pos hs] at h2
      rw [if_pos hs, if_pos hs]
      by_cases h0 : (x.f0 == 0) = true
      ·rw [if_pos h0] at h2; exact absurd (by decide) h2
      ·rw [if_neg h0] at h2
       rw [if_neg h0]
       by_cases h9 : l.any (geB x.f0) = true
       ·rw [if_pos h9] at h2; exact absurd (by decide) h2
       ·rw [if_neg h9]
     ·rw [if_neg hs, if_neg hs]
theorem dropV_ok {l : List S47} {id : Int} (h : (dropV l id).2 = 0) : chainB l = true ∧ hasId l id = true ∧ (dropV l id).1 = delV id l := by
 unfold dropV at h ⊢
 by_cases h1 : chainB l = false
 ·rw [if_pos h1] at h; cases h
 ·rw [if_neg h1] at h ⊢
  by_cases h2 : hasId l id = false
  ·rw [if_pos h2] at h; cases h
  ·rw [if_neg h2]; exact ⟨bool_no h1, bool_no h2, rfl⟩
theorem delV_mem {id : Int} {l : List S47} {v : S47} (h : v ∈ delV id l) : v ∈ l := (List.mem_filter.1 h).1
/-- what an act of the first four kinds makes of its key's versions -/
def actC (st : Int) (a : Act) (l : List S47) (id : Int) : List S47 × Int :=
 if Int.tmod a.kd 9 = 2 then deleteV l st id a.q else if Int.tmod a.kd 9 = 3 then dropV l a.id else putV l st ⟨id, a.data, false, a.q⟩
theorem actC_mem {st : Int} {a : Act} {l : List S47} {id : Int} (h : (actC st a l id).2 = 0) : ∀ v ∈ (actC st a l id).1, v ∈ l ∨ v.f0 = 0 ∨ (st = 1 ∧ Int.tmod a.kd 9 ≠ 3 ∧ v.f0 = id) := by
 have hput : ∀ x : S47, (st = 1 → x.f0 = id) → (putV l st x).2 = 0 → ∀ v ∈ (putV l st x).1, v ∈ l ∨ v.f0 = 0 ∨ (st = 1 ∧ v.f0 = id) := by
  intro x hx hp v hv
  obtain ⟨_, _, _, _, _, _, e, _⟩ := putV_ok hp
  rw [e] at hv
  by_cases hs : st = 1
  ·rw [if_pos hs] at hv
   rcases List.mem_cons.1 hv with rfl | hv
   ·exact Or.inr (Or.inr ⟨hs, hx hs⟩)
   ·exact Or.inl hv
  ·rw [if_neg hs] at hv
   rcases List.mem_cons.1 hv with rfl | hv
   ·exact Or.inr (Or.inl rfl)
   ·exact Or.inl (delV_mem hv)
 intro v hv
 unfold actC at h hv
 by_cases h2 : Int.tmod a.kd 9 = 2
 ·rw [if_pos h2] at h hv
  unfold deleteV at h hv
  by_cases hs : st = 0
  ·rw [if_pos hs] at h hv
   rw [(dropV_ok h).2.2] at hv
   exact Or.inl (delV_mem hv)
  ·rw [if_neg hs] at h hv
   rcases hput _ (fun e => if_neg (by omega)) h v hv with x | x | x
   ·exact Or.inl x
   ·exact Or.inr (Or.inl x)
   ·exact Or.inr (Or.inr ⟨x.1, by omega, x.2⟩)
 ·rw [if_neg h2] at h hv
  by_cases h3 : Int.tmod a.kd 9 = 3
  ·rw [if_pos h3] at h hv
   rw [(dropV_ok h).2.2] at hv
   exact Or.inl (delV_mem hv)
  ·rw [if_neg h3] at h hv
   rcases hput _ (fun _ => rfl) h v hv with x | x | x
   ·exact Or.inl x
   ·exact Or.inr (Or.inl x)
   ·exact Or.inr (Or.inr ⟨x.1, h3, x.2⟩)
/-- the bucket that an act of the first four kinds makes, where it goes -/
def actB (b : S26) (a : Act) : S26 := ⟨b.f0, b.f1, putL b.f2 a.key (actC b.f1 a (getE b.f2 a.key) (idR b)).1, b.f3, if Int.tmod a.kd 9 = 3 then b.f4 else lastR b⟩
theorem do4_ok {b : S26} {a : Act} (h0 : 0 ≤ Int.tmod a.kd 9) (h4 : Int.tmod a.kd 9 < 4) (h : (doR b a).er = 0) :
  bucketB b = true ∧ keyB a.key = true ∧ (actC b.f1 a (getE b.f2 a.key) (idR b)).2 = 0 ∧ chainB (actC b.f1 a (getE b.f2 a.key) (idR b)).1 = true ∧
  (putL b.f2 a.key (actC b.f1 a (getE b.f2 a.key) (idR b)).1).length ≤ 60 ∧ octB (putL b.f2 a.key (actC b.f1 a (getE b.f2 a.key) (idR b)).1) b.f3 ≤ 20000 ∧
  (Int.tmod a.kd 9 < 3 → b.f1 = 1 → b.f4 < 281474976710655) ∧ doR b a = ⟨actB b a, if Int.tmod a.kd 9 = 3 then 0 else idR b, ⟨#[]⟩, 0⟩ := by
 by_cases k3 : Int.tmod a.kd 9 = 3
 ·have e : doR b a = d2 (dropB b a.key a.id) := by
   unfold doR
   rw [if_neg (by omega), if_neg (by omega), if_neg (by omega), if_pos k3]
  rw [e] at h ⊢
  have ea : actC b.f1 a (getE b.f2 a.key) (idR b) = dropV (getE b.f2 a.key) a.id := by
   unfold actC
   rw [if_neg (by omega), if_pos k3]
  unfold actB
  rw [ea, if_pos k3, if_pos k3]
  obtain ⟨q1, q2, q3, q4, q5, q6, q7⟩ := dropB_ok h
  exact ⟨q1, q2, q3, q4, q5, q6, fun x => by omega, by rw [q7]; rfl⟩
 ·have e : doR b a = d3 (laidR b a.key (actC b.f1 a)) := by
   have ea : (actC b.f1 a) = if Int.tmod a.kd 9 = 2 then (fun l id => deleteV l b.f1 id a.q) else (fun l id => putV l b.f1 ⟨id, a.data, false, a.q⟩) := by
    funext l id
    unfold actC
    by_cases k2 : Int.tmod a.kd 9 = 2
    ·rw [if_pos k2, if_pos k2]
    ·rw [if_neg k2, if_neg k3, if_neg k2]
   rw [ea]
   unfold doR
   by_cases k0 : Int.tmod a.kd 9 = 0
   ·rw [if_pos k0, if_neg (by omega)]
   ·rw [if_neg k0]
    by_cases k1 : Int.tmod a.kd 9 = 1
    ·rw [if_pos k1, if_neg (by omega)]
    ·rw [if_neg k1, if_pos (by omega), if_pos (by omega)]
  rw [e] at h ⊢
  unfold actB
  rw [if_neg k3, if_neg k3]
  obtain ⟨q1, q2, q3, q4, q5, q6, q7, q8⟩ := laid_ok (f := actC b.f1 a) h
  exact ⟨q1, q2, q3, q4, q5, q6, fun _ => q7, by rw [q8]; rfl⟩
theorem do4_no {b : S26} {a : Act} (h0 : 0 ≤ Int.tmod a.kd 9) (h4 : Int.tmod a.kd 9 < 4) (h : (doR b a).er ≠ 0) : (doR b a).b = b ∧ (doR b a).id = 0 := by
 unfold doR at h ⊢
 by_cases k0 : Int.tmod a.kd 9 = 0
 ·rw [if_pos k0] at h ⊢; exact laid_no h
 rw [if_neg k0] at h ⊢
 by_cases k1 : Int.tmod a.kd 9 = 1
 ·rw [if_pos k1] at h ⊢; exact laid_no h
 rw [if_neg k1] at h ⊢
 by_cases k2 : Int.tmod a.kd 9 = 2
 ·rw [if_pos k2] at h ⊢; exact laid_no h
 rw [if_neg k2, if_pos (by omega)] at h ⊢
 exact ⟨dropB_no h, rfl⟩
theorem chain_get {l : List S56} (h : indexB l = true) (key : ByteArray) : chainB (getE l key) = true := by
 rcases getE_or key l with ⟨x, hx, _, e⟩ | ⟨_, e⟩
 ·rw [e]; exact (index_mem h x hx).2.2
 ·rw [e]; rfl
theorem bucket_ix {b : S26} (h : bucketB b = true) : SE b.f2 ∧ indexB b.f2 = true := ⟨((index_iff _).1 (bucket_at h).2.1).2.1, (bucket_at h).2.1⟩
theorem near_get {b : S26} (h : bucketB b = true) (key : ByteArray) : ∀ v ∈ getE b.f2 key, v.f0 ≤ b.f4 ∧ (b.f1 = 0 → v.f0 = 0) := by
 intro v hv
 rcases getE_or key b.f2 with ⟨x, hx, _, e⟩ | ⟨_, e⟩
 ·rw [e] at hv
  have h1 := List.all_eq_true.1 (bucket_at h).2.2.2.2.1 x hx
  unfold nearB at h1
  rw [Bool.not_eq_true', List.any_eq_false] at h1
  have h2 := h1 v hv
  unfold farB at h2
  simp only [Bool.or_eq_true, decide_eq_true_eq, Bool.and_eq_true, beq_iff_eq, Bool.not_eq_true', beq_eq_false_iff_ne, ne_eq, not_or, not_and, Decidable.not_not] at h2
  exact ⟨by omega, fun c => h2.2 c⟩
 ·rw [e] at hv; cases hv
theorem put_bucket {b : S26} (hb : bucketB b = true) {key : ByteArray} {c : List S47} {L : Int} (hk : keyB key = true) (hc : chainB c = true) (hl : (putL b.f2 key c).length ≤ 60) (ho : octB (putL b.f2 key c) b.f3 ≤ 20000) (h1 : b.f4 ≤ L) (h2 : L ≤ 281474976710655) (hv : ∀ v ∈ c, v.f0 ≤ L ∧ (b.f1 = 0 → v.f0 = 0)) :
  bucketB (⟨b.f0, b.f1, putL b.f2 key c, b.f3, L⟩ : S26) = true := by
 obtain ⟨q1, q2, q3, q4, q5, q6⟩ := bucket_at hb
 obtain ⟨i1, i2, i3⟩ := (index_iff _).1 q2
 unfold bucketB
 simp only [Bool.and_eq_true, decide_eq_true_eq, Bool.not_eq_true']
 refine ⟨?_, (index_iff _).2 ⟨hl, putL_SE key c i2, fun x hx => ?_⟩, q3, ho, List.all_eq_true.2 (fun x hx => ?_), ?_⟩
 ·unfold headB at q1 ⊢
  simp only [Bool.and_eq_true, decide_eq_true_eq] at q1 ⊢
  exact ⟨q1.1, q1.2.1, q1.2.2.1, h2⟩
 ·rcases (putL_mem i2).1 hx with ⟨x1, _⟩ | ⟨x1, rfl⟩
  ·exact i3 x x1
  ·exact ⟨hk, x1, hc⟩
 ·unfold nearB
  rw [Bool.not_eq_true', List.any_eq_false]
  intro v hvx
  have hn : v.f0 ≤ L ∧ (b.f1 = 0 → v.f0 = 0) := by
   rcases (putL_mem i2).1 hx with ⟨x1, _⟩ | ⟨x1, rfl⟩
   ·have e := getE_mem i2 x1
    rw [← e] at hvx
    have := near_get hb _ v hvx
    exact ⟨by omega, this.2⟩
   ·exact hv v hvx
  unfold farB
  simp only [Bool.or_eq_true, decide_eq_true_eq, Bool.and_eq_true, beq_iff_eq, Bool.not_eq_true', beq_eq_false_iff_ne, ne_eq, not_or, not_and, Decidable.not_not]
  exact ⟨by omega, hn.2⟩
 ·rw [List.any_eq_false] at q6 ⊢
  intro u hu
  have := q6 u hu
  unfold updB at this ⊢
  rw [decide_eq_true_eq] at this ⊢
  omega
theorem last_le {b : S26} (hb : bucketB b = true) (h4 : 0 ≤ b.f4) (hl : b.f1 = 1 → b.f4 < 281474976710655) : b.f4 ≤ lastR b ∧ lastR b ≤ 281474976710655 ∧ (b.f1 = 1 → lastR b = b.f4 + 1) ∧ (b.f1 ≠ 1 → lastR b = b.f4) ∧ (b.f1 = 1 → idR b = b.f4 + 1) ∧ (b.f1 ≠ 1 → idR b = 0) := by
 have hm : b.f4 ≤ 281474976710655 := by
  have := (bucket_at hb).1
  unfold headB at this
  simp only [Bool.and_eq_true, decide_eq_true_eq] at this
  exact this.2.2.2
 unfold lastR idR
 by_cases h : b.f1 = 1
 ·rw [if_pos h, if_pos h, wrap_le h4 hm]
  have := hl h
  exact ⟨by omega, by omega, fun _ => rfl, fun c => absurd h c, fun _ => rfl, fun c => absurd h c⟩
 ·rw [if_neg h, if_neg h]
  exact ⟨Int.le_refl _, hm, fun c => absurd c h, fun _ => rfl, fun c => absurd c h, fun _ => rfl⟩
theorem act_bucket {b : S26} {a : Act} (h4 : 0 ≤ b.f4) (k0 : 0 ≤ Int.tmod a.kd 9) (k4 : Int.tmod a.kd 9 < 4) (h : (doR b a).er = 0) : bucketB (actB b a) = true ∧ b.f4 ≤ (actB b a).f4 := by
 obtain ⟨q1, q2, q3, q4, q5, q6, q7, q8⟩ := do4_ok k0 k4 h
 have hm := actC_mem q3
 unfold actB
 by_cases k3 : Int.tmod a.kd 9 = 3
 ·rw [if_pos k3]
  have hh := (bucket_at q1).1
  unfold headB at hh
  simp only [Bool.and_eq_true, decide_eq_true_eq] at hh
  refine ⟨put_bucket q1 q2 q4 q5 q6 (Int.le_refl _) hh.2.2.2 (fun v hv => ?_), Int.le_refl _⟩
  rcases hm v hv with x | x | x
  ·exact near_get q1 _ v x
  ·exact ⟨by omega, fun _ => x⟩
  ·exact absurd k3 x.2.1
 ·rw [if_neg k3]
  obtain ⟨l1, l2, l3, l4, l5, l6⟩ := last_le q1 h4 (q7 (by omega))
  refine ⟨put_bucket q1 q2 q4 q5 q6 l1 l2 (fun v hv => ?_), l1⟩
  rcases hm v hv with x | x | x
  ·have := near_get q1 _ v x
   exact ⟨by omega, this.2⟩
  ·exact ⟨by omega, fun _ => x⟩
  ·rw [x.2.2, l5 x.1, l3 x.1]
   exact ⟨Int.le_refl _, fun c => by omega⟩
theorem getB_of {b : S26} {key : ByteArray} (hb : bucketB b = true) (hk : keyB key = true) : getB b key = if (getE b.f2 key).length = 0 then (z47, 4) else ((getE b.f2 key).getD 0 z47, if ((getE b.f2 key).getD 0 z47).f2 = true then 13 else 0) := by
 unfold getB
 have ho : openR b key = 0 := by
  unfold openR
  rw [if_neg (by rw [hb, hk]; simp)]
 have hc := chain_get (bucket_ix hb).2 key
 rw [if_pos ho]
 unfold atV
 rw [if_neg (by rw [hc]; simp)]
 by_cases hl : (getE b.f2 key).length = 0
 ·rw [if_pos hl, if_pos (Or.inr (by omega))]
 ·rw [if_neg hl, if_neg (by omega)]; rfl
end
section
open Go.WideMaps Go.Maps

end
section
open Go.WideMaps Go.Maps
theorem turned_only {w w' : World} {m : Nat} (h : w.mapTurned w' m) : Only m w w' := by
 obtain ⟨es, clock, es', clock', hb, rfl⟩ := h
 refine ⟨rfl, rfl, rfl, ?_, fun k hk hne => ?_⟩
 ·show _ ≤ (w.heap.setIfInBounds m _).size
  simp
 ·show (w.heap.setIfInBounds m _)[k]? = _
  rw [Array.getElem?_setIfInBounds_ne (fun e => hne e.symm)]
theorem not_map {w : World} {p : Addr} {u : Value} {es : Array MapEntry} {c : Nat} (h : w.cell? p = some u) (hb : w.heap[p.block]? = some (.map es c)) : False := by
 simp [World.cell?, hb] at h
section
variable {w w1 : World} {g : Nat} {es : Array MapEntry} {clock : Nat} {A : Option Addr} {n : Nat}
theorem C_map {α : Type} {d : Kd α} {l : List α} (h : Kd.C d w A n l) (hg : w.heap[g]? = some (.map es clock)) (ho : Only g w w1) (h0 : 0 < d.sz) (hK : ∀ (x : α) (c : List Value), d.K w x c → d.K w1 x c) : Kd.C d w1 A n l := by
 obtain ⟨h1, h2, h3⟩ := h
 refine ⟨h1, h2, fun hn => ?_⟩
 obtain ⟨ad, e, hc⟩ := h3 hn
 refine ⟨ad, e, fun j x hx => ?_⟩
 obtain ⟨c, h4, h5, h6⟩ := hc j x hx
 refine ⟨c, h4, hK x c h5, fun i u hu => ?_⟩
 have hb : ad.block ≠ g := fun e => not_map (h6 i u hu) (by rw [(add_blk _ _).1, e]; exact hg)
 exact ho.cell (by rw [(add_blk _ _).1]; exact hb) (h6 i u hu)
theorem mapV {l : List S47} (h : Kd.C k47 w A n l) (hg : w.heap[g]? = some (.map es clock)) (ho : Only g w w1) : Kd.C k47 w1 A n l :=
 C_map h hg ho (by decide) (fun x c hk => by obtain rfl := k47_open hk; exact k47_mk w1 x)
theorem mapPt {l : List S40} (h : Kd.C k40 w A n l) (hg : w.heap[g]? = some (.map es clock)) (ho : Only g w w1) : Kd.C k40 w1 A n l :=
 C_map h hg ho (by decide) (fun x c hk => by obtain rfl := k40_open hk; exact k40_mk w1 x)
theorem mapE {l : List S56} (h : Kd.C k56 w A n l) (hg : w.heap[g]? = some (.map es clock)) (ho : Only g w w1) : Kd.C k56 w1 A n l :=
 C_map h hg ho (by decide) (fun x c hk => by obtain ⟨A1, c1, rfl, h1, h2⟩ := k56_open hk; exact k56_mk w1 x h1 (mapV h2 hg ho))
theorem mapU {l : List S101} (h : Kd.C k101 w A n l) (hg : w.heap[g]? = some (.map es clock)) (ho : Only g w w1) : Kd.C k101 w1 A n l :=
 C_map h hg ho (by decide) (fun x c hk => by obtain ⟨A1, c1, rfl, h1, h2⟩ := k101_open hk; exact k101_mk w1 x h1 (mapPt h2 hg ho))
end
theorem C_cut {α : Type} {d : Kd α} {w : World} {A : Option Addr} {l : List α} (h : Kd.C d w A l.length l) (m : Nat) : Kd.C d w A (l.take m).length (l.take m) := by
 rcases Nat.le_total m l.length with hm | hm
 ·have := C_take h m hm
  rw [List.length_take, Nat.min_eq_left hm]; exact this
 ·rw [List.take_of_length_le hm]; exact h
abbrev kl (key : ByteArray) : Lit := .string key.data.toList
theorem kl_ne {a b : ByteArray} (h : a ≠ b) : kl a ≠ kl b := lit_ne h
def strR : Value → Option (DataW Unit × List MemPlace)
 | .string s => some (.lit (.string s.data.toList), [])
 | _ => none
theorem strR_inv {v : Value} {z : DataW Unit × List MemPlace} (h : strR v = some z) : ∃ s, v = .string s ∧ z = (.lit (.string s.data.toList), []) := by
 cases v <;> simp only [strR] at h <;> try (cases h; done)
 exact ⟨_, rfl, by cases h; rfl⟩
theorem str_inj {a b : List UInt8} (h : (DataW.lit (.string a) : DataW Unit) = .lit (.string b)) : a = b := Lit.string.inj (DataW.lit.inj h)
theorem slaw : Keyed Tryz.prog 9 := string_keyed Tryz.underlying9
theorem skey {s : ByteArray} (h : s.size ≤ 80) : keyOf Tryz.prog 9 (.string s) = some (kl s) := keyOf_string_mk Tryz.underlying9 (by unfold maxLen; omega)
theorem owns_blk {w w' : World} {P : Program} {k : TypeId} {R : Value → Option (DataW Unit × List MemPlace)} {b n : Nat} {D : DataW Unit} (h : w.ownsMap P k R b n D) (e : w'.heap[b]? = w.heap[b]?) : w'.ownsMap P k R b n D := by
 obtain ⟨es, clock, hb, r⟩ := h
 exact ⟨es, clock, e.trans hb, r⟩
theorem owns_below {w w' : World} {P : Program} {k : TypeId} {R : Value → Option (DataW Unit × List MemPlace)} {b n : Nat} {D : DataW Unit} (h : w.ownsMap P k R b n D) (hb : Below w.heap.size w w') : w'.ownsMap P k R b n D := owns_blk h (hb.block b h.lt)
theorem owns_only {w w' : World} {P : Program} {k : TypeId} {R : Value → Option (DataW Unit × List MemPlace)} {b n g : Nat} {D : DataW Unit} (h : w.ownsMap P k R b n D) (ho : Only g w w') (hn : b ≠ g) : w'.ownsMap P k R b n D := owns_blk h (ho.block b h.lt hn)
theorem owns_at {w : World} {P : Program} {k : TypeId} {R : Value → Option (DataW Unit × List MemPlace)} {b n : Nat} {D : DataW Unit} (h : w.ownsMap P k R b n D) : ∃ es clock, w.heap[b]? = some (.map es clock) := by
 obtain ⟨es, clock, hb, _⟩ := h
 exact ⟨es, clock, hb⟩
theorem owns_ne {w : World} {P : Program} {k : TypeId} {R : Value → Option (DataW Unit × List MemPlace)} {b n g : Nat} {D : DataW Unit} {cs : Array Value} {t : TypeId} {fr : Nat × Nat} (h : w.ownsMap P k R b n D) (hg : w.heap[g]? = some (.cells cs t fr)) : b ≠ g := by
 rintro rfl
 obtain ⟨es, clock, hb⟩ := owns_at h
 rw [hb] at hg
 cases hg
section
variable (w : World) {ops : Array Oper} {rest : List Oper} {o : Oper} {a : Go.Act} {Q : Exit → Go.Act → World → Prop}
/-- 'data, there := last[key]' -/
theorem wpList_lookS (hg : o.guard = none) (m x : Operand) (t : TypeId) (hop : o.op = Op.lookup t m x true) (ht : Tryz.prog.underlying t = some (.map 9 9)) (b n : Nat) (D : DataW Unit)
  (hm : a.eval m = .map (some b)) (hown : w.ownsMap Tryz.prog 9 strR b n D) (key : ByteArray) (hs : key.size ≤ 80) (hx : a.eval x = .string key) (r : ByteArray) (there : Bool) (hh : Maps.has D (kl key) = there) (h1 : there = true → ∀ z, D.atKey (kl key) z = .lit (.string r.data.toList)) (h0 : there = false → r = ⟨#[]⟩)
  (hK : wpList Tryz.prog ops Q rest (a.put o.dst (.tuple #[.string r, .bool there])) w) : wpList Tryz.prog ops Q (o :: rest) a w := by
 refine wpList_lookup_own_ok w hg m x t hop 9 9 slaw ht strR (Tryz.zeroValue9 w) (.lit (.string [])) [] rfl b n D hm hown (.string key) (kl key) hx (skey hs) (fun v ps hv => ?_)
 obtain ⟨s, rfl, hz⟩ := strR_inv hv
 have hz1 := congrArg Prod.fst hz
 simp only at hz1
 have es : s = r := by
  cases there
  ·rw [h0 rfl]
   rw [atKey_of_not_has hh] at hz1
   exact bytes_inj (str_inj hz1).symm
  ·rw [h1 rfl] at hz1
   exact bytes_inj (str_inj hz1).symm
 rw [hh, es]
 exact hK
end
end
section
open Go.WideMaps Go.Maps
theorem len_has : ∀ {l : List S56}, SE l → (∀ x ∈ l, x.f1.length ≠ 0) → ∀ key, l.length = l.countP (fun x => !(eqK key x)) + (if (getE l key).length = 0 then 0 else 1)
 | [], _, _, _ => rfl
 | x :: l, h, hn, key => by
  obtain ⟨h1, h2⟩ := SE_cons h
  have ih := len_has h2 (fun y hy => hn y (List.mem_cons_of_mem _ hy)) key
  rw [getE_cons, List.countP_cons, List.length_cons]
  by_cases he : eqK key x = true
  ·rw [if_pos he, if_neg (hn x List.mem_cons_self), he]
   have hg : (getE l key).length = 0 := by
    rw [getE_none (fun y hy e => by have := h1 y hy; rw [e, eqK_eq.1 he] at this; exact ltN_irrefl _ this)]; rfl
   rw [if_pos hg] at ih
   simp only [Bool.not_true, Bool.false_eq_true, if_false]
   omega
  ·rw [if_neg he, Bool.eq_false_iff.2 he]
   simp only [Bool.not_false, if_true]
   omega
structure OffI (b : S26) (D : DataW Unit) : Prop where
 bk : bucketB b = true
 st : b.f1 = 0
 last : b.f4 = 0
 tidy : Tidy D
 size : Maps.size D = b.f2.length
 has : ∀ key, Maps.has D (kl key) = !decide ((getE b.f2 key).length = 0)
 at_ : ∀ key v r, getE b.f2 key = v :: r → v.f2 = false ∧ ∀ z, D.atKey (kl key) z = .lit (.string v.f1.data.toList)
theorem off_new {s : ByteArray} (h : bnameB s = true) : OffI (⟨s, 0, [], [], 0⟩ : S26) (.map []) where
 bk := by
  unfold bucketB headB
  simp only [h, Bool.true_and]
  rfl
 st := rfl
 last := rfl
 tidy := tidy_empty
 size := rfl
 has := fun key => rfl
 at_ := fun key v r e => by cases e
theorem key_out {l : List S56} (h : indexB l = true) {key : ByteArray} (hk : keyB key = false) : getE l key = [] :=
 getE_none (fun x hx e => by have := (index_mem h x hx).1; rw [e, hk] at this; cases this)
theorem off_get {b : S26} {D : DataW Unit} (h : OffI b D) (key : ByteArray) :
  decide ((getB b key).2 = 0) = Maps.has D (kl key) ∧ (Maps.has D (kl key) = true → ∀ z, D.atKey (kl key) z = .lit (.string (getB b key).1.f1.data.toList)) := by
 rw [h.has key]
 cases hk : keyB key
 ·have hg := key_out (bucket_ix h.bk).2 hk
  rw [hg]
  refine ⟨?_, fun c => by cases c⟩
  unfold getB openR
  rw [if_neg (by rw [if_pos (Or.inr hk)]; decide), if_pos (Or.inr hk)]
  rfl
 ·rw [getB_of h.bk hk]
  cases hg : getE b.f2 key with
  | nil => exact ⟨rfl, fun c => by cases c⟩
  | cons v r =>
   obtain ⟨h1, h2⟩ := h.at_ key v r hg
   rw [if_neg (by simp)]
   refine ⟨?_, fun _ z => h2 z⟩
   show decide ((if v.f2 = true then (13 : Int) else 0) = 0) = _
   rw [h1]
   rfl
def offD (D : DataW Unit) (a : Act) (er : Int) : DataW Unit := if er = 0 then (if Int.tmod a.kd 9 = 2 then D.del (kl a.key) else D.put (kl a.key) (.lit (.string a.data.data.toList))) else D
theorem off_step {b : S26} {D : DataW Unit} (h : OffI b D) {a : Act} (k0 : 0 ≤ Int.tmod a.kd 9) (k3 : Int.tmod a.kd 9 < 3) :
  (doR b a).id = 0 ∧ (doR b a).b.f4 = 0 ∧ OffI (doR b a).b (offD D a (doR b a).er) := by
 by_cases he : (doR b a).er = 0
 ·obtain ⟨q1, q2, q3, q4, q5, q6, q7, q8⟩ := do4_ok k0 (by omega) he
  have hx := (act_bucket (by rw [h.last]; exact Int.le_refl _) k0 (by omega) he).1
  have hid : idR b = 0 := by unfold idR; rw [if_neg (by rw [h.st]; decide)]
  have hla : lastR b = 0 := by unfold lastR; rw [if_neg (by rw [h.st]; decide)]; exact h.last
  have s0 := (bucket_ix h.bk).1
  have hne : ∀ x ∈ b.f2, x.f1.length ≠ 0 := fun x hx => (index_mem (bucket_ix h.bk).2 x hx).2.1
  have hlen := len_has s0 hne a.key
  have hd0 : delV 0 (getE b.f2 a.key) = [] := by
   unfold delV
   rw [List.filter_eq_nil_iff]
   intro v hv
   have := (near_get h.bk a.key v hv).2 h.st
   unfold idB
   rw [this]
   simp
  have hf2 : (actB b a).f2 = putL b.f2 a.key (actC b.f1 a (getE b.f2 a.key) (idR b)).1 := rfl
  have hl := len_put s0 a.key (actC b.f1 a (getE b.f2 a.key) (idR b)).1
  have gsame : getE (actB b a).f2 a.key = (actC b.f1 a (getE b.f2 a.key) (idR b)).1 := getE_put s0 a.key _
  have gother : ∀ key, key ≠ a.key → getE (actB b a).f2 key = getE b.f2 key := fun key hk => getE_other s0 _ hk
  rw [q8]
  simp only
  rw [hid, if_neg (by omega)]
  have hlast : (actB b a).f4 = 0 := by unfold actB; simp only; rw [if_neg (by omega), hla]
  refine ⟨rfl, hlast, ?_⟩
  unfold offD
  rw [if_pos rfl]
  by_cases k2 : Int.tmod a.kd 9 = 2
  ·have hc : (actC b.f1 a (getE b.f2 a.key) (idR b)).1 = [] ∧ (getE b.f2 a.key).length ≠ 0 := by
    unfold actC at q3 ⊢
    rw [if_pos k2] at q3 ⊢
    unfold deleteV at q3 ⊢
    rw [if_pos h.st] at q3 ⊢
    obtain ⟨d1, d2, d3⟩ := dropV_ok q3
    rw [d3, hd0]
    refine ⟨rfl, fun e => ?_⟩
    rw [List.length_eq_zero_iff.1 e] at d2
    cases d2
   rw [if_pos k2]
   rw [hc.1] at hl gsame hf2
   have hh : Maps.has D (kl a.key) = true := by rw [h.has, decide_eq_false hc.2]; rfl
   refine ⟨hx, h.st, hlast, h.tidy.del _, ?_, fun key => ?_, fun key v r e => ?_⟩
   ·have hs := size_del (k := kl a.key) h.tidy
    rw [hh, if_pos rfl, h.size] at hs
    rw [if_neg hc.2] at hlen
    rw [hf2, hl]
    simp only [List.length_nil, if_true]
    omega
   ·by_cases hk : key = a.key
    ·subst hk
     rw [has_del_same, gsame]; rfl
    ·rw [has_del_other (kl_ne hk), gother key hk]; exact h.has key
   ·by_cases hk : key = a.key
    ·subst hk
     rw [gsame] at e; cases e
    ·rw [gother key hk] at e
     obtain ⟨h1, h2⟩ := h.at_ key v r e
     exact ⟨h1, fun z => by rw [atKey_del_other (kl_ne hk)]; exact h2 z⟩
  ·have hc : (actC b.f1 a (getE b.f2 a.key) (idR b)).1 = [⟨0, a.data, false, a.q⟩] := by
    unfold actC at q3 ⊢
    rw [if_neg k2, if_neg (by omega)] at q3 ⊢
    obtain ⟨_, _, _, _, _, _, p1, _⟩ := putV_ok q3
    rw [p1, if_neg (by rw [h.st]; decide), hd0]
   rw [if_neg k2]
   rw [hc] at hl gsame hf2
   refine ⟨hx, h.st, hlast, h.tidy.put (by exact trivial) _, ?_, fun key => ?_, fun key v r e => ?_⟩
   ·rw [size_put h.tidy, h.has, h.size, hf2, hl]
    simp only [List.length_singleton, Nat.one_ne_zero, if_false]
    by_cases hz : (getE b.f2 a.key).length = 0
    ·rw [if_pos hz] at hlen
     rw [decide_eq_true hz]
     simp only [Bool.not_true, Bool.false_eq_true, if_false]
     omega
    ·rw [if_neg hz] at hlen
     rw [decide_eq_false hz]
     simp only [Bool.not_false, if_true]
     omega
   ·by_cases hk : key = a.key
    ·subst hk
     rw [has_put_same h.tidy.isMap (by exact trivial), gsame]; rfl
    ·rw [has_put_other (kl_ne hk), gother key hk]; exact h.has key
   ·by_cases hk : key = a.key
    ·subst hk
     rw [gsame] at e
     injection e with e1 e2
     subst e1
     exact ⟨rfl, fun z => by rw [atKey_put_same h.tidy.isMap (by exact trivial)]⟩
    ·rw [gother key hk] at e
     obtain ⟨h1, h2⟩ := h.at_ key v r e
     exact ⟨h1, fun z => by rw [atKey_put_other (kl_ne hk)]; exact h2 z⟩
 ·obtain ⟨n1, n2⟩ := do4_no k0 (by omega) he
  unfold offD
  rw [if_neg he, n1]
  exact ⟨n2, h.last, h⟩
end
section
open Go.WideMaps Go.Maps
def kA : Kd Act := Kd.iso (Kd.pair (Kd.int .u8) (Kd.pair Kd.string (Kd.pair Kd.string (Kd.pair (Kd.int .u64) (Kd.pair (Kd.int .i64) (Kd.pair (Kd.int .i64) (Kd.slice 43 k43))))))) (fun x : Act => (x.kd, x.key, x.data, x.id, x.n, x.q, x.ps))
theorem kA_open {w : World} {x : Act} {cs : List Value} (h : kA.K w x cs) : ∃ A6 c6, cs = [.int .u8 x.kd, .string x.key, .string x.data, .int .u64 x.id, .int .i64 x.n, .int .i64 x.q, .slice A6 x.ps.length c6] ∧ x.ps.length ≤ c6 ∧ k43.C w A6 x.ps.length x.ps := by
 obtain ⟨_, _, rfl, rfl, ⟨_, _, rfl, rfl, ⟨_, _, rfl, rfl, ⟨_, _, rfl, rfl, ⟨_, _, rfl, rfl, ⟨_, _, rfl, rfl, ⟨A6, c6, rfl, l6, g6⟩⟩⟩⟩⟩⟩⟩ := h
 exact ⟨A6, c6, rfl, l6, g6⟩
theorem kA_mk (w : World) (x : Act) {A6 : Option Addr} {c6 : Nat} (l6 : x.ps.length ≤ c6) (g6 : k43.C w A6 x.ps.length x.ps) : kA.K w x [.int .u8 x.kd, .string x.key, .string x.data, .int .u64 x.id, .int .i64 x.n, .int .i64 x.q, .slice A6 x.ps.length c6] := ⟨[.int .u8 x.kd], [.string x.key, .string x.data, .int .u64 x.id, .int .i64 x.n, .int .i64 x.q, .slice A6 x.ps.length c6], rfl, rfl, ⟨[.string x.key], [.string x.data, .int .u64 x.id, .int .i64 x.n, .int .i64 x.q, .slice A6 x.ps.length c6], rfl, rfl, ⟨[.string x.data], [.int .u64 x.id, .int .i64 x.n, .int .i64 x.q, .slice A6 x.ps.length c6], rfl, rfl, ⟨[.int .u64 x.id], [.int .i64 x.n, .int .i64 x.q, .slice A6 x.ps.length c6], rfl, rfl, ⟨[.int .i64 x.n], [.int .i64 x.q, .slice A6 x.ps.length c6], rfl, rfl, ⟨[.int .i64 x.q], [.slice A6 x.ps.length c6], rfl, rfl, ⟨A6, c6, rfl, l6, g6⟩⟩⟩⟩⟩⟩⟩
def zAct : Act := ⟨0, ⟨#[]⟩, ⟨#[]⟩, 0, 0, 0, []⟩
theorem atAct {w w1 : World} {A : Option Addr} {l : List Act} (hr : Kd.C kA w A l.length l) (hb : Below w.heap.size w w1) (k : Nat) (h : k < l.length) :
  ∃ ad A6 c6, A = some ad ∧ w1.cell? (ad.add (k * 7)) = some (.int .u8 l[k].kd) ∧ w1.cell? ⟨(ad.add (k * 7)).block, (ad.add (k * 7)).off + 1, none⟩ = some (.string l[k].key) ∧ w1.cell? ⟨(ad.add (k * 7)).block, (ad.add (k * 7)).off + 2, none⟩ = some (.string l[k].data) ∧ w1.cell? ⟨(ad.add (k * 7)).block, (ad.add (k * 7)).off + 3, none⟩ = some (.int .u64 l[k].id) ∧ w1.cell? ⟨(ad.add (k * 7)).block, (ad.add (k * 7)).off + 4, none⟩ = some (.int .i64 l[k].n) ∧ w1.cell? ⟨(ad.add (k * 7)).block, (ad.add (k * 7)).off + 5, none⟩ = some (.int .i64 l[k].q) ∧ w1.cell? ⟨(ad.add (k * 7)).block, (ad.add (k * 7)).off + 6, none⟩ = some (.slice A6 l[k].ps.length c6) ∧ l[k].ps.length ≤ c6 ∧ Kd.C k43 w1 A6 l[k].ps.length l[k].ps := by
 obtain ⟨ad, c, e, _, hK, hc0⟩ := Kd.C_get hr zAct (k : Int) (by omega) (by omega)
 rw [Int.toNat_natCast] at hc0
 have ez : l.getD ((k : Int).toNat) zAct = l[k] := by rw [Int.toNat_natCast]; simp [List.getD_eq_getElem?_getD, h]
 rw [ez] at hK
 have hc : ∀ j u, c[j]? = some u → w.cell? (ad.add (k * 7 + j)) = some u := hc0
 obtain ⟨A6, c6, rfl, l6, g6⟩ := kA_open hK
 exact ⟨ad, A6, c6, e, keepc hb (hc 0 _ rfl), keepc hb (by rw [← add_field _ _ 1 (by omega)]; exact hc 1 _ rfl), keepc hb (by rw [← add_field _ _ 2 (by omega)]; exact hc 2 _ rfl), keepc hb (by rw [← add_field _ _ 3 (by omega)]; exact hc 3 _ rfl), keepc hb (by rw [← add_field _ _ 4 (by omega)]; exact hc 4 _ rfl), keepc hb (by rw [← add_field _ _ 5 (by omega)]; exact hc 5 _ rfl), keepc hb (by rw [← add_field _ _ 6 (by omega)]; exact hc 6 _ rfl), l6, Kd.C_below g6 hb⟩
end
section
open Go.WideMaps Go.Maps
def wfu (n : Int) : Prop := 0 ≤ n ∧ n ≤ 18446744073709551615
def wfi (n : Int) : Prop := -9223372036854775808 ≤ n ∧ n ≤ 9223372036854775807
theorem wfu_of {n : Int} (h : (Lit.int .u64 n).wf = true) : wfu n := by
 have h2 : (decide ((IntKind.u64).min ≤ n) && decide (n ≤ (IntKind.u64).max)) = true := h
 rw [Bool.and_eq_true, decide_eq_true_eq, decide_eq_true_eq, show (IntKind.u64).min = 0 from rfl, show (IntKind.u64).max = 18446744073709551615 from rfl] at h2
 exact h2
theorem wfi_of {n : Int} (h : (Lit.int .i64 n).wf = true) : wfi n := by
 have h2 : (decide ((IntKind.i64).min ≤ n) && decide (n ≤ (IntKind.i64).max)) = true := h
 rw [Bool.and_eq_true, decide_eq_true_eq, decide_eq_true_eq, show (IntKind.i64).min = -9223372036854775808 from rfl, show (IntKind.i64).max = 9223372036854775807 from rfl] at h2
 exact h2
def wf8 (n : Int) : Prop := 0 ≤ n ∧ n ≤ 255
theorem wf8_of {n : Int} (h : (Lit.int .u8 n).wf = true) : wf8 n := by
 have h2 : (decide ((IntKind.u8).min ≤ n) && decide (n ≤ (IntKind.u8).max)) = true := h
 rw [Bool.and_eq_true, decide_eq_true_eq, decide_eq_true_eq, show (IntKind.u8).min = 0 from rfl, show (IntKind.u8).max = 255 from rfl] at h2
 exact h2
def wf32 (n : Int) : Prop := 0 ≤ n ∧ n ≤ 4294967295
theorem wf32_of {n : Int} (h : (Lit.int .u32 n).wf = true) : wf32 n := by
 have h2 : (decide ((IntKind.u32).min ≤ n) && decide (n ≤ (IntKind.u32).max)) = true := h
 rw [Bool.and_eq_true, decide_eq_true_eq, decide_eq_true_eq, show (IntKind.u32).min = 0 from rfl, show (IntKind.u32).max = 4294967295 from rfl] at h2
 exact h2
theorem tstruct2 {H : Type} {enc : TypeId × Value → H} {P : Program} {w : World} {base : Nat} {spare : Nat → Bool} {held : Bool} {t : TypeId} {f0 f1 : Field} {fuel : Nat} {cs : List Value} {x : DataW H × List MemPlace} (ht : P.underlying t = some (.struct #[f0, f1])) (h : DataW.trod enc P w base spare held fuel t cs = some x) :
  ∃ y0 y1 n, cs.length = P.cellsOf t ∧ DataW.trod enc P w base spare held n f0.type ((cs.drop f0.offset).take (P.cellsOf f0.type)) = some y0 ∧ DataW.trod enc P w base spare held n f1.type ((cs.drop f1.offset).take (P.cellsOf f1.type)) = some y1 := by
 obtain ⟨xs, n, _, _, hl, hlen, hf⟩ := DataW.trod_struct ht h
 match xs, hlen with
 | [y0, y1], _ => exact ⟨y0, y1, n, hl, hf 0 f0 rfl, hf 1 f1 rfl⟩
def OpensQ {α : Type} (P : Program) (d : Kd α) (t : TypeId) (Q : α → Prop) : Prop :=
 ∀ (H : Type) (enc : TypeId × Value → H) (W : World) (n : Nat) (cs : List Value) (x : DataW H × List MemPlace), DataW.trod enc P W 0 (fun _ => true) true n t cs = some x → ∃ y : α, d.K W y cs ∧ Q y
theorem opensQ_C {α : Type} {P : Program} {d : Kd α} {t e : TypeId} (ht : P.underlying t = some (.slice e)) (hs : P.cellsOf e = d.sz) {Q : α → Prop} (he : OpensQ P d e Q) (z : α) (H : Type) (enc : TypeId × Value → H) (W : World) (n : Nat) (cs : List Value) (x : DataW H × List MemPlace)
  (h : DataW.trod enc P W 0 (fun _ => true) true n t cs = some x) : ∃ (l : List α) (A : Option Addr) (c : Nat), cs = [.slice A l.length c] ∧ l.length ≤ c ∧ d.C W A l.length l ∧ ∀ x ∈ l, Q x := by
 rcases DataW.trod_slice ht h with ⟨rfl, _⟩ | ⟨a, len, cap, elems, rest, m, _, rfl, _, _, hl, hm, hlen, hel, _, _⟩
 ·exact ⟨[], none, 0, rfl, Nat.le_refl _, ⟨rfl, by simp, fun h0 => by simp at h0⟩, fun x hx => by cases hx⟩
 have each : ∀ i : Nat, ∃ p : α, i < len → Q p ∧ ∃ c : List Value, c.length = d.sz ∧ d.K W p c ∧ ∀ j u, c[j]? = some u → W.cell? (a.add (i * d.sz + j)) = some u := by
  intro i
  by_cases hi : i < len
  ·have h1 := hel i hi
   rw [List.getElem?_eq_getElem (by omega), Option.bind_eq_some_iff] at h1
   obtain ⟨c, hc, ht'⟩ := h1
   obtain ⟨y, hy, hq⟩ := he H enc W m c _ ht'
   refine ⟨y, fun _ => ⟨hq, c, d.K_len hy, hy, fun j u hu => ?_⟩⟩
   obtain ⟨_, hcl, hcell⟩ := World.cells?_some hc
   have := hcell j (by have := (List.getElem?_eq_some_iff.1 hu).1; omega)
   rw [hs, add_add] at this
   rw [this, hu]
  ·exact ⟨z, fun h => absurd h hi⟩
 obtain ⟨f, hf⟩ := Classical.skolem.1 each
 refine ⟨(List.range len).map f, some a, cap, by simp, by simpa using hl, ⟨by simp, by simp [maxLen] at hm ⊢; omega, fun _ => ⟨a, rfl, fun j p hj => ?_⟩⟩, fun x hx => by
  obtain ⟨j, hj, rfl⟩ := List.mem_map.1 hx
  exact (hf j (List.mem_range.1 hj)).1⟩
 rw [List.getElem?_map] at hj
 have hjl : j < len := by
  rcases Nat.lt_or_ge j len with h | h
  ·exact h
  ·rw [List.getElem?_eq_none (by simpa using h)] at hj; cases hj
 rw [List.getElem?_range hjl] at hj
 injection hj with hj
 subst hj
 exact (hf j hjl).2
theorem tstruct7 {H : Type} {enc : TypeId × Value → H} {P : Program} {w : World} {base : Nat} {spare : Nat → Bool} {held : Bool} {t : TypeId} {f0 f1 f2 f3 f4 f5 f6 : Field} {fuel : Nat} {cs : List Value} {x : DataW H × List MemPlace} (ht : P.underlying t = some (.struct #[f0, f1, f2, f3, f4, f5, f6])) (h : DataW.trod enc P w base spare held fuel t cs = some x) :
  ∃ y0 y1 y2 y3 y4 y5 y6 n, cs.length = P.cellsOf t ∧ DataW.trod enc P w base spare held n f0.type ((cs.drop f0.offset).take (P.cellsOf f0.type)) = some y0 ∧ DataW.trod enc P w base spare held n f1.type ((cs.drop f1.offset).take (P.cellsOf f1.type)) = some y1 ∧ DataW.trod enc P w base spare held n f2.type ((cs.drop f2.offset).take (P.cellsOf f2.type)) = some y2 ∧ DataW.trod enc P w base spare held n f3.type ((cs.drop f3.offset).take (P.cellsOf f3.type)) = some y3 ∧ DataW.trod enc P w base spare held n f4.type ((cs.drop f4.offset).take (P.cellsOf f4.type)) = some y4 ∧ DataW.trod enc P w base spare held n f5.type ((cs.drop f5.offset).take (P.cellsOf f5.type)) = some y5 ∧ DataW.trod enc P w base spare held n f6.type ((cs.drop f6.offset).take (P.cellsOf f6.type)) = some y6 := by
 obtain ⟨xs, n, _, _, hl, hlen, hf⟩ := DataW.trod_struct ht h
 match xs, hlen with
 | [y0, y1, y2, y3, y4, y5, y6], _ => exact ⟨y0, y1, y2, y3, y4, y5, y6, n, hl, hf 0 f0 rfl, hf 1 f1 rfl, hf 2 f2 rfl, hf 3 f3 rfl, hf 4 f4 rfl, hf 5 f5 rfl, hf 6 f6 rfl⟩
theorem cellsT_uint64 : Tryz.prog.cellsOf 24 = 1 := by kernel_rfl
theorem cellsT_uint32 : Tryz.prog.cellsOf 36 = 1 := by kernel_rfl
theorem cellsT_uint8 : Tryz.prog.cellsOf 5 = 1 := by kernel_rfl
theorem cellsT_3 : Tryz.prog.cellsOf 3 = 1 := by kernel_rfl
theorem cellsT_9 : Tryz.prog.cellsOf 9 = 1 := by kernel_rfl
theorem cellsT_Piece : Tryz.prog.cellsOf 35 = 1 := by kernel_rfl
theorem cellsS_Piece : Tryz.prog.cellsOf 43 = 2 := by kernel_rfl
def wfPiece (x : S43) : Prop := wfi x.f0 ∧ wf32 x.f1
theorem opensQPiece : OpensQ Tryz.prog k43 43 wfPiece := by
 intro H enc W n cs x h
 obtain ⟨y0, y1, m, hl, t0, t1⟩ := tstruct2 Tryz.underlying43 h
 rw [cellsS_Piece] at hl
 match cs, hl with
 | [a, b], _ =>
  simp only [cellsT_3, cellsT_uint32, List.drop, List.take] at t0 t1
  obtain ⟨s0, e0, _, w0⟩ := DataW.trod_int Tryz.underlying3 t0
  obtain ⟨s1, e1, _, w1⟩ := DataW.trod_int Tryz.underlying36 t1
  injection e0 with e0; injection e1 with e1
  subst e0 e1
  exact ⟨⟨s0, s1⟩, k43_mk W ⟨s0, s1⟩ , wfi_of w0, wf32_of w1⟩
theorem cellsS_Act : Tryz.prog.cellsOf 59 = 7 := by kernel_rfl
def wfAct (x : Act) : Prop := wf8 x.kd ∧ wfu x.id ∧ wfi x.n ∧ wfi x.q ∧ (∀ y ∈ x.ps, wfPiece y)
theorem opensQAct : OpensQ Tryz.prog kA 59 wfAct := by
 intro H enc W n cs x h
 obtain ⟨y0, y1, y2, y3, y4, y5, y6, m, hl, t0, t1, t2, t3, t4, t5, t6⟩ := tstruct7 Tryz.underlying59 h
 rw [cellsS_Act] at hl
 match cs, hl with
 | [a, b, c, d, e, f, g], _ =>
  simp only [cellsT_3, cellsT_9, cellsT_Piece, cellsT_uint64, cellsT_uint8, List.drop, List.take] at t0 t1 t2 t3 t4 t5 t6
  obtain ⟨s0, e0, _, w0⟩ := DataW.trod_int Tryz.underlying5 t0
  obtain ⟨s1, e1, _, _⟩ := DataW.trod_string Tryz.underlying9 t1
  obtain ⟨s2, e2, _, _⟩ := DataW.trod_string Tryz.underlying9 t2
  obtain ⟨s3, e3, _, w3⟩ := DataW.trod_int Tryz.underlying24 t3
  obtain ⟨s4, e4, _, w4⟩ := DataW.trod_int Tryz.underlying3 t4
  obtain ⟨s5, e5, _, w5⟩ := DataW.trod_int Tryz.underlying3 t5
  obtain ⟨s6, A6, c6, e6, hle6, hC6, w6⟩ := opensQ_C Tryz.underlying35 cellsS_Piece opensQPiece z43 _ _ _ _ _ _ t6
  injection e0 with e0; injection e1 with e1; injection e2 with e2; injection e3 with e3; injection e4 with e4; injection e5 with e5; injection e6 with e6
  subst e0 e1 e2 e3 e4 e5 e6
  exact ⟨⟨s0, s1, s2, s3, s4, s5, s6⟩, kA_mk W ⟨s0, s1, s2, s3, s4, s5, s6⟩ hle6 hC6, wf8_of w0, wfu_of w3, wfi_of w4, wfi_of w5, w6⟩
theorem open_acts {H : Type} {enc : TypeId × Value → H} {W : World} {base : Nat} {v : Value} {d : DataW H} {p : List MemPlace} (hv : Value.okWide Tryz.prog W .any base 66 v) (h : DataW.Trod enc Tryz.prog W 0 (fun _ => true) true 66 v d p) :
  ∃ (l : List Act) (A : Option Addr) (c : Nat), v = .slice A l.length c ∧ l.length ≤ c ∧ Kd.C kA W A l.length l ∧ ∀ x ∈ l, wfAct x := by
 obtain ⟨a, n, c, rfl⟩ := Go.WideShapes.okWide_slice Tryz.underlying66 hv
 obtain ⟨m, hm⟩ := h
 obtain ⟨l, A, c', e, hle, hC, hq⟩ := opensQ_C Tryz.underlying66 cellsS_Act opensQAct zAct _ _ _ _ _ _ hm
 refine ⟨l, A, c', ?_, hle, hC, hq⟩
 simpa [Value.cells] using e
end
section
open Go.WideMaps Go.Maps
theorem do3.walk (b : S26) (A2 A3 : Option Addr) (c2 c3 : Nat) (a : Act) (A : Option Addr) (c : Nat) (w : World) (h2 : Kd.C k56 w A2 b.f2.length b.f2) (g2 : b.f2.length ≤ c2) (h3 : Kd.C k101 w A3 b.f3.length b.f3) (g3 : b.f3.length ≤ c3) (k0 : 0 ≤ Int.tmod a.kd 9) (k3 : Int.tmod a.kd 9 < 3) :
  Calls Tryz.prog 23 #[.agg #[.string b.f0, .int .i64 b.f1, .slice A2 b.f2.length c2, .slice A3 b.f3.length c3, .int .u64 b.f4], .agg #[.int .u8 a.kd, .string a.key, .string a.data, .int .u64 a.id, .int .i64 a.n, .int .i64 a.q, .slice A a.ps.length c]] w (DoPost (doR b a).b (doR b a).id (doR b a).tg (doR b a).er w) := by
 obtain ⟨kd, key, data, id, n, q, ps⟩ := a
 simp only at k0 k3
 unfold doR
 by_cases k0 : Int.tmod kd 9 = 0
 ·rw [if_pos k0]; exact do_put0 b A2 A3 c2 c3 kd id n q key data A ps c w h2 g2 h3 g3 k0
 rw [if_neg k0]
 by_cases k1 : Int.tmod kd 9 = 1
 ·rw [if_pos k1]; exact do_put1 b A2 A3 c2 c3 kd id n q key data A ps c w h2 g2 h3 g3 k1
 have k2 : Int.tmod kd 9 = 2 := by omega
 rw [if_neg k1, if_pos k2]; exact do_del b A2 A3 c2 c3 kd id n q key data A ps c w h2 g2 h3 g3 k2
end
section
open Go.WideMaps Go.Maps
attribute [local go_sem] Oper.semAt_some
theorem cut_le (n : Nat) (s : ByteArray) : (cutS n s).size ≤ n := by
 unfold cutS
 by_cases h : n < s.size
 ·rw [if_pos h]; simp [ByteArray.size_extract]; omega
 ·rw [if_neg h]; omega
theorem off.walk (A : Option Addr) (c : Nat) (l : List Act) (w : World) (hr : Kd.C kA w A l.length l) (hc : l.length ≤ c) (hw : ∀ x ∈ l, wfAct x) :
  Calls Tryz.prog 7 #[.slice A l.length c] w fun e w' => e = .returned (.bool true) ∧ Below w.heap.size w w' := by
 have HR := zh hr
 have HW := zh hw
 have hlen : (l.length : Int) ≤ 9223372036854775807 := by have := hr.2.1; omega
 have HN := zh (fun (W : World) => newB_ok ⟨#[98,111,120]⟩ W (by kernel_rfl))
 have HZ := zh (fun (W : World) => awake.walk W)
 have HG := zh (Below.refl w.heap.size w)
 have hmm := @run_makeMap Tryz.prog
 clear hr hw
 go_enter Tryz.func7, Tryz.ntmps7
 go_wp2_with (first
  | (go_at_call 26; go_must (refine (HN.out _).mono ?_; rintro e w1 ⟨rfl, hb⟩; have HG := keepB HG hb; clear hb))
  | ((with_reducible refine gate_dst (N := 3) rfl ?_); go_must (refine box_event ?hg (N := 3) ?hd (cs := #[.string ⟨#[]⟩, .int .i64 0, .slice none 0 0, .slice none 0 0, .int .u64 0]) (t := 26) ?hr ?_; (case hd => rfl); (case hg => rfl); (case hr => first | (go_simp; done) | (go_simp; rfl)); intro gB hqgB w2 hbgB hbelgB; have KgB := zh hbgB; have LgB := zh (show w.heap.size ≤ gB by rw [hqgB]; exact HG.out.size); have HG := keepB HG hbelgB; clear hbgB hbelgB hqgB))
  | ((with_reducible refine gate_store (t := 26) (p := 3) (v := .tmp 16) rfl ?_); go_must (refine wpList_store_row rfl rfl 26 (.tmp 3) (.tmp 16) rfl gB 0 _ 26 (.agg #[.string ⟨#[98,111,120]⟩, .int .i64 0, .slice none 0 0, .slice none 0 0, .int .u64 0]) [.string ⟨#[98,111,120]⟩, .int .i64 0, .slice none 0 0, .slice none 0 0, .int .u64 0] rfl rfl KgB.out rfl isz_bucket (by show 0 + 5 ≤ 5; decide) (by simp [Value.oneCell']) ?_; intro w3 hk ho; have KgB : Hid (w3.heap[gB]? = some (.cells #[.string ⟨#[98,111,120]⟩, .int .i64 0, .slice none 0 0, .slice none 0 0, .int .u64 0] 26 (0, 0))) := hk; have HG := zo ho HG LgB; clear hk ho)))
 have HM0 : Hid ((w3.alloc (.map #[] 0)).ownsMap Tryz.prog 9 strR w3.heap.size 0 (.map [])) := World.ownsMap_made w3 _ _ _
 have LM := zh HG.out.size
 have hal := (Below.refl w3.heap.size w3).alloc (Nat.le_refl _) (.map #[] 0)
 have HG := keepB HG hal
 have KgB := zk KgB hal
 have LgM : Hid (w.heap.size ≤ w3.heap.size) := LM.out
 clear hal hmm LM
 generalize (w3.alloc (.map #[] 0)) = w4 at *
 generalize w3.heap.size = gM at *
 go_loopw [6] (fun i wr => ∃ (k : Nat) (D : DataW Unit) (b : S26) (AB DB : Option Addr) (cB dB : Nat), i = .int .i64 k ∧ k ≤ l.length ∧ k ≤ 30 ∧ Hid (OffI b D) ∧ Hid (wr.heap[gB]? = some (.cells #[.string b.f0, .int .i64 b.f1, .slice AB b.f2.length cB, .slice DB b.f3.length dB, .int .u64 b.f4] 26 (0, 0))) ∧ Hid (wr.ownsMap Tryz.prog 9 strR gM k D) ∧ b.f2.length ≤ cB ∧ b.f3.length ≤ dB ∧ Hid (Kd.C k56 wr AB b.f2.length b.f2) ∧ Hid (Kd.C k101 wr DB b.f3.length b.f3) ∧ Hid (Below w.heap.size w wr)) (fun i _ => l.length - (intOf i).toNat)
 case atStart => exact ⟨0, .map [], ⟨⟨#[98,111,120]⟩, 0, [], [], 0⟩, none, none, 0, 0, rfl, Nat.zero_le _, by decide, off_new (by kernel_rfl), KgB, HM0, Nat.le_refl _, Nat.le_refl _, C_mt _ _ _, C_mt _ _ _, HG⟩
 case round =>
  obtain ⟨k, D, b, AB, DB, cB, dB, rfl, hk, hk30, HO, KgB, HM, XB, YB, EB, UB, HG⟩ := hrel
  by_cases hlt : k < l.length
  ·by_cases h30 : k < 30
   ·obtain ⟨ad, A6, c6, e', d0, d1, d2, d3, d4, d5_, d6, hle6, hC6⟩ := atAct HR.out HG.out k hlt
    subst e'
    have p0 : (0 : Int) ≤ (k : Int) := by omega
    have p1 : (k : Int) < (l.length : Int) := by omega
    have p2 : (k : Int) < 30 := by omega
    have hwx := HW.out l[k] (List.getElem_mem hlt)
    generalize l[k] = x at *
    have HCT := zh (fun (W : World) => cut.walk x.kd x.id x.n x.q x.key x.data A6 x.ps c6 W hle6)
    have HKY : Hid ((cutS 80 x.key).size ≤ 80) := cut_le 80 x.key
    have HP := zh (C_cut hC6 40)
    have hpz : (x.ps.take 40).length < 100 := by rw [List.length_take]; omega
    generalize cutS 80 x.key = ky at *
    generalize cutS 2001 x.data = dt at *
    generalize x.ps.take 40 = pz at *
    have t0_ : 0 ≤ Int.tmod x.kd 9 := Int.tmod_nonneg _ hwx.1.1
    have HB := zh (Below.refl wr.heap.size wr)
    have NaB := zh (blk_lt KgB.out)
    clear hC6 hle6 hwx
    by_cases k3 : Int.tmod x.kd 9 < 3
    ·have y0 : decide ((2 : Int) < Int.tmod x.kd 9) = false := decide_eq_false (by omega)
     have y1 : decide (Int.tmod x.kd 9 > 2) = false := decide_eq_false (by omega)
     have y2 : ¬ (2 : Int) < Int.tmod x.kd 9 := by omega
     have HDO0 := zh (fun (W : World) (h : Below wr.heap.size wr W) => do3.walk b AB DB cB dB (⟨x.kd, ky, dt, x.id, x.n, (k : Int), pz⟩ : Act) A6 c6 W (Kd.C_below EB.out h) XB (Kd.C_below UB.out h) YB t0_ k3)
     obtain ⟨s1, s2, s3⟩ := off_step HO.out (a := (⟨x.kd, ky, dt, x.id, x.n, (k : Int), pz⟩ : Act)) t0_ k3
     change OffI _ (if (doR b (⟨x.kd, ky, dt, x.id, x.n, (k : Int), pz⟩ : Act)).er = 0 then (if Int.tmod x.kd 9 = 2 then D.del (kl ky) else D.put (kl ky) (.lit (.string dt.data.toList))) else D) at s3
     generalize doR b (⟨x.kd, ky, dt, x.id, x.n, (k : Int), pz⟩ : Act) = r at *
     obtain ⟨⟨n0, t0, L0, U0, f4⟩, rid, tg, er⟩ := r
     change rid = 0 at s1
     change f4 = 0 at s2
     subst s1 s2
     change OffI (⟨n0, t0, L0, U0, 0⟩ : S26) (if er = 0 then (if Int.tmod x.kd 9 = 2 then D.del (kl ky) else D.put (kl ky) (.lit (.string dt.data.toList))) else D) at s3
     have HDO : Hid (∀ (W : World), Below wr.heap.size wr W → Calls Tryz.prog 23 #[.agg #[.string b.f0, .int .i64 b.f1, .slice AB b.f2.length cB, .slice DB b.f3.length dB, .int .u64 b.f4], .agg #[.int .u8 x.kd, .string ky, .string dt, .int .u64 x.id, .int .i64 x.n, .int .i64 (k : Int), .slice A6 pz.length c6]] W (fun e w' => ∃ A5 c5 D5 d5, e = .returned (.agg #[.string n0, .int .i64 t0, .slice A5 L0.length c5, .slice D5 U0.length d5, .int .u64 0, .int .u64 0, .string tg, .int .i64 er]) ∧ L0.length ≤ c5 ∧ U0.length ≤ d5 ∧ Kd.C k56 w' A5 L0.length L0 ∧ Kd.C k101 w' D5 U0.length U0 ∧ Below W.heap.size W w')) := HDO0
     have HGT0 := zh (fun (A5 D5 : Option Addr) (c5 d5 : Nat) (W : World) (h2 : Kd.C k56 W A5 L0.length L0) (g2 : L0.length ≤ c5) (h3 : Kd.C k101 W D5 U0.length U0) (g3 : U0.length ≤ d5) => getB.walk (⟨n0, t0, L0, U0, 0⟩ : S26) A5 D5 c5 d5 ky W h2 g2 h3 g3)
     have hgt := fun (D1 : DataW Unit) (h : OffI (⟨n0, t0, L0, U0, 0⟩ : S26) D1) => off_get h ky
     have hsz := fun (D1 : DataW Unit) (h : OffI (⟨n0, t0, L0, U0, 0⟩ : S26) D1) => (h.size : Maps.size D1 = L0.length)
     generalize getB (⟨n0, t0, L0, U0, 0⟩ : S26) ky = gr at *
     obtain ⟨v, f⟩ := gr
     have HGT : Hid (∀ (A5 D5 : Option Addr) (c5 d5 : Nat) (W : World), Kd.C k56 W A5 L0.length L0 → L0.length ≤ c5 → Kd.C k101 W D5 U0.length U0 → U0.length ≤ d5 → Calls Tryz.prog 18 #[.agg #[.string n0, .int .i64 t0, .slice A5 L0.length c5, .slice D5 U0.length d5, .int .u64 0], .string ky] W (fun e w' => e = .returned (.tuple #[.agg #[.int .u64 v.f0, .string v.f1, .bool v.f2, .int .i64 v.f3], .int .i64 f]) ∧ Below W.heap.size W w')) := HGT0
     change ∀ (D1 : DataW Unit) (h : OffI (⟨n0, t0, L0, U0, 0⟩ : S26) D1), decide (f = 0) = Maps.has D1 (kl ky) ∧ (Maps.has D1 (kl ky) = true → ∀ z, D1.atKey (kl ky) z = .lit (.string v.f1.data.toList)) at hgt
     clear HDO0 HGT0 hpz HP
     by_cases he : er = 0
     ·subst he
      rw [if_pos rfl] at s3
      by_cases k2 : Int.tmod x.kd 9 = 2
      ·rw [if_pos k2] at s3
       obtain ⟨g1, g2⟩ := hgt (D.del (kl ky)) s3
       have HSZ := zh (hsz (D.del (kl ky)) s3)
       have HOI := zh s3
       rw [has_del_same] at g1 g2
       have HHS : Hid (Maps.has (D.del (kl ky)) (kl ky) = false) := has_del_same
       have hf : f ≠ 0 := of_decide_eq_false g1
       have hf0 : (f == 0) = false := beq_eq_false_iff_ne.2 hf
       have hll : ((L0.length : Int) != (L0.length : Int)) = false := by simp
       have u0 : decide (Int.tmod x.kd 9 < 2) = false := decide_eq_false (by omega)
       have u1 : ¬ Int.tmod x.kd 9 < 2 := by omega
       have u2 : (Int.tmod x.kd 9 == 2) = true := beq_iff_eq.2 k2
       have HKM : Hid (k < maxLen) := by unfold Hid maxLen; omega
       clear g1 g2 hgt hsz s3 k3 t0_ k2
       go_wp2_with (first
           | (go_at_call 22; go_must (refine (HCT.out _).mono ?_; rintro e w1 ⟨rfl, hb⟩; have HB := keepB HB hb; clear hb))
           | ((with_reducible refine gate_dst (N := 7) rfl ?_); go_must (refine box_event ?hg (N := 7) ?hd (cs := #[.int .u8 0, .string ⟨#[]⟩, .string ⟨#[]⟩, .int .u64 0, .int .i64 0, .int .i64 0, .slice none 0 0]) (t := 59) ?hr ?_; (case hd => rfl); (case hg => rfl); (case hr => first | (go_simp; done) | (go_simp; rfl)); intro ga hqga w2 hbga hbelga; have Kga := zh hbga; have Lga := zh (show wr.heap.size ≤ ga by rw [hqga]; exact HB.out.size); have HB := keepB HB hbelga; clear hbga hbelga hqga))
           | ((with_reducible refine gate_store (t := 59) (p := 7) (v := .tmp 35) rfl ?_); go_must (refine wpList_store_row rfl rfl 59 (.tmp 7) (.tmp 35) rfl ga 0 _ 59 (.agg #[.int .u8 x.kd, .string ky, .string dt, .int .u64 x.id, .int .i64 x.n, .int .i64 x.q, .slice A6 pz.length c6]) [.int .u8 x.kd, .string ky, .string dt, .int .u64 x.id, .int .i64 x.n, .int .i64 x.q, .slice A6 pz.length c6] rfl rfl Kga.out rfl (by kernel_rfl) (by show 0 + 7 ≤ 7; decide) (by simp [Value.oneCell']) ?_; intro w3 hk ho; have Kga : Hid (w3.heap[ga]? = some (.cells #[.int .u8 x.kd, .string ky, .string dt, .int .u64 x.id, .int .i64 x.n, .int .i64 x.q, .slice A6 pz.length c6] 59 (0, 0))) := hk; have HB := zo ho HB Lga; have b0 := zb Kga.out 0 (.int .u8 x.kd); clear hk ho))
           | ((with_reducible refine gate_store (t := 3) (p := 42) (v := .tmp 41) rfl ?_); go_must (refine wpList_store_row rfl rfl 3 (.tmp 42) (.tmp 41) rfl ga 5 _ 59 (.int .i64 (k : Int)) [.int .i64 (k : Int)] rfl rfl Kga.out rfl (by kernel_rfl) (by show 5 + 1 ≤ 7; decide) (by simp [Value.oneCell']) ?_; intro w4 hk ho; clear b0; have Kga : Hid (w4.heap[ga]? = some (.cells #[.int .u8 x.kd, .string ky, .string dt, .int .u64 x.id, .int .i64 x.n, .int .i64 (k : Int), .slice A6 pz.length c6] 59 (0, 0))) := hk; have HB := zo ho HB Lga; have KgB := zk KgB HB.out; have a0 := zb KgB.out 0 (.string b.f0); have a1 := zb KgB.out 1 (.int .i64 b.f1); have a2 := zb KgB.out 2 (.slice AB b.f2.length cB); have a3 := zb KgB.out 3 (.slice DB b.f3.length dB); have a4 := zb KgB.out 4 (.int .u64 b.f4); have b0 := zb Kga.out 0 (.int .u8 x.kd); have b1 := zb Kga.out 1 (.string ky); have b2 := zb Kga.out 2 (.string dt); have b3 := zb Kga.out 3 (.int .u64 x.id); have b4 := zb Kga.out 4 (.int .i64 x.n); have b5 := zb Kga.out 5 (.int .i64 (k : Int)); have b6 := zb Kga.out 6 (.slice A6 pz.length c6); clear hk ho))
           | (go_at_call 23; go_must (refine (HDO.out _ HB.out).mono ?_; rintro e w5 ⟨A5, c5, D5, d5, rfl, y1_, y2_, y3, y4, hb⟩; have Y3 := zh y3; have Y4 := zh y4; have HB := keepB HB hb; have Kga := zk Kga hb; have KgB := zk KgB hb; clear hb y3 y4 a0 a1 a2 a3 a4 b0 b1 b2 b3 b4 b5 b6))
           | ((with_reducible refine gate_dst (N := 9) rfl ?_); go_must (refine box_event ?hg (N := 9) ?hd (cs := #[.string ⟨#[]⟩, .int .i64 0, .slice none 0 0, .slice none 0 0, .int .u64 0, .int .u64 0, .string ⟨#[]⟩, .int .i64 0]) (t := 62) ?hr ?_; (case hd => rfl); (case hg => rfl); (case hr => first | (go_simp; done) | (go_simp; rfl)); intro go hqgo w6 hbgo hbelgo; have Kgo := zh hbgo; have Lgo := zh (show wr.heap.size ≤ go by rw [hqgo]; exact HB.out.size); have HB := keepB HB hbelgo; have M1 := zh (show ga < go by rw [hqgo]; exact blk_lt Kga.out); have M2 := zh (show gB < go by rw [hqgo]; exact blk_lt KgB.out); have HD := zh hbelgo; have WD := zh (show _ ≤ go by rw [hqgo]; exact Nat.le_refl _); have Kga := zk Kga hbelgo; have KgB := zk KgB hbelgo; clear hbgo hbelgo hqgo))
           | ((with_reducible refine gate_store (t := 62) (p := 9) (v := .tmp 45) rfl ?_); go_must (refine wpList_store_row rfl rfl 62 (.tmp 9) (.tmp 45) rfl go 0 _ 62 (.agg #[.string n0, .int .i64 t0, .slice A5 L0.length c5, .slice D5 U0.length d5, .int .u64 0, .int .u64 0, .string tg, .int .i64 0]) [.string n0, .int .i64 t0, .slice A5 L0.length c5, .slice D5 U0.length d5, .int .u64 0, .int .u64 0, .string tg, .int .i64 0] rfl rfl Kgo.out rfl (by kernel_rfl) (by show 0 + 8 ≤ 8; decide) (by simp [Value.oneCell']) ?_; intro w7 hk ho; have Y3 := zc Y3 (ho.out.below HD.out HD.out.size WD.out); have Y4 := zc Y4 (ho.out.below HD.out HD.out.size WD.out); clear HD WD; have HB := zo ho HB Lgo; have Kga := zl ho Kga (by have := M1.out; omega); have KgB := zl ho KgB (by have := M2.out; omega); have Kgo : Hid (w7.heap[go]? = some (.cells #[.string n0, .int .i64 t0, .slice A5 L0.length c5, .slice D5 U0.length d5, .int .u64 0, .int .u64 0, .string tg, .int .i64 0] 62 (0, 0))) := hk; have HG := keepB HG HB.out; have HM := zh (owns_below HM.out HB.out); have f0 := zb Kgo.out 0 (.string n0); have f1 := zb Kgo.out 1 (.int .i64 t0); have f2 := zb Kgo.out 2 (.slice A5 L0.length c5); have f3 := zb Kgo.out 3 (.slice D5 U0.length d5); have f4 := zb Kgo.out 4 (.int .u64 0); have f5 := zb Kgo.out 5 (.int .u64 0); have f6 := zb Kgo.out 6 (.string tg); have f7 := zb Kgo.out 7 (.int .i64 0); have b0 := zb Kga.out 0 (.int .u8 x.kd); have b1 := zb Kga.out 1 (.string ky); have b2 := zb Kga.out 2 (.string dt); clear hk ho))
           | (at_delete; go_must (refine wpList_delete_own _ rfl (.tmp 74) (.tmp 76) 71 9 rfl 9 slaw Tryz.underlying71 strR gM k D rfl HM.out (.string ky) (kl ky) rfl (skey HKY.out) ?_; intro w8 hown htn; have ho := turned_only htn; obtain ⟨es0, ck0, hes⟩ := owns_at HM.out; have Y3 := zh (mapE Y3.out hes ho); have Y4 := zh (mapU Y4.out hes ho); have Kga := zh (ho.blk Kga.out (Ne.symm (owns_ne HM.out Kga.out))); have Kgo := zh (ho.blk Kgo.out (Ne.symm (owns_ne HM.out Kgo.out))); have KgB := zh (ho.blk KgB.out (Ne.symm (owns_ne HM.out KgB.out))); have HG := zh (ho.below HG.out HG.out.size LgM.out); have HM := zh hown; clear hes htn ho hown f0 f1 f2 f3 f4 f5 f6 f7 b0 b1 b2; have f0 := zb Kgo.out 0 (.string n0); have f1 := zb Kgo.out 1 (.int .i64 t0); have f2 := zb Kgo.out 2 (.slice A5 L0.length c5); have f3 := zb Kgo.out 3 (.slice D5 U0.length d5); have f4 := zb Kgo.out 4 (.int .u64 0); have f5 := zb Kgo.out 5 (.int .u64 0); have f6 := zb Kgo.out 6 (.string tg); have f7 := zb Kgo.out 7 (.int .i64 0); ))
           | ((with_reducible refine gate_store (t := 26) (p := 3) (v := .tmp 78) rfl ?_); go_must (refine wpList_store_row rfl rfl 26 (.tmp 3) (.tmp 78) rfl gB 0 _ 26 (.agg #[.string n0, .int .i64 t0, .slice A5 L0.length c5, .slice D5 U0.length d5, .int .u64 0]) [.string n0, .int .i64 t0, .slice A5 L0.length c5, .slice D5 U0.length d5, .int .u64 0] rfl rfl KgB.out rfl isz_bucket (by show 0 + 5 ≤ 5; decide) (by simp [Value.oneCell']) ?_; intro w9 hk ho; have Y3 := zh (keepE Y3.out KgB.out (bk_like _ _ _ _ _ _ _ _ _) ho.out); have Y4 := zh (keepU Y4.out KgB.out (bk_like _ _ _ _ _ _ _ _ _) ho.out); have Kga := zl ho Kga (by have := NaB.out; have := Lga.out; omega); have HM := zh (owns_only HM.out ho.out (owns_ne HM.out KgB.out)); have KgB : Hid (w9.heap[gB]? = some (.cells #[.string n0, .int .i64 t0, .slice A5 L0.length c5, .slice D5 U0.length d5, .int .u64 0] 26 (0, 0))) := hk; have HG := zo ho HG LgB; clear f0 f1 f2 f3 f4 f5 f6 f7 Kgo; have a0 := zb KgB.out 0 (.string n0); have a1 := zb KgB.out 1 (.int .i64 t0); have a2 := zb KgB.out 2 (.slice A5 L0.length c5); have a3 := zb KgB.out 3 (.slice D5 U0.length d5); have a4 := zb KgB.out 4 (.int .u64 0); have b0 := zb Kga.out 0 (.int .u8 x.kd); have b1 := zb Kga.out 1 (.string ky); have b2 := zb Kga.out 2 (.string dt); clear hk ho))
           | (go_at_call 18; go_must (refine (HGT.out A5 D5 c5 d5 _ Y3.out y1_ Y4.out y2_).mono ?_; rintro e w10 ⟨rfl, hb⟩; have HG := keepB HG hb; have HM := zh (owns_below HM.out hb); have Y3 := zc Y3 hb; have Y4 := zc Y4 hb; have Kga := zk Kga hb; have KgB := zk KgB hb; clear hb a0 a1 a2 a3 a4 b0 b1 b2))
           | ((with_reducible refine gate_dst (N := 10) rfl ?_); go_must (refine box_event ?hg (N := 10) ?hd (cs := #[.int .u64 0, .string ⟨#[]⟩, .bool false, .int .i64 0]) (t := 47) ?hr ?_; (case hd => rfl); (case hg => rfl); (case hr => first | (go_simp; done) | (go_simp; rfl)); intro gv hqgv w11 hbgv hbelgv; have Kgv := zh hbgv; have Lgv := zh (show w.heap.size ≤ gv by rw [hqgv]; exact HG.out.size); have HG := keepB HG hbelgv; have M3 := zh (show ga < gv by rw [hqgv]; exact blk_lt Kga.out); have M4 := zh (show gB < gv by rw [hqgv]; exact blk_lt KgB.out); have HD := zh hbelgv; have WD := zh (show _ ≤ gv by rw [hqgv]; exact Nat.le_refl _); have HM := zh (owns_below HM.out hbelgv); have Kga := zk Kga hbelgv; have KgB := zk KgB hbelgv; clear hbgv hbelgv hqgv))
           | ((with_reducible refine gate_store (t := 47) (p := 10) (v := .tmp 84) rfl ?_); go_must (refine wpList_store_row rfl rfl 47 (.tmp 10) (.tmp 84) rfl gv 0 _ 47 (.agg #[.int .u64 v.f0, .string v.f1, .bool v.f2, .int .i64 v.f3]) [.int .u64 v.f0, .string v.f1, .bool v.f2, .int .i64 v.f3] rfl rfl Kgv.out rfl (by kernel_rfl) (by show 0 + 4 ≤ 4; decide) (by simp [Value.oneCell']) ?_; intro w12 hk ho; have Y3 := zc Y3 (ho.out.below HD.out HD.out.size WD.out); have Y4 := zc Y4 (ho.out.below HD.out HD.out.size WD.out); clear HD WD; have HM := zh (owns_only HM.out ho.out (owns_ne HM.out Kgv.out)); have HG := zo ho HG Lgv; have Kga := zl ho Kga (by have := M3.out; omega); have KgB := zl ho KgB (by have := M4.out; omega); have Kgv : Hid (w12.heap[gv]? = some (.cells #[.int .u64 v.f0, .string v.f1, .bool v.f2, .int .i64 v.f3] 47 (0, 0))) := hk; have g0 := zb Kgv.out 0 (.int .u64 v.f0); have g1 := zb Kgv.out 1 (.string v.f1); have g2 := zb Kgv.out 2 (.bool v.f2); have g3 := zb Kgv.out 3 (.int .i64 v.f3); have a0 := zb KgB.out 0 (.string n0); have a1 := zb KgB.out 1 (.int .i64 t0); have a2 := zb KgB.out 2 (.slice A5 L0.length c5); have a3 := zb KgB.out 3 (.slice D5 U0.length d5); have a4 := zb KgB.out 4 (.int .u64 0); have b0 := zb Kga.out 0 (.int .u8 x.kd); have b1 := zb Kga.out 1 (.string ky); have b2 := zb Kga.out 2 (.string dt); clear hk ho))
           | ((with_reducible refine gate_dst (N := 90) rfl ?_); go_must (refine wpList_lookS _ rfl (.tmp 87) (.tmp 89) 71 rfl Tryz.underlying71 gM k (D.del (kl ky)) rfl HM.out ky HKY.out rfl ⟨#[]⟩ false HHS.out (fun h => by cases h) (fun _ => rfl) ?_))
           | ((with_reducible refine gate_dst (N := 111) rfl ?_); go_must (refine gate_guard (by rfl) ?_; dsimp only; refine wpList_len_own _ rfl (.tmp 110) 71 rfl 9 9 Tryz.underlying71 strR gM k (D.del (kl ky)) rfl HM.out ?_; rw [HSZ.out])))
       go_roundw
       case rel => exact ⟨k + 1, (D.del (kl ky)), ⟨n0, t0, L0, U0, 0⟩, A5, D5, c5, d5, by go_num, hlt, h30, HOI, KgB, zh (HM.out.mono (Nat.le_succ _)), y1_, y2_, Y3, Y4, HG⟩
       case measure => simp [intOf]; omega
      ·rw [if_neg k2] at s3
       obtain ⟨g1, g2⟩ := hgt (D.put (kl ky) (.lit (.string dt.data.toList))) s3
       have HSZ := zh (hsz (D.put (kl ky) (.lit (.string dt.data.toList))) s3)
       have HOI := zh s3
       rw [has_put_same HO.out.tidy.isMap (by exact trivial)] at g1 g2
       have HHS : Hid (Maps.has (D.put (kl ky) (.lit (.string dt.data.toList))) (kl ky) = true) := has_put_same HO.out.tidy.isMap (by exact trivial) _
       have hf : f = 0 := of_decide_eq_true g1
       subst hf
       have HAT : Hid (∀ z, DataW.atKey (D.put (kl ky) (.lit (.string dt.data.toList))) (kl ky) z = .lit (.string v.f1.data.toList)) := g2 rfl
       have hvv : (v.f1.toList == v.f1.toList) = true := by simp
       have hll : ((L0.length : Int) != (L0.length : Int)) = false := by simp
       have u0 : decide (Int.tmod x.kd 9 < 2) = true := decide_eq_true (by omega)
       have u1 : Int.tmod x.kd 9 < 2 := by omega
       have u2 : (Int.tmod x.kd 9 == 2) = false := beq_eq_false_iff_ne.2 k2
       have HKM : Hid (k < maxLen) := by unfold Hid maxLen; omega
       clear g1 g2 hgt hsz s3 k3 t0_ k2
       go_wp2_with (first
           | (go_at_call 22; go_must (refine (HCT.out _).mono ?_; rintro e w1 ⟨rfl, hb⟩; have HB := keepB HB hb; clear hb))
           | ((with_reducible refine gate_dst (N := 7) rfl ?_); go_must (refine box_event ?hg (N := 7) ?hd (cs := #[.int .u8 0, .string ⟨#[]⟩, .string ⟨#[]⟩, .int .u64 0, .int .i64 0, .int .i64 0, .slice none 0 0]) (t := 59) ?hr ?_; (case hd => rfl); (case hg => rfl); (case hr => first | (go_simp; done) | (go_simp; rfl)); intro ga hqga w2 hbga hbelga; have Kga := zh hbga; have Lga := zh (show wr.heap.size ≤ ga by rw [hqga]; exact HB.out.size); have HB := keepB HB hbelga; clear hbga hbelga hqga))
           | ((with_reducible refine gate_store (t := 59) (p := 7) (v := .tmp 35) rfl ?_); go_must (refine wpList_store_row rfl rfl 59 (.tmp 7) (.tmp 35) rfl ga 0 _ 59 (.agg #[.int .u8 x.kd, .string ky, .string dt, .int .u64 x.id, .int .i64 x.n, .int .i64 x.q, .slice A6 pz.length c6]) [.int .u8 x.kd, .string ky, .string dt, .int .u64 x.id, .int .i64 x.n, .int .i64 x.q, .slice A6 pz.length c6] rfl rfl Kga.out rfl (by kernel_rfl) (by show 0 + 7 ≤ 7; decide) (by simp [Value.oneCell']) ?_; intro w3 hk ho; have Kga : Hid (w3.heap[ga]? = some (.cells #[.int .u8 x.kd, .string ky, .string dt, .int .u64 x.id, .int .i64 x.n, .int .i64 x.q, .slice A6 pz.length c6] 59 (0, 0))) := hk; have HB := zo ho HB Lga; have b0 := zb Kga.out 0 (.int .u8 x.kd); clear hk ho))
           | ((with_reducible refine gate_store (t := 3) (p := 42) (v := .tmp 41) rfl ?_); go_must (refine wpList_store_row rfl rfl 3 (.tmp 42) (.tmp 41) rfl ga 5 _ 59 (.int .i64 (k : Int)) [.int .i64 (k : Int)] rfl rfl Kga.out rfl (by kernel_rfl) (by show 5 + 1 ≤ 7; decide) (by simp [Value.oneCell']) ?_; intro w4 hk ho; clear b0; have Kga : Hid (w4.heap[ga]? = some (.cells #[.int .u8 x.kd, .string ky, .string dt, .int .u64 x.id, .int .i64 x.n, .int .i64 (k : Int), .slice A6 pz.length c6] 59 (0, 0))) := hk; have HB := zo ho HB Lga; have KgB := zk KgB HB.out; have a0 := zb KgB.out 0 (.string b.f0); have a1 := zb KgB.out 1 (.int .i64 b.f1); have a2 := zb KgB.out 2 (.slice AB b.f2.length cB); have a3 := zb KgB.out 3 (.slice DB b.f3.length dB); have a4 := zb KgB.out 4 (.int .u64 b.f4); have b0 := zb Kga.out 0 (.int .u8 x.kd); have b1 := zb Kga.out 1 (.string ky); have b2 := zb Kga.out 2 (.string dt); have b3 := zb Kga.out 3 (.int .u64 x.id); have b4 := zb Kga.out 4 (.int .i64 x.n); have b5 := zb Kga.out 5 (.int .i64 (k : Int)); have b6 := zb Kga.out 6 (.slice A6 pz.length c6); clear hk ho))
           | (go_at_call 23; go_must (refine (HDO.out _ HB.out).mono ?_; rintro e w5 ⟨A5, c5, D5, d5, rfl, y1_, y2_, y3, y4, hb⟩; have Y3 := zh y3; have Y4 := zh y4; have HB := keepB HB hb; have Kga := zk Kga hb; have KgB := zk KgB hb; clear hb y3 y4 a0 a1 a2 a3 a4 b0 b1 b2 b3 b4 b5 b6))
           | ((with_reducible refine gate_dst (N := 9) rfl ?_); go_must (refine box_event ?hg (N := 9) ?hd (cs := #[.string ⟨#[]⟩, .int .i64 0, .slice none 0 0, .slice none 0 0, .int .u64 0, .int .u64 0, .string ⟨#[]⟩, .int .i64 0]) (t := 62) ?hr ?_; (case hd => rfl); (case hg => rfl); (case hr => first | (go_simp; done) | (go_simp; rfl)); intro go hqgo w6 hbgo hbelgo; have Kgo := zh hbgo; have Lgo := zh (show wr.heap.size ≤ go by rw [hqgo]; exact HB.out.size); have HB := keepB HB hbelgo; have M1 := zh (show ga < go by rw [hqgo]; exact blk_lt Kga.out); have M2 := zh (show gB < go by rw [hqgo]; exact blk_lt KgB.out); have HD := zh hbelgo; have WD := zh (show _ ≤ go by rw [hqgo]; exact Nat.le_refl _); have Kga := zk Kga hbelgo; have KgB := zk KgB hbelgo; clear hbgo hbelgo hqgo))
           | ((with_reducible refine gate_store (t := 62) (p := 9) (v := .tmp 45) rfl ?_); go_must (refine wpList_store_row rfl rfl 62 (.tmp 9) (.tmp 45) rfl go 0 _ 62 (.agg #[.string n0, .int .i64 t0, .slice A5 L0.length c5, .slice D5 U0.length d5, .int .u64 0, .int .u64 0, .string tg, .int .i64 0]) [.string n0, .int .i64 t0, .slice A5 L0.length c5, .slice D5 U0.length d5, .int .u64 0, .int .u64 0, .string tg, .int .i64 0] rfl rfl Kgo.out rfl (by kernel_rfl) (by show 0 + 8 ≤ 8; decide) (by simp [Value.oneCell']) ?_; intro w7 hk ho; have Y3 := zc Y3 (ho.out.below HD.out HD.out.size WD.out); have Y4 := zc Y4 (ho.out.below HD.out HD.out.size WD.out); clear HD WD; have HB := zo ho HB Lgo; have Kga := zl ho Kga (by have := M1.out; omega); have KgB := zl ho KgB (by have := M2.out; omega); have Kgo : Hid (w7.heap[go]? = some (.cells #[.string n0, .int .i64 t0, .slice A5 L0.length c5, .slice D5 U0.length d5, .int .u64 0, .int .u64 0, .string tg, .int .i64 0] 62 (0, 0))) := hk; have HG := keepB HG HB.out; have HM := zh (owns_below HM.out HB.out); have f0 := zb Kgo.out 0 (.string n0); have f1 := zb Kgo.out 1 (.int .i64 t0); have f2 := zb Kgo.out 2 (.slice A5 L0.length c5); have f3 := zb Kgo.out 3 (.slice D5 U0.length d5); have f4 := zb Kgo.out 4 (.int .u64 0); have f5 := zb Kgo.out 5 (.int .u64 0); have f6 := zb Kgo.out 6 (.string tg); have f7 := zb Kgo.out 7 (.int .i64 0); have b0 := zb Kga.out 0 (.int .u8 x.kd); have b1 := zb Kga.out 1 (.string ky); have b2 := zb Kga.out 2 (.string dt); clear hk ho))
           | ((with_reducible refine gate_ (.mapUpdate 71 (.tmp 62) (.tmp 64) (.tmp 66)) rfl ?_); go_must (refine wpList_mapUpdate_in _ rfl (.tmp 62) (.tmp 64) (.tmp 66) 71 rfl 9 9 slaw Tryz.underlying71 strR gM k D rfl HM.out HKM.out (.string ky) (.string dt) (kl ky) rfl rfl (skey HKY.out) (.lit (.string dt.data.toList)) [] rfl ?_; intro w8 hown htn; have ho := turned_only htn; obtain ⟨es0, ck0, hes⟩ := owns_at HM.out; have Y3 := zh (mapE Y3.out hes ho); have Y4 := zh (mapU Y4.out hes ho); have Kga := zh (ho.blk Kga.out (Ne.symm (owns_ne HM.out Kga.out))); have Kgo := zh (ho.blk Kgo.out (Ne.symm (owns_ne HM.out Kgo.out))); have KgB := zh (ho.blk KgB.out (Ne.symm (owns_ne HM.out KgB.out))); have HG := zh (ho.below HG.out HG.out.size LgM.out); have HM := zh hown; clear hes htn ho hown f0 f1 f2 f3 f4 f5 f6 f7 b0 b1 b2; have f0 := zb Kgo.out 0 (.string n0); have f1 := zb Kgo.out 1 (.int .i64 t0); have f2 := zb Kgo.out 2 (.slice A5 L0.length c5); have f3 := zb Kgo.out 3 (.slice D5 U0.length d5); have f4 := zb Kgo.out 4 (.int .u64 0); have f5 := zb Kgo.out 5 (.int .u64 0); have f6 := zb Kgo.out 6 (.string tg); have f7 := zb Kgo.out 7 (.int .i64 0); ))
           | ((with_reducible refine gate_store (t := 26) (p := 3) (v := .tmp 78) rfl ?_); go_must (refine wpList_store_row rfl rfl 26 (.tmp 3) (.tmp 78) rfl gB 0 _ 26 (.agg #[.string n0, .int .i64 t0, .slice A5 L0.length c5, .slice D5 U0.length d5, .int .u64 0]) [.string n0, .int .i64 t0, .slice A5 L0.length c5, .slice D5 U0.length d5, .int .u64 0] rfl rfl KgB.out rfl isz_bucket (by show 0 + 5 ≤ 5; decide) (by simp [Value.oneCell']) ?_; intro w9 hk ho; have Y3 := zh (keepE Y3.out KgB.out (bk_like _ _ _ _ _ _ _ _ _) ho.out); have Y4 := zh (keepU Y4.out KgB.out (bk_like _ _ _ _ _ _ _ _ _) ho.out); have Kga := zl ho Kga (by have := NaB.out; have := Lga.out; omega); have HM := zh (owns_only HM.out ho.out (owns_ne HM.out KgB.out)); have KgB : Hid (w9.heap[gB]? = some (.cells #[.string n0, .int .i64 t0, .slice A5 L0.length c5, .slice D5 U0.length d5, .int .u64 0] 26 (0, 0))) := hk; have HG := zo ho HG LgB; clear f0 f1 f2 f3 f4 f5 f6 f7 Kgo; have a0 := zb KgB.out 0 (.string n0); have a1 := zb KgB.out 1 (.int .i64 t0); have a2 := zb KgB.out 2 (.slice A5 L0.length c5); have a3 := zb KgB.out 3 (.slice D5 U0.length d5); have a4 := zb KgB.out 4 (.int .u64 0); have b0 := zb Kga.out 0 (.int .u8 x.kd); have b1 := zb Kga.out 1 (.string ky); have b2 := zb Kga.out 2 (.string dt); clear hk ho))
           | (go_at_call 18; go_must (refine (HGT.out A5 D5 c5 d5 _ Y3.out y1_ Y4.out y2_).mono ?_; rintro e w10 ⟨rfl, hb⟩; have HG := keepB HG hb; have HM := zh (owns_below HM.out hb); have Y3 := zc Y3 hb; have Y4 := zc Y4 hb; have Kga := zk Kga hb; have KgB := zk KgB hb; clear hb a0 a1 a2 a3 a4 b0 b1 b2))
           | ((with_reducible refine gate_dst (N := 10) rfl ?_); go_must (refine box_event ?hg (N := 10) ?hd (cs := #[.int .u64 0, .string ⟨#[]⟩, .bool false, .int .i64 0]) (t := 47) ?hr ?_; (case hd => rfl); (case hg => rfl); (case hr => first | (go_simp; done) | (go_simp; rfl)); intro gv hqgv w11 hbgv hbelgv; have Kgv := zh hbgv; have Lgv := zh (show w.heap.size ≤ gv by rw [hqgv]; exact HG.out.size); have HG := keepB HG hbelgv; have M3 := zh (show ga < gv by rw [hqgv]; exact blk_lt Kga.out); have M4 := zh (show gB < gv by rw [hqgv]; exact blk_lt KgB.out); have HD := zh hbelgv; have WD := zh (show _ ≤ gv by rw [hqgv]; exact Nat.le_refl _); have HM := zh (owns_below HM.out hbelgv); have Kga := zk Kga hbelgv; have KgB := zk KgB hbelgv; clear hbgv hbelgv hqgv))
           | ((with_reducible refine gate_store (t := 47) (p := 10) (v := .tmp 84) rfl ?_); go_must (refine wpList_store_row rfl rfl 47 (.tmp 10) (.tmp 84) rfl gv 0 _ 47 (.agg #[.int .u64 v.f0, .string v.f1, .bool v.f2, .int .i64 v.f3]) [.int .u64 v.f0, .string v.f1, .bool v.f2, .int .i64 v.f3] rfl rfl Kgv.out rfl (by kernel_rfl) (by show 0 + 4 ≤ 4; decide) (by simp [Value.oneCell']) ?_; intro w12 hk ho; have Y3 := zc Y3 (ho.out.below HD.out HD.out.size WD.out); have Y4 := zc Y4 (ho.out.below HD.out HD.out.size WD.out); clear HD WD; have HM := zh (owns_only HM.out ho.out (owns_ne HM.out Kgv.out)); have HG := zo ho HG Lgv; have Kga := zl ho Kga (by have := M3.out; omega); have KgB := zl ho KgB (by have := M4.out; omega); have Kgv : Hid (w12.heap[gv]? = some (.cells #[.int .u64 v.f0, .string v.f1, .bool v.f2, .int .i64 v.f3] 47 (0, 0))) := hk; have g0 := zb Kgv.out 0 (.int .u64 v.f0); have g1 := zb Kgv.out 1 (.string v.f1); have g2 := zb Kgv.out 2 (.bool v.f2); have g3 := zb Kgv.out 3 (.int .i64 v.f3); have a0 := zb KgB.out 0 (.string n0); have a1 := zb KgB.out 1 (.int .i64 t0); have a2 := zb KgB.out 2 (.slice A5 L0.length c5); have a3 := zb KgB.out 3 (.slice D5 U0.length d5); have a4 := zb KgB.out 4 (.int .u64 0); have b0 := zb Kga.out 0 (.int .u8 x.kd); have b1 := zb Kga.out 1 (.string ky); have b2 := zb Kga.out 2 (.string dt); clear hk ho))
           | ((with_reducible refine gate_dst (N := 90) rfl ?_); go_must (refine wpList_lookS _ rfl (.tmp 87) (.tmp 89) 71 rfl Tryz.underlying71 gM (k + 1) (D.put (kl ky) (.lit (.string dt.data.toList))) rfl HM.out ky HKY.out rfl v.f1 true HHS.out (fun _ => HAT.out) (fun h => by cases h) ?_))
           | ((with_reducible refine gate_dst (N := 111) rfl ?_); go_must (refine gate_guard (by rfl) ?_; dsimp only; refine wpList_len_own _ rfl (.tmp 110) 71 rfl 9 9 Tryz.underlying71 strR gM (k + 1) (D.put (kl ky) (.lit (.string dt.data.toList))) rfl HM.out ?_; rw [HSZ.out])))
       go_roundw
       case rel => exact ⟨k + 1, (D.put (kl ky) (.lit (.string dt.data.toList))), ⟨n0, t0, L0, U0, 0⟩, A5, D5, c5, d5, by go_num, hlt, h30, HOI, KgB, HM, y1_, y2_, Y3, Y4, HG⟩
       case measure => simp [intOf]; omega
     ·rw [if_neg he] at s3
      have he0 : (er == 0) = false := beq_eq_false_iff_ne.2 he
      by_cases hth : Maps.has D (kl ky) = true
      ·obtain ⟨g1, g2⟩ := hgt D s3
       have HSZ := zh (hsz D s3)
       have HOI := zh s3
       rw [hth] at g1 g2
       have HHS := zh hth
       have hf : f = 0 := of_decide_eq_true g1
       subst hf
       have HAT : Hid (∀ z, DataW.atKey D (kl ky) z = .lit (.string v.f1.data.toList)) := g2 rfl
       have hvv : (v.f1.toList == v.f1.toList) = true := by simp
       have hll : ((L0.length : Int) != (L0.length : Int)) = false := by simp
       have HKM : Hid (k < maxLen) := by unfold Hid maxLen; omega
       clear g1 g2 hgt hsz s3 k3 t0_ hth he
       go_wp2_with (first
           | (go_at_call 22; go_must (refine (HCT.out _).mono ?_; rintro e w1 ⟨rfl, hb⟩; have HB := keepB HB hb; clear hb))
           | ((with_reducible refine gate_dst (N := 7) rfl ?_); go_must (refine box_event ?hg (N := 7) ?hd (cs := #[.int .u8 0, .string ⟨#[]⟩, .string ⟨#[]⟩, .int .u64 0, .int .i64 0, .int .i64 0, .slice none 0 0]) (t := 59) ?hr ?_; (case hd => rfl); (case hg => rfl); (case hr => first | (go_simp; done) | (go_simp; rfl)); intro ga hqga w2 hbga hbelga; have Kga := zh hbga; have Lga := zh (show wr.heap.size ≤ ga by rw [hqga]; exact HB.out.size); have HB := keepB HB hbelga; clear hbga hbelga hqga))
           | ((with_reducible refine gate_store (t := 59) (p := 7) (v := .tmp 35) rfl ?_); go_must (refine wpList_store_row rfl rfl 59 (.tmp 7) (.tmp 35) rfl ga 0 _ 59 (.agg #[.int .u8 x.kd, .string ky, .string dt, .int .u64 x.id, .int .i64 x.n, .int .i64 x.q, .slice A6 pz.length c6]) [.int .u8 x.kd, .string ky, .string dt, .int .u64 x.id, .int .i64 x.n, .int .i64 x.q, .slice A6 pz.length c6] rfl rfl Kga.out rfl (by kernel_rfl) (by show 0 + 7 ≤ 7; decide) (by simp [Value.oneCell']) ?_; intro w3 hk ho; have Kga : Hid (w3.heap[ga]? = some (.cells #[.int .u8 x.kd, .string ky, .string dt, .int .u64 x.id, .int .i64 x.n, .int .i64 x.q, .slice A6 pz.length c6] 59 (0, 0))) := hk; have HB := zo ho HB Lga; have b0 := zb Kga.out 0 (.int .u8 x.kd); clear hk ho))
           | ((with_reducible refine gate_store (t := 3) (p := 42) (v := .tmp 41) rfl ?_); go_must (refine wpList_store_row rfl rfl 3 (.tmp 42) (.tmp 41) rfl ga 5 _ 59 (.int .i64 (k : Int)) [.int .i64 (k : Int)] rfl rfl Kga.out rfl (by kernel_rfl) (by show 5 + 1 ≤ 7; decide) (by simp [Value.oneCell']) ?_; intro w4 hk ho; clear b0; have Kga : Hid (w4.heap[ga]? = some (.cells #[.int .u8 x.kd, .string ky, .string dt, .int .u64 x.id, .int .i64 x.n, .int .i64 (k : Int), .slice A6 pz.length c6] 59 (0, 0))) := hk; have HB := zo ho HB Lga; have KgB := zk KgB HB.out; have a0 := zb KgB.out 0 (.string b.f0); have a1 := zb KgB.out 1 (.int .i64 b.f1); have a2 := zb KgB.out 2 (.slice AB b.f2.length cB); have a3 := zb KgB.out 3 (.slice DB b.f3.length dB); have a4 := zb KgB.out 4 (.int .u64 b.f4); have b0 := zb Kga.out 0 (.int .u8 x.kd); have b1 := zb Kga.out 1 (.string ky); have b2 := zb Kga.out 2 (.string dt); have b3 := zb Kga.out 3 (.int .u64 x.id); have b4 := zb Kga.out 4 (.int .i64 x.n); have b5 := zb Kga.out 5 (.int .i64 (k : Int)); have b6 := zb Kga.out 6 (.slice A6 pz.length c6); clear hk ho))
           | (go_at_call 23; go_must (refine (HDO.out _ HB.out).mono ?_; rintro e w5 ⟨A5, c5, D5, d5, rfl, y1_, y2_, y3, y4, hb⟩; have Y3 := zh y3; have Y4 := zh y4; have HB := keepB HB hb; have Kga := zk Kga hb; have KgB := zk KgB hb; clear hb y3 y4 a0 a1 a2 a3 a4 b0 b1 b2 b3 b4 b5 b6))
           | ((with_reducible refine gate_dst (N := 9) rfl ?_); go_must (refine box_event ?hg (N := 9) ?hd (cs := #[.string ⟨#[]⟩, .int .i64 0, .slice none 0 0, .slice none 0 0, .int .u64 0, .int .u64 0, .string ⟨#[]⟩, .int .i64 0]) (t := 62) ?hr ?_; (case hd => rfl); (case hg => rfl); (case hr => first | (go_simp; done) | (go_simp; rfl)); intro go hqgo w6 hbgo hbelgo; have Kgo := zh hbgo; have Lgo := zh (show wr.heap.size ≤ go by rw [hqgo]; exact HB.out.size); have HB := keepB HB hbelgo; have M1 := zh (show ga < go by rw [hqgo]; exact blk_lt Kga.out); have M2 := zh (show gB < go by rw [hqgo]; exact blk_lt KgB.out); have HD := zh hbelgo; have WD := zh (show _ ≤ go by rw [hqgo]; exact Nat.le_refl _); have Kga := zk Kga hbelgo; have KgB := zk KgB hbelgo; clear hbgo hbelgo hqgo))
           | ((with_reducible refine gate_store (t := 62) (p := 9) (v := .tmp 45) rfl ?_); go_must (refine wpList_store_row rfl rfl 62 (.tmp 9) (.tmp 45) rfl go 0 _ 62 (.agg #[.string n0, .int .i64 t0, .slice A5 L0.length c5, .slice D5 U0.length d5, .int .u64 0, .int .u64 0, .string tg, .int .i64 er]) [.string n0, .int .i64 t0, .slice A5 L0.length c5, .slice D5 U0.length d5, .int .u64 0, .int .u64 0, .string tg, .int .i64 er] rfl rfl Kgo.out rfl (by kernel_rfl) (by show 0 + 8 ≤ 8; decide) (by simp [Value.oneCell']) ?_; intro w7 hk ho; have Y3 := zc Y3 (ho.out.below HD.out HD.out.size WD.out); have Y4 := zc Y4 (ho.out.below HD.out HD.out.size WD.out); clear HD WD; have HB := zo ho HB Lgo; have Kga := zl ho Kga (by have := M1.out; omega); have KgB := zl ho KgB (by have := M2.out; omega); have Kgo : Hid (w7.heap[go]? = some (.cells #[.string n0, .int .i64 t0, .slice A5 L0.length c5, .slice D5 U0.length d5, .int .u64 0, .int .u64 0, .string tg, .int .i64 er] 62 (0, 0))) := hk; have HG := keepB HG HB.out; have HM := zh (owns_below HM.out HB.out); have f0 := zb Kgo.out 0 (.string n0); have f1 := zb Kgo.out 1 (.int .i64 t0); have f2 := zb Kgo.out 2 (.slice A5 L0.length c5); have f3 := zb Kgo.out 3 (.slice D5 U0.length d5); have f4 := zb Kgo.out 4 (.int .u64 0); have f5 := zb Kgo.out 5 (.int .u64 0); have f6 := zb Kgo.out 6 (.string tg); have f7 := zb Kgo.out 7 (.int .i64 er); have b0 := zb Kga.out 0 (.int .u8 x.kd); have b1 := zb Kga.out 1 (.string ky); have b2 := zb Kga.out 2 (.string dt); clear hk ho))
           | ((with_reducible refine gate_store (t := 26) (p := 3) (v := .tmp 78) rfl ?_); go_must (refine wpList_store_row rfl rfl 26 (.tmp 3) (.tmp 78) rfl gB 0 _ 26 (.agg #[.string n0, .int .i64 t0, .slice A5 L0.length c5, .slice D5 U0.length d5, .int .u64 0]) [.string n0, .int .i64 t0, .slice A5 L0.length c5, .slice D5 U0.length d5, .int .u64 0] rfl rfl KgB.out rfl isz_bucket (by show 0 + 5 ≤ 5; decide) (by simp [Value.oneCell']) ?_; intro w9 hk ho; have Y3 := zh (keepE Y3.out KgB.out (bk_like _ _ _ _ _ _ _ _ _) ho.out); have Y4 := zh (keepU Y4.out KgB.out (bk_like _ _ _ _ _ _ _ _ _) ho.out); have Kga := zl ho Kga (by have := NaB.out; have := Lga.out; omega); have HM := zh (owns_only HM.out ho.out (owns_ne HM.out KgB.out)); have KgB : Hid (w9.heap[gB]? = some (.cells #[.string n0, .int .i64 t0, .slice A5 L0.length c5, .slice D5 U0.length d5, .int .u64 0] 26 (0, 0))) := hk; have HG := zo ho HG LgB; clear f0 f1 f2 f3 f4 f5 f6 f7 Kgo b0 b1 b2; have a0 := zb KgB.out 0 (.string n0); have a1 := zb KgB.out 1 (.int .i64 t0); have a2 := zb KgB.out 2 (.slice A5 L0.length c5); have a3 := zb KgB.out 3 (.slice D5 U0.length d5); have a4 := zb KgB.out 4 (.int .u64 0); have b0 := zb Kga.out 0 (.int .u8 x.kd); have b1 := zb Kga.out 1 (.string ky); have b2 := zb Kga.out 2 (.string dt); clear hk ho))
           | (go_at_call 18; go_must (refine (HGT.out A5 D5 c5 d5 _ Y3.out y1_ Y4.out y2_).mono ?_; rintro e w10 ⟨rfl, hb⟩; have HG := keepB HG hb; have HM := zh (owns_below HM.out hb); have Y3 := zc Y3 hb; have Y4 := zc Y4 hb; have Kga := zk Kga hb; have KgB := zk KgB hb; clear hb a0 a1 a2 a3 a4 b0 b1 b2))
           | ((with_reducible refine gate_dst (N := 10) rfl ?_); go_must (refine box_event ?hg (N := 10) ?hd (cs := #[.int .u64 0, .string ⟨#[]⟩, .bool false, .int .i64 0]) (t := 47) ?hr ?_; (case hd => rfl); (case hg => rfl); (case hr => first | (go_simp; done) | (go_simp; rfl)); intro gv hqgv w11 hbgv hbelgv; have Kgv := zh hbgv; have Lgv := zh (show w.heap.size ≤ gv by rw [hqgv]; exact HG.out.size); have HG := keepB HG hbelgv; have M3 := zh (show ga < gv by rw [hqgv]; exact blk_lt Kga.out); have M4 := zh (show gB < gv by rw [hqgv]; exact blk_lt KgB.out); have HD := zh hbelgv; have WD := zh (show _ ≤ gv by rw [hqgv]; exact Nat.le_refl _); have HM := zh (owns_below HM.out hbelgv); have Kga := zk Kga hbelgv; have KgB := zk KgB hbelgv; clear hbgv hbelgv hqgv))
           | ((with_reducible refine gate_store (t := 47) (p := 10) (v := .tmp 84) rfl ?_); go_must (refine wpList_store_row rfl rfl 47 (.tmp 10) (.tmp 84) rfl gv 0 _ 47 (.agg #[.int .u64 v.f0, .string v.f1, .bool v.f2, .int .i64 v.f3]) [.int .u64 v.f0, .string v.f1, .bool v.f2, .int .i64 v.f3] rfl rfl Kgv.out rfl (by kernel_rfl) (by show 0 + 4 ≤ 4; decide) (by simp [Value.oneCell']) ?_; intro w12 hk ho; have Y3 := zc Y3 (ho.out.below HD.out HD.out.size WD.out); have Y4 := zc Y4 (ho.out.below HD.out HD.out.size WD.out); clear HD WD; have HM := zh (owns_only HM.out ho.out (owns_ne HM.out Kgv.out)); have HG := zo ho HG Lgv; have Kga := zl ho Kga (by have := M3.out; omega); have KgB := zl ho KgB (by have := M4.out; omega); have Kgv : Hid (w12.heap[gv]? = some (.cells #[.int .u64 v.f0, .string v.f1, .bool v.f2, .int .i64 v.f3] 47 (0, 0))) := hk; have g0 := zb Kgv.out 0 (.int .u64 v.f0); have g1 := zb Kgv.out 1 (.string v.f1); have g2 := zb Kgv.out 2 (.bool v.f2); have g3 := zb Kgv.out 3 (.int .i64 v.f3); have a0 := zb KgB.out 0 (.string n0); have a1 := zb KgB.out 1 (.int .i64 t0); have a2 := zb KgB.out 2 (.slice A5 L0.length c5); have a3 := zb KgB.out 3 (.slice D5 U0.length d5); have a4 := zb KgB.out 4 (.int .u64 0); have b0 := zb Kga.out 0 (.int .u8 x.kd); have b1 := zb Kga.out 1 (.string ky); have b2 := zb Kga.out 2 (.string dt); clear hk ho))
           | ((with_reducible refine gate_dst (N := 90) rfl ?_); go_must (refine wpList_lookS _ rfl (.tmp 87) (.tmp 89) 71 rfl Tryz.underlying71 gM k D rfl HM.out ky HKY.out rfl v.f1 true HHS.out (fun _ => HAT.out) (fun h => by cases h) ?_))
           | ((with_reducible refine gate_dst (N := 111) rfl ?_); go_must (refine gate_guard (by rfl) ?_; dsimp only; refine wpList_len_own _ rfl (.tmp 110) 71 rfl 9 9 Tryz.underlying71 strR gM k D rfl HM.out ?_; rw [HSZ.out])))
       go_roundw
       case rel => exact ⟨k + 1, D, ⟨n0, t0, L0, U0, 0⟩, A5, D5, c5, d5, by go_num, hlt, h30, HOI, KgB, zh (HM.out.mono (Nat.le_succ _)), y1_, y2_, Y3, Y4, HG⟩
       case measure => simp [intOf]; omega
      ·obtain ⟨g1, g2⟩ := hgt D s3
       have HSZ := zh (hsz D s3)
       have HOI := zh s3
       replace hth := Bool.eq_false_iff.2 hth
       rw [hth] at g1 g2
       have HHS := zh hth
       have hf : f ≠ 0 := of_decide_eq_false g1
       have hf0 : (f == 0) = false := beq_eq_false_iff_ne.2 hf
       have hll : ((L0.length : Int) != (L0.length : Int)) = false := by simp
       have HKM : Hid (k < maxLen) := by unfold Hid maxLen; omega
       clear g1 g2 hgt hsz s3 k3 t0_ hth he
       go_wp2_with (first
           | (go_at_call 22; go_must (refine (HCT.out _).mono ?_; rintro e w1 ⟨rfl, hb⟩; have HB := keepB HB hb; clear hb))
           | ((with_reducible refine gate_dst (N := 7) rfl ?_); go_must (refine box_event ?hg (N := 7) ?hd (cs := #[.int .u8 0, .string ⟨#[]⟩, .string ⟨#[]⟩, .int .u64 0, .int .i64 0, .int .i64 0, .slice none 0 0]) (t := 59) ?hr ?_; (case hd => rfl); (case hg => rfl); (case hr => first | (go_simp; done) | (go_simp; rfl)); intro ga hqga w2 hbga hbelga; have Kga := zh hbga; have Lga := zh (show wr.heap.size ≤ ga by rw [hqga]; exact HB.out.size); have HB := keepB HB hbelga; clear hbga hbelga hqga))
           | ((with_reducible refine gate_store (t := 59) (p := 7) (v := .tmp 35) rfl ?_); go_must (refine wpList_store_row rfl rfl 59 (.tmp 7) (.tmp 35) rfl ga 0 _ 59 (.agg #[.int .u8 x.kd, .string ky, .string dt, .int .u64 x.id, .int .i64 x.n, .int .i64 x.q, .slice A6 pz.length c6]) [.int .u8 x.kd, .string ky, .string dt, .int .u64 x.id, .int .i64 x.n, .int .i64 x.q, .slice A6 pz.length c6] rfl rfl Kga.out rfl (by kernel_rfl) (by show 0 + 7 ≤ 7; decide) (by simp [Value.oneCell']) ?_; intro w3 hk ho; have Kga : Hid (w3.heap[ga]? = some (.cells #[.int .u8 x.kd, .string ky, .string dt, .int .u64 x.id, .int .i64 x.n, .int .i64 x.q, .slice A6 pz.length c6] 59 (0, 0))) := hk; have HB := zo ho HB Lga; have b0 := zb Kga.out 0 (.int .u8 x.kd); clear hk ho))
           | ((with_reducible refine gate_store (t := 3) (p := 42) (v := .tmp 41) rfl ?_); go_must (refine wpList_store_row rfl rfl 3 (.tmp 42) (.tmp 41) rfl ga 5 _ 59 (.int .i64 (k : Int)) [.int .i64 (k : Int)] rfl rfl Kga.out rfl (by kernel_rfl) (by show 5 + 1 ≤ 7; decide) (by simp [Value.oneCell']) ?_; intro w4 hk ho; clear b0; have Kga : Hid (w4.heap[ga]? = some (.cells #[.int .u8 x.kd, .string ky, .string dt, .int .u64 x.id, .int .i64 x.n, .int .i64 (k : Int), .slice A6 pz.length c6] 59 (0, 0))) := hk; have HB := zo ho HB Lga; have KgB := zk KgB HB.out; have a0 := zb KgB.out 0 (.string b.f0); have a1 := zb KgB.out 1 (.int .i64 b.f1); have a2 := zb KgB.out 2 (.slice AB b.f2.length cB); have a3 := zb KgB.out 3 (.slice DB b.f3.length dB); have a4 := zb KgB.out 4 (.int .u64 b.f4); have b0 := zb Kga.out 0 (.int .u8 x.kd); have b1 := zb Kga.out 1 (.string ky); have b2 := zb Kga.out 2 (.string dt); have b3 := zb Kga.out 3 (.int .u64 x.id); have b4 := zb Kga.out 4 (.int .i64 x.n); have b5 := zb Kga.out 5 (.int .i64 (k : Int)); have b6 := zb Kga.out 6 (.slice A6 pz.length c6); clear hk ho))
           | (go_at_call 23; go_must (refine (HDO.out _ HB.out).mono ?_; rintro e w5 ⟨A5, c5, D5, d5, rfl, y1_, y2_, y3, y4, hb⟩; have Y3 := zh y3; have Y4 := zh y4; have HB := keepB HB hb; have Kga := zk Kga hb; have KgB := zk KgB hb; clear hb y3 y4 a0 a1 a2 a3 a4 b0 b1 b2 b3 b4 b5 b6))
           | ((with_reducible refine gate_dst (N := 9) rfl ?_); go_must (refine box_event ?hg (N := 9) ?hd (cs := #[.string ⟨#[]⟩, .int .i64 0, .slice none 0 0, .slice none 0 0, .int .u64 0, .int .u64 0, .string ⟨#[]⟩, .int .i64 0]) (t := 62) ?hr ?_; (case hd => rfl); (case hg => rfl); (case hr => first | (go_simp; done) | (go_simp; rfl)); intro go hqgo w6 hbgo hbelgo; have Kgo := zh hbgo; have Lgo := zh (show wr.heap.size ≤ go by rw [hqgo]; exact HB.out.size); have HB := keepB HB hbelgo; have M1 := zh (show ga < go by rw [hqgo]; exact blk_lt Kga.out); have M2 := zh (show gB < go by rw [hqgo]; exact blk_lt KgB.out); have HD := zh hbelgo; have WD := zh (show _ ≤ go by rw [hqgo]; exact Nat.le_refl _); have Kga := zk Kga hbelgo; have KgB := zk KgB hbelgo; clear hbgo hbelgo hqgo))
           | ((with_reducible refine gate_store (t := 62) (p := 9) (v := .tmp 45) rfl ?_); go_must (refine wpList_store_row rfl rfl 62 (.tmp 9) (.tmp 45) rfl go 0 _ 62 (.agg #[.string n0, .int .i64 t0, .slice A5 L0.length c5, .slice D5 U0.length d5, .int .u64 0, .int .u64 0, .string tg, .int .i64 er]) [.string n0, .int .i64 t0, .slice A5 L0.length c5, .slice D5 U0.length d5, .int .u64 0, .int .u64 0, .string tg, .int .i64 er] rfl rfl Kgo.out rfl (by kernel_rfl) (by show 0 + 8 ≤ 8; decide) (by simp [Value.oneCell']) ?_; intro w7 hk ho; have Y3 := zc Y3 (ho.out.below HD.out HD.out.size WD.out); have Y4 := zc Y4 (ho.out.below HD.out HD.out.size WD.out); clear HD WD; have HB := zo ho HB Lgo; have Kga := zl ho Kga (by have := M1.out; omega); have KgB := zl ho KgB (by have := M2.out; omega); have Kgo : Hid (w7.heap[go]? = some (.cells #[.string n0, .int .i64 t0, .slice A5 L0.length c5, .slice D5 U0.length d5, .int .u64 0, .int .u64 0, .string tg, .int .i64 er] 62 (0, 0))) := hk; have HG := keepB HG HB.out; have HM := zh (owns_below HM.out HB.out); have f0 := zb Kgo.out 0 (.string n0); have f1 := zb Kgo.out 1 (.int .i64 t0); have f2 := zb Kgo.out 2 (.slice A5 L0.length c5); have f3 := zb Kgo.out 3 (.slice D5 U0.length d5); have f4 := zb Kgo.out 4 (.int .u64 0); have f5 := zb Kgo.out 5 (.int .u64 0); have f6 := zb Kgo.out 6 (.string tg); have f7 := zb Kgo.out 7 (.int .i64 er); have b0 := zb Kga.out 0 (.int .u8 x.kd); have b1 := zb Kga.out 1 (.string ky); have b2 := zb Kga.out 2 (.string dt); clear hk ho))
           | ((with_reducible refine gate_store (t := 26) (p := 3) (v := .tmp 78) rfl ?_); go_must (refine wpList_store_row rfl rfl 26 (.tmp 3) (.tmp 78) rfl gB 0 _ 26 (.agg #[.string n0, .int .i64 t0, .slice A5 L0.length c5, .slice D5 U0.length d5, .int .u64 0]) [.string n0, .int .i64 t0, .slice A5 L0.length c5, .slice D5 U0.length d5, .int .u64 0] rfl rfl KgB.out rfl isz_bucket (by show 0 + 5 ≤ 5; decide) (by simp [Value.oneCell']) ?_; intro w9 hk ho; have Y3 := zh (keepE Y3.out KgB.out (bk_like _ _ _ _ _ _ _ _ _) ho.out); have Y4 := zh (keepU Y4.out KgB.out (bk_like _ _ _ _ _ _ _ _ _) ho.out); have Kga := zl ho Kga (by have := NaB.out; have := Lga.out; omega); have HM := zh (owns_only HM.out ho.out (owns_ne HM.out KgB.out)); have KgB : Hid (w9.heap[gB]? = some (.cells #[.string n0, .int .i64 t0, .slice A5 L0.length c5, .slice D5 U0.length d5, .int .u64 0] 26 (0, 0))) := hk; have HG := zo ho HG LgB; clear f0 f1 f2 f3 f4 f5 f6 f7 Kgo b0 b1 b2; have a0 := zb KgB.out 0 (.string n0); have a1 := zb KgB.out 1 (.int .i64 t0); have a2 := zb KgB.out 2 (.slice A5 L0.length c5); have a3 := zb KgB.out 3 (.slice D5 U0.length d5); have a4 := zb KgB.out 4 (.int .u64 0); have b0 := zb Kga.out 0 (.int .u8 x.kd); have b1 := zb Kga.out 1 (.string ky); have b2 := zb Kga.out 2 (.string dt); clear hk ho))
           | (go_at_call 18; go_must (refine (HGT.out A5 D5 c5 d5 _ Y3.out y1_ Y4.out y2_).mono ?_; rintro e w10 ⟨rfl, hb⟩; have HG := keepB HG hb; have HM := zh (owns_below HM.out hb); have Y3 := zc Y3 hb; have Y4 := zc Y4 hb; have Kga := zk Kga hb; have KgB := zk KgB hb; clear hb a0 a1 a2 a3 a4 b0 b1 b2))
           | ((with_reducible refine gate_dst (N := 10) rfl ?_); go_must (refine box_event ?hg (N := 10) ?hd (cs := #[.int .u64 0, .string ⟨#[]⟩, .bool false, .int .i64 0]) (t := 47) ?hr ?_; (case hd => rfl); (case hg => rfl); (case hr => first | (go_simp; done) | (go_simp; rfl)); intro gv hqgv w11 hbgv hbelgv; have Kgv := zh hbgv; have Lgv := zh (show w.heap.size ≤ gv by rw [hqgv]; exact HG.out.size); have HG := keepB HG hbelgv; have M3 := zh (show ga < gv by rw [hqgv]; exact blk_lt Kga.out); have M4 := zh (show gB < gv by rw [hqgv]; exact blk_lt KgB.out); have HD := zh hbelgv; have WD := zh (show _ ≤ gv by rw [hqgv]; exact Nat.le_refl _); have HM := zh (owns_below HM.out hbelgv); have Kga := zk Kga hbelgv; have KgB := zk KgB hbelgv; clear hbgv hbelgv hqgv))
           | ((with_reducible refine gate_store (t := 47) (p := 10) (v := .tmp 84) rfl ?_); go_must (refine wpList_store_row rfl rfl 47 (.tmp 10) (.tmp 84) rfl gv 0 _ 47 (.agg #[.int .u64 v.f0, .string v.f1, .bool v.f2, .int .i64 v.f3]) [.int .u64 v.f0, .string v.f1, .bool v.f2, .int .i64 v.f3] rfl rfl Kgv.out rfl (by kernel_rfl) (by show 0 + 4 ≤ 4; decide) (by simp [Value.oneCell']) ?_; intro w12 hk ho; have Y3 := zc Y3 (ho.out.below HD.out HD.out.size WD.out); have Y4 := zc Y4 (ho.out.below HD.out HD.out.size WD.out); clear HD WD; have HM := zh (owns_only HM.out ho.out (owns_ne HM.out Kgv.out)); have HG := zo ho HG Lgv; have Kga := zl ho Kga (by have := M3.out; omega); have KgB := zl ho KgB (by have := M4.out; omega); have Kgv : Hid (w12.heap[gv]? = some (.cells #[.int .u64 v.f0, .string v.f1, .bool v.f2, .int .i64 v.f3] 47 (0, 0))) := hk; have g0 := zb Kgv.out 0 (.int .u64 v.f0); have g1 := zb Kgv.out 1 (.string v.f1); have g2 := zb Kgv.out 2 (.bool v.f2); have g3 := zb Kgv.out 3 (.int .i64 v.f3); have a0 := zb KgB.out 0 (.string n0); have a1 := zb KgB.out 1 (.int .i64 t0); have a2 := zb KgB.out 2 (.slice A5 L0.length c5); have a3 := zb KgB.out 3 (.slice D5 U0.length d5); have a4 := zb KgB.out 4 (.int .u64 0); have b0 := zb Kga.out 0 (.int .u8 x.kd); have b1 := zb Kga.out 1 (.string ky); have b2 := zb Kga.out 2 (.string dt); clear hk ho))
           | ((with_reducible refine gate_dst (N := 90) rfl ?_); go_must (refine wpList_lookS _ rfl (.tmp 87) (.tmp 89) 71 rfl Tryz.underlying71 gM k D rfl HM.out ky HKY.out rfl ⟨#[]⟩ false HHS.out (fun h => by cases h) (fun _ => rfl) ?_))
           | ((with_reducible refine gate_dst (N := 111) rfl ?_); go_must (refine gate_guard (by rfl) ?_; dsimp only; refine wpList_len_own _ rfl (.tmp 110) 71 rfl 9 9 Tryz.underlying71 strR gM k D rfl HM.out ?_; rw [HSZ.out])))
       go_roundw
       case rel => exact ⟨k + 1, D, ⟨n0, t0, L0, U0, 0⟩, A5, D5, c5, d5, by go_num, hlt, h30, HOI, KgB, zh (HM.out.mono (Nat.le_succ _)), y1_, y2_, Y3, Y4, HG⟩
       case measure => simp [intOf]; omega
    ·have y0 : decide ((2 : Int) < Int.tmod x.kd 9) = true := decide_eq_true (by omega)
     have y1 : decide (Int.tmod x.kd 9 > 2) = true := decide_eq_true (by omega)
     have y2 : (2 : Int) < Int.tmod x.kd 9 := by omega
     clear hpz k3 t0_
     go_wp2_with (first
         | (go_at_call 22; go_must (refine (HCT.out _).mono ?_; rintro e w1 ⟨rfl, hb⟩; have HB := keepB HB hb; clear hb))
         | ((with_reducible refine gate_dst (N := 7) rfl ?_); go_must (refine box_event ?hg (N := 7) ?hd (cs := #[.int .u8 0, .string ⟨#[]⟩, .string ⟨#[]⟩, .int .u64 0, .int .i64 0, .int .i64 0, .slice none 0 0]) (t := 59) ?hr ?_; (case hd => rfl); (case hg => rfl); (case hr => first | (go_simp; done) | (go_simp; rfl)); intro ga hqga w2 hbga hbelga; have Kga := zh hbga; have Lga := zh (show wr.heap.size ≤ ga by rw [hqga]; exact HB.out.size); have HB := keepB HB hbelga; clear hbga hbelga hqga))
         | ((with_reducible refine gate_store (t := 59) (p := 7) (v := .tmp 35) rfl ?_); go_must (refine wpList_store_row rfl rfl 59 (.tmp 7) (.tmp 35) rfl ga 0 _ 59 (.agg #[.int .u8 x.kd, .string ky, .string dt, .int .u64 x.id, .int .i64 x.n, .int .i64 x.q, .slice A6 pz.length c6]) [.int .u8 x.kd, .string ky, .string dt, .int .u64 x.id, .int .i64 x.n, .int .i64 x.q, .slice A6 pz.length c6] rfl rfl Kga.out rfl (by kernel_rfl) (by show 0 + 7 ≤ 7; decide) (by simp [Value.oneCell']) ?_; intro w3 hk ho; have Kga : Hid (w3.heap[ga]? = some (.cells #[.int .u8 x.kd, .string ky, .string dt, .int .u64 x.id, .int .i64 x.n, .int .i64 x.q, .slice A6 pz.length c6] 59 (0, 0))) := hk; have HB := zo ho HB Lga; have b0 := zb Kga.out 0 (.int .u8 x.kd); clear hk ho)))
     go_roundw
     case rel => exact ⟨k + 1, D, b, AB, DB, cB, dB, by go_num, hlt, h30, HO, zk KgB HB.out, zh ((owns_below HM.out HB.out).mono (Nat.le_succ _)), XB, YB, zc EB HB.out, zc UB HB.out, keepB HG HB.out⟩
     case measure => simp [intOf]; omega
   ·obtain rfl : k = 30 := by omega
    have p1 : (30 : Int) < (l.length : Int) := by omega
    go_wp2_with (go_at_call 14; go_must (refine (HZ.out _).mono ?_; rintro e w20 ⟨rfl, hb⟩; have HG := keepB HG hb; clear hb))
    go_ret
    exact ⟨rfl, HG.out⟩
  ·obtain rfl : k = l.length := by omega
   go_wp2_with (go_at_call 14; go_must (refine (HZ.out _).mono ?_; rintro e w20 ⟨rfl, hb⟩; have HG := keepB HG hb; clear hb))
   go_ret
   exact ⟨rfl, HG.out⟩
end
end Go.Proofs.YtekooapbdgippaaGreatDoor.Q
namespace Go.Proofs.YtekooapbdgippaaGreatDoor.Q
open Go.ChangeShapes Go.WideShapes Go.ChangeAt Go.WideMaps Go.WideElems Go.RowKit
set_option linter.unusedVariables false

theorem own : ownKnob Tryz.prog.godebug = none := by kernel_rfl
theorem laidOut : laidOutB Tryz.prog = true := by kernel_rfl
noncomputable abbrev laid3 := Rows.bucketOffRow.laid
/-- The door's own heap meets the condition. -/
theorem door_met (os : Os) (args : Array Value) : laidMetH Tryz.prog laid3 ((World.doorLaid Tryz.prog 400 os).forCall (fun _ _ => 0) ⟨#[], args, []⟩).memory :=
 laidMetH_of_parts3 (fuel := 8) (laidMet_of_run' 8 (by kernel_rfl) (by kernel_rfl)) (by kernel_rfl) (by kernel_rfl)
end Go.Proofs.YtekooapbdgippaaGreatDoor.Q
namespace Go.Proofs.YtekooapbdgippaaGreatDoor.bucketOff
open Go.ChangeShapes Go.WideShapes Go.ChangeAt Go.RowKit
open Go.ChangeMaps (open_string shut_string)
set_option linter.unusedVariables false

set_option maxRecDepth 100000 in
theorem lifted (os : Os) (started : os.Started) (H : Type) (enc : TypeId × Value → H) :
  ReturnsInHanded {} Tryz.checked os 7 .any (fun w args => (Rows.bucketOffSpec.pre enc Tryz.prog Tryz.f7 [] false w args ∧ laidMetH Tryz.prog Q.laid3 w) ∧ sizedMet enc Tryz.prog Tryz.f7 (OpenSpec.ofChange Rows.bucketOffSpec) false w args)
   (Rows.bucketOffSpec.post enc Tryz.prog Tryz.f7 false true false false) := by
 refine returnsInHanded_of_change_and (C := Tryz.checked) (X := fun w _ => laidMetH Tryz.prog Q.laid3 w) (fun _ _ _ hh h => h.of_heap hh) Q.own started (by kernel_rfl) Tryz.func7
  (ChangeSpec.witness_shaped (enc := enc) (C := Tryz.checked) (os := os) (X := fun w _ => laidMetH Tryz.prog Q.laid3 w) false (World.doorLaid Tryz.prog 400 os) #[.slice none 0 0] 8 rfl (World.shaped_of_RefB (by kernel_rfl) (by kernel_rfl)) (by kernel_rfl) (by kernel_rfl) (by kernel_rfl) (Q.door_met os _)) ?_
 intro W base args ds gs before hval0 hW _ _ hL _
 have hval : ∀ (j : Nat) t v, Tryz.f7.params[j]? = some t → args[j]? = some v → Value.okWide Tryz.prog W .any base t v := hval0
 have hW' := hW
 obtain ⟨p, q, hA0, hV, rfl, hfz, hnd⟩ := hW
 have hA : DataW.TrodAll enc Tryz.prog W 0 (fun _ => true) true Tryz.f7.params.toList args.toList ds p := hA0
 rw [Tryz.params7] at hA hval
 obtain ⟨v0, vs0, d0, ds0, p0, q0, hargs, rfl, rfl, h0, r0⟩ := trodAll_cons hA
 obtain ⟨rfl, rfl, rfl⟩ := trodAll_nil r0
 obtain rfl : args = #[v0] := by cases args; simp_all
 obtain ⟨rfl, rfl⟩ := trodVars_none hV
 have k0 := h0
 have lt0 : ∀ x ∈ p0, x.block < W.heap.size := by obtain ⟨m, hm⟩ := k0; exact DataW.trod_lt m _ _ _ hm
 obtain ⟨l_0, A_0, c_0, rfl, hl_0, hC_0, hw_0⟩ := Q.open_acts (hval 0 66 v0 rfl rfl) h0
 clear hA0 hval0
 refine (Q.off.walk A_0 c_0 l_0 W hC_0 hl_0 hw_0).mono fun e W' ⟨he, bel⟩ => ?_
 subst he
 exact ⟨_, rfl, _, _, _, [], _, [], hW', trodAll_mk1 (shut_bool Tryz.underlying4 _), (trodAll_cons_mk (Below.trod Q.laidOut (by kernel_rfl) (of_decide_eq_true (by kernel_rfl)) k0 bel lt0) trodAll_mk0), rfl, bel.frame _, fun h => by cases h⟩
theorem over : Rows.bucketOffRow.holds Tryz.pinned (OpenSpec.ofChange Rows.bucketOffSpec) :=
 OpenClaim.holds_of_wide 7 Tryz.f7 rfl rfl rfl rfl rfl rfl rfl ⟨rfl, rfl, rfl, rfl, rfl⟩ rfl rfl rfl rfl rfl (by kernel_rfl) Tryz.func7 (by kernel_rfl)
  (of_decide_eq_true (by kernel_rfl)) (by unfold Func.isWrapper; first | (rw [if_pos (by decide +kernel)]; kernel_rfl) | (rw [if_neg (by decide +kernel)]; exact ⟨rfl, rfl⟩))
  (fun os started H enc _ => lifted os started H enc)
end Go.Proofs.YtekooapbdgippaaGreatDoor.bucketOff
namespace Go.Proofs.YtekooapbdgippaaGreatDoor
open Go
/-- The row. -/
theorem bucketOff_holds : Rows.BucketOffSaid := bucketOff.over
/-- The tied card. -/
theorem bucketOff_card : Rows.BucketOffCardSaid :=
 Claim7.holds_tied_plain_at .later [] [.data, .data, .data] true (true, "3f924fd3e99d20b6ad08f43943803b65051b3e73ab7a4689db3063d4da1ed7e8") false
  bucketOff_holds (fun _ h => by cases h) (by kernel_rfl) (fun _ h => by cases h) bucketOff_row_tie rfl ⟨rfl, rfl⟩ (by kernel_rfl) rfl
  (fun f fn hf hfn => by
   obtain rfl : f = 7 := Option.some.inj ((show Tryz.prog.funcNamed "cellarer/cellarerlaw09.BucketOff" = some 7 by kernel_rfl).symm.trans hf) |>.symm
   obtain rfl : fn = Tryz.f7 := (Option.some.inj (Tryz.func7.symm.trans hfn)).symm
   exact ⟨by kernel_rfl, fun j t ht => by
    rw [Tryz.params7] at ht
    rcases j with _ | j
    ·obtain rfl : t = 66 := by simpa using ht.symm
     exact (show Tryz.prog.wantsStandIn 66 = false by kernel_rfl)
    ·simp at ht⟩)
  (by kernel_rfl)
#print axioms bucketOff_card
end Go.Proofs.YtekooapbdgippaaGreatDoor
