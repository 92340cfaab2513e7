/- What comes in parts is in the end what a Put of it would be: the latest version of the key has those octets, and the upload is gone; whatever the input, as the row says. Part 24 of 26. -/
import Derived.Test.YtekooapbdgippaaGreatDoorBp2
import Derived.Deep.AppendLies
import Derived.Deep.RegionLaw
import Derived.Deep.DeepAppendRoom
import Derived.StillTailTactics
import Derived.Test.YtekooapbdgippaaGreatDoorBp1
import Derived.Maps.OwnSet
import Derived.Maps.RangeWalk
import Derived.Lib.BufferMore
import Derived.Lib.Bytealg
import Derived.MapKept
import Derived.Shelf.Abstract
namespace Go.Proofs.YtekooapbdgippaaGreatDoor.Q
open Go.RowKit Go.Proofs.YtekooapbdgippaaGreatDoorW.PrintWords Go.Proofs.YtekooapbdgippaaGreatDoorW.PrintLast Go.Proofs.YtekooapbdgippaaGreatDoorW.PrintMore
open List renaming getElem_toArray → zA, getElem_cons_zero → zB, getElem_cons_succ → zC, setIfInBounds_toArray → zD, set_cons_zero → zE, set_cons_succ → zF
set_option linter.unusedVariables false
set_option linter.unusedSimpArgs false
set_option maxHeartbeats 8000000
set_option maxRecDepth 100000
section
open Go.WideMaps Go.Maps
theorem own_shape {w : World} {base n sz : Nat} {e : TypeId} {v : Value} {xs : List Value} (ho : w.ownsRow base e sz v n xs) : ∃ A c,v = .slice A n c:=by
 rcases ho.2 with ⟨h1,h2⟩ | ⟨g,cap,cur,h1,_⟩
 ·exact ⟨none,0,by rw [h1,h2]⟩
 ·exact ⟨_,_,h1⟩
theorem own_heap {w W : World} (h : W.heap = w.heap) {base n sz : Nat} {e : TypeId} {v : Value} {xs : List Value} (ho : w.ownsRow base e sz v n xs) : W.ownsRow base e sz v n xs:=by
 unfold World.ownsRow at ho ⊢
 rw [h];exact ho
theorem lay_new.walk (ad : Addr) (c : Nat) (l : List S101) (id : Int) (p : S40) (w : World) (hr : Kd.C k101 w (some ad) l.length l) (hc : l.length ≤ c) (i : Nat) (hi : i < l.length)
  (hk : checkB l = true) (hm : mayB p = true) (hp : posU l id = some i) (hth : thereP l[i].f2 p.f0 = false) :
  Calls Tryz.prog 42 #[.slice (some ad) l.length c,.int .u64 id,.agg #[.int .i64 p.f0,.string p.f1]] w (ListPost (layR l id p).1 [.int .u32 (layR l id p).2.1,.int .i64 (layR l id p).2.2] w):=by
 have HB0 : Hid (Below w.heap.size w w):=Below.refl _ _
 obtain ⟨hl10,hfn⟩:=check_fine hk
 obtain ⟨hsort,hl30⟩:=fine_sorted (hfn i hi)
 have hm':=hm
 unfold mayB at hm'
 simp only [Bool.and_eq_true,decide_eq_true_eq] at hm'
 obtain ⟨m0,m1,m2⟩:=hm'
 have HA:=zh (HB0.out.alloc (Nat.le_refl _) (.cells #[.int .i64 p.f0,.string p.f1] 40))
 have HZ:=zh (place.walk (some ad) c l id _ (Kd.C_below hr HA.out) hc)
 have e1 : placeR l id = ((i : Int),0):=by unfold placeR;rw [if_neg (by simp [hk]),hp]
 rw [e1] at HZ
 have HM:=zh (fun W=>may_calls p W)
 rw [hm] at HM
 have HLR : Hid (layR l id p = if thereP l[i].f2 p.f0 = false ∧ l[i].f2.length = 30 then ([],0,6) else (l.set i ⟨l[i].f0,l[i].f1,layParts l[i].f2 p⟩,tagOf p.f1,0)):=by
  unfold Hid layR
  rw [if_neg (by simp [hk,hm]),hp]
  simp [List.getD_eq_getElem?_getD,hi]
 have HLR2 : Hid (layR l id p = if l[i].f2.length = 30 then ([],0,6) else (l.set i ⟨l[i].f0,l[i].f1,l[i].f2.take (lowP l[i].f2 p.f0) ++ (p :: l[i].f2.drop (lowP l[i].f2 p.f0))⟩,tagOf p.f1,0)):=by
  unfold Hid;rw [HLR.out];unfold layParts;rw [hth];simp
 have hlow : lowP l[i].f2 p.f0 ≤ l[i].f2.length:=List.findIdx_le_length
 clear e1 hk hm hp hfn HLR
 have HR:=zh hr
 have HSORT:=zh hsort
 clear hr hsort
 obtain ⟨rows,hrows,hraw⟩:=C_rows HR.out
 have hri : i < rows.length:=by have:=hrows.len;omega
 obtain ⟨A2,c2,hrow,g3,g4⟩:=k101_row (hrows.at_ i l[i] rows[i] (List.getElem?_eq_getElem hi) (List.getElem?_eq_getElem hri))
 have hfa : ∀ j v,j < 3 → ([.int .u64 l[i].f0,.string l[i].f1,.slice A2 l[i].f2.length c2] : List Value)[j]? = some v → rows.flatten[i * 3 + j]? = some v:=fun j v hj h=>by
  rw [flat_at (sz:=3) hrows.lens i j hj,List.getElem?_eq_getElem hri,Option.bind_some,hrow];exact h
 have g2:=hraw _ _ (hfa 2 _ (by omega) rfl)
 rw [add_field _ _ 2 (by omega)] at g2
 have hfl : rows.flatten.length = l.length * 3:=by rw [flat_len (sz:=3) hrows.lens,hrows.len]
 have HFA:=zh hfa;have HFL:=zh hfl;have HROWS:=zh hrows;have HRAW:=zh hraw;have HROW:=zh hrow
 have G2:=zh g2;have G3:=zh g3;have G4:=zh g4
 clear g2 g3 g4 hfa hfl hrows hraw hrow
 have HBS:=zh (fun (W : World) (h : Below w.heap.size w W)=>bsearch.walk A2 c2 l[i].f2 p.f0 W (Kd.C_below G4.out h) HSORT.out (by omega) m0 m1)
 simp only [hth] at HBS
 clear hth
 generalize hkk : lowP l[i].f2 p.f0 = k at *
 clear hkk
 go_enter Tryz.func42,Tryz.ntmps42
 go_wp2_with (first | (go_at_call 87;refine HZ.out.mono ?_;rintro e w1 ⟨rfl,hb⟩;have hk1:=blk_below (blk_new w _) hb;have c0:=(blk_cell hk1 0).trans rfl;have c1:=(blk_cell hk1 1).trans rfl;have BK1:=zh hk1;have HB1:=keepB HA hb;clear hb hk1) | (go_at_call 88;refine (HM.out _).mono ?_;rintro e w2 ⟨rfl,hb⟩;have BK2:=zk BK1 hb;have HB2:=keepB HB1 hb;clear hb))
 clear c0 c1
 have c0:=zj BK2 0
 have c1:=zj BK2 1
 have b2:=keepc HB2.out G2.out
 have i0 : (0 : Int) ≤ (i : Int):=by omega
 have i1 : (i : Int) < (l.length : Int):=by omega
 go_region_held3 (fun W=>W.cell? ⟨w.heap.size,0,none⟩ = some (.int .i64 p.f0) ∧ W.cell? ⟨(ad.add (i * 3)).block,(ad.add (i * 3)).off + 2,none⟩ = some (.slice A2 l[i].f2.length c2) ∧ Hid (Below w.heap.size w W) ∧ Hid (W.heap[w.heap.size]? = some (.cells #[.int .i64 p.f0,.string p.f1] 40 (0,0))))
  (((try go_split_ands);refine ⟨?_,?_,?_,?_⟩ <;> first | assumption | (refine keepc hb ?_;assumption) | (refine keepB ?_ hb;assumption) | (refine keepK ?_ hb;assumption) | (refine keepD ?_;assumption) | (refine keepKD ?_;assumption) | (refine keepcD ?_;assumption)))
  (first | (go_at_call 89;refine (HBS.out _ (outB (by first | assumption | exact keepD HB2))).mono ?_;rintro e w' ⟨rfl,hb⟩))
 try go_split_ands
 have HB3 : Hid (Below w.heap.size w w'):=by assumption
 have BK3 : Hid (w'.heap[w.heap.size]? = some (.cells #[.int .i64 p.f0,.string p.f1] 40 (0,0))):=by assumption
 have HCL:=zh (clone34.walk ad l.length c rows.flatten w' HFL.out HROWS.out.one (fun j u hu=>keepc HB3.out (HRAW.out j u hu)) (by omega))
 go_wp2_with (go_at_call 79;refine HCL.out.mono ?_;rintro e w4 ⟨v1,rfl,hown1,hb4⟩;have HB4:=keepB HB3 hb4;have BK4:=keepK BK3 hb4;have HO1:=zh hown1;have HS4:=zh hb4.size;(obtain ⟨g1,cap1,cur1,rfl,q1,q2,q3,q4,q5,q6⟩ : ∃ g1 cap1 cur1,v1 = .slice (some ⟨g1,0,none⟩) l.length cap1 ∧ w'.heap.size ≤ g1 ∧ w4.heap[g1]? = some (.cells cur1 101 (0,0)) ∧ l.length ≤ cap1 ∧ cap1 ≤ maxLen ∧ cur1.size = cap1 * 3 ∧ cur1.toList.take (l.length * 3) = rows.flatten:=(by rcases hown1.2 with ⟨_,h0⟩ | ⟨g,cap,cur,h1,h2,h3,h4,h5,h6,h7⟩;(omega);(exact ⟨g,cap,cur,h1,h2,h3,h4,h5,h6,h7⟩)));have BG1:=zh q2;have Q1:=zh q1;have Q3:=zh q3;have Q4:=zh q4;have Q5:=zh q5;have Q6:=zh q6;have m2 : w4.cell? ⟨g1,i * 3 + 2,none⟩ = some (.slice A2 l[i].f2.length c2):=(by rw [blk_cell BG1.out,← Array.getElem?_toList];have:=HFA.out 2 _ (by omega) rfl;rw [← q6,List.getElem?_take,if_pos (by omega)] at this;exact this);have HC39:=zh (clone39_any (w:=w4) (c:=c2) (Kd.C_below G4.out HB4.out) (by omega));clear hown1 hb4 q1 q2 q3 q4 q5 q6)
 have hsplit : l[i].f2.length = 30 ∨ l[i].f2.length ≠ 30:=by omega
 rcases hsplit with h30 | h30
 ·have d30 : ((l[i].f2.length : Int) == 30) = true:=beq_iff_eq.2 (by omega)
  rw [if_pos h30] at HLR2
  clear h30
  go_wp2_with (go_at_call 91;refine HC39.out.mono ?_;rintro e w5 ⟨v2,rfl,hown2,hb5⟩;(obtain ⟨A',cap2,rfl,_,_⟩:=own40 hown2);have HB5:=keepB HB4 hb5;have BK5:=keepK BK4 hb5;have BG5:=keepK BG1 hb5;have m5:=keepc hb5 m2;have z5:=blk_frozen BG5.out (i * 3 + 2);clear hown2 hb5)
  go_ret3
  rw [HLR2.out]
  exact ⟨none,0,rfl,Nat.le_refl _,Kd.C_nil _ _,HB5.out.setCell (p:=⟨g1,i * 3 + 2,none⟩) (by have:=blk_lt BK3.out;have:=Q1.out;show w.heap.size ≤ g1;omega) _⟩
 ·have d30 : ((l[i].f2.length : Int) == 30) = false:=beq_eq_false_iff_ne.2 (by omega)
  rw [if_neg h30] at HLR2
  clear h30
  go_wp2_with (go_at_call 91;refine HC39.out.mono ?_;rintro e w5 ⟨v2,rfl,hown2,hb5⟩;have HO2:=zh hown2;(obtain ⟨A',cap2,rfl,_,_⟩:=own40 hown2);have HB5:=keepB HB4 hb5;have BK5:=keepK BK4 hb5;have BG5:=keepK BG1 hb5;have m5:=keepc hb5 m2;have z5:=blk_frozen BG5.out (i * 3 + 2);have HS45:=zh hb5.size;clear hown2 hb5)
  clear m2 m5 z5 b2 c0 c1
  obtain ⟨v2,hv2⟩ : ∃ v2 : Value,v2 = .slice A' l[i].f2.length cap2:=⟨_,rfl⟩
  obtain ⟨w6,hw6⟩ : ∃ w6,w6 = w5.setCell ⟨g1,i * 3 + 2,none⟩ (.slice A' l[i].f2.length cap2):=⟨_,rfl⟩
  rw [← hw6]
  have HV2:=zh hv2
  have HO2':=HO2.out
  rw [← hv2] at hw6 HO2'
  have HW6:=zh hw6
  have HO5:=zh HO2'
  clear hv2 hw6 HO2' HO2
  have L3 : w.heap.size < w'.heap.size:=blk_lt BK3.out
  have L4 : g1 < w4.heap.size:=blk_lt BG1.out
  have L6 : w.heap.size < g1:=Nat.lt_of_lt_of_le L3 Q1.out
  have BG6 : Hid (w6.heap[g1]? = some (.cells (cur1.setIfInBounds (i * 3 + 2) v2) 101 (0,0))):=by unfold Hid;rw [HW6.out];exact blk_set BG5.out _ _
  have BK6 : Hid (w6.heap[w.heap.size]? = some (.cells #[.int .i64 p.f0,.string p.f1] 40 (0,0))):=by unfold Hid;rw [HW6.out];exact blk_far BK5.out (p:=⟨g1,i * 3 + 2,none⟩) (Nat.ne_of_lt L6) _
  have HB6 : Hid (Below w.heap.size w w6):=by unfold Hid;rw [HW6.out];exact HB5.out.setCell (p:=⟨g1,i * 3 + 2,none⟩) (Nat.le_of_lt L6) _
  have HO6 : Hid (w6.ownsRow w4.heap.size 40 2 v2 l[i].f2.length (cells40 l[i].f2)):=by
   unfold Hid;rw [HW6.out]
   exact own_move HO5.out (fun q hq=>Below.heap_setCell _ _ _ _ (fun e=>own_ne HO5.out BG5.out (by decide) (by rw [hq,e])))
  have N1:=zh (own_ne HO6.out BG6.out (by decide))
  have N2 : Hid (some w.heap.size ≠ v2.ownBlock):=fun e=>by have:=own_base HO6.out _ e.symm;omega
  have S6 : w4.heap.size ≤ w6.heap.size:=by
   have h2:=HS45.out
   have h3 : w6.heap.size = w5.heap.size:=by rw [HW6.out];simp [World.setCell]
   omega
  have r2 : w6.cell? ⟨g1,i * 3 + 2,none⟩ = some (.slice A' l[i].f2.length cap2):=by
   rw [blk_cell BG6.out,Array.getElem?_setIfInBounds,if_pos rfl,if_pos (by rw [Q5.out];have:=Q3.out;omega),HV2.out]
  have HC6 : Hid ((cur1.setIfInBounds (i * 3 + 2) v2)[i * 3 + 2]? = some v2):=by
   unfold Hid;rw [Array.getElem?_setIfInBounds,if_pos rfl,if_pos (by rw [Q5.out];have:=Q3.out;omega)]
  have c0:=zj BK6 0
  have c1:=zj BK6 1
  have nn1:=World.new_ne w6 _ r2
  have nn2 : g1 < w6.heap.size:=blk_lt BG6.out
  have HIN : Hid (∀ W : World,W.heap = (w6.alloc (.cells #[.int .i64 p.f0,.string p.f1] 40)).heap → Calls Tryz.prog 92 #[.slice A' l[i].f2.length cap2,.int .i64 k,.slice (some ⟨w6.heap.size,0,none⟩) 1 1] W (InsPost w4.heap.size l[i].f2.length k v2 (cells40 l[i].f2) (cell40 p) W)):=by
   intro W hW
   have ho : W.ownsRow w4.heap.size 40 2 v2 l[i].f2.length (cells40 l[i].f2):=own_heap hW (HO6.out.alloc _)
   have hbv : W.heap[w6.heap.size]? = some (.cells #[.int .i64 p.f0,.string p.f1] 40 (0,0)):=by rw [hW];exact blk_new _ _
   have:=insert.walk w4.heap.size l[i].f2.length k v2 (cells40 l[i].f2) w6.heap.size p.f0 p.f1 W ho (by rw [hW];simp;omega) hlow (by omega) (cells40_one _) hbv (fun e=>by
    obtain ⟨cells,hc⟩:=own_typed HO6.out _ e
    exact absurd (blk_lt hc) (Nat.lt_irrefl _))
   rw [HV2.out] at this ⊢
   exact this
  go_region_with (first | (go_at_call 92;refine (HIN.out _ (by exact rfl)).mono ?_;rintro e w8 ⟨v3,rfl,ho8,hg8⟩;have BG8:=zh (blk_grown (blk_drew (blk_alloc BG6.out _)) hg8 N1.out);have BK8:=zh (blk_grown (blk_drew (blk_alloc BK6.out _)) hg8 N2.out);have m8:=(blk_cell BG8.out (i * 3 + 2)).trans HC6.out;have z8:=blk_frozen BG8.out (i * 3 + 2);(obtain ⟨A3,c3,rfl⟩:=own_shape ho8);have HO8:=zh ho8;have HG8:=zh hg8;clear ho8 hg8))
  all_goals
   have c8 : w8.cell? ⟨w.heap.size,1,none⟩ = some (.string p.f1):=zj BK8 1
   have L6' : ¬ g1 = w.heap.size:=by omega
   have L6'' : ¬ w.heap.size = g1:=by omega
   clear c0 c1 r2 nn1
   go_wp2_with (go_at_call 93;refine (tag_Of.walk p.f1 (by omega) _).mono ?_;rintro e w9 ⟨rfl,hb9⟩;have HB9:=zh hb9;clear hb9)
   go_ret3
   have hb8 : Below w.heap.size w w8:=((HB6.out.alloc HB6.out.size (.cells #[.int .i64 p.f0,.string p.f1] 40)).drew).grown HG8.out (by have:=HB6.out.size;simp;omega) (fun q hq=>by have:=own_base HO6.out q hq;omega)
   have hb9 : Below w.heap.size w w9:=(hb8.setCell (p:=⟨g1,i * 3 + 2,none⟩) (Nat.le_of_lt L6) (.slice A3 (l[i].f2.length + 1) c3)).trans (HB9.out.mono (hb8.setCell (p:=⟨g1,i * 3 + 2,none⟩) (Nat.le_of_lt L6) (.slice A3 (l[i].f2.length + 1) c3)).size)
   have kg9:=blk_below (blk_set BG8.out (i * 3 + 2) (.slice A3 (l[i].f2.length + 1) c3)) HB9.out
   rw [Array.setIfInBounds_setIfInBounds] at kg9
   have ho9 : w9.ownsRow w4.heap.size 40 2 (.slice A3 (l[i].f2.length + 1) c3) (l[i].f2.take k ++ (p :: l[i].f2.drop k)).length (cells40 (l[i].f2.take k ++ (p :: l[i].f2.drop k))):=by
    rw [← insAt40,List.length_append,List.length_take,List.length_cons,List.length_drop,show min k l[i].f2.length + (l[i].f2.length - k + 1) = l[i].f2.length + 1 by omega]
    exact pw_own_below (own_move HO8.out (fun q hq=>Below.heap_setCell _ _ _ _ (fun e=>own_ne HO8.out BG8.out (by decide) (by rw [hq,e])))) HB9.out
   obtain ⟨A4,c4,e4,hle,hC⟩:=own40 ho9
   injection e4 with e5 e6 e7
   subst e5 e7
   rw [HLR2.out]
   exact lay_fin l i hi rows HROWS.out w9 hb9 g1 cap1 cur1 _ _ _ kg9 Q6.out Q3.out _ HROW.out (l[i].f2.take k ++ (p :: l[i].f2.drop k)) (by rw [e6];exact hC) e6 hle _ hl10
end
section
open Go.WideMaps Go.Maps
theorem some_of_lt {w : World} {A : Option Addr} {l : List S101} (hr : Kd.C k101 w A l.length l) (h : 0 < l.length) : ∃ ad,A = some ad:=by
 obtain ⟨ad,e,_⟩:=hr.2.2 h;exact ⟨ad,e⟩
theorem lay.walk (A : Option Addr) (c : Nat) (l : List S101) (id : Int) (p : S40) (w : World) (hr : Kd.C k101 w A l.length l) (hc : l.length ≤ c) :
  Calls Tryz.prog 42 #[.slice A l.length c,.int .u64 id,.agg #[.int .i64 p.f0,.string p.f1]] w (ListPost (layR l id p).1 [.int .u32 (layR l id p).2.1,.int .i64 (layR l id p).2.2] w):=by
 cases hk : checkB l
 ·have e : layR l id p = ([],0,1):=by unfold layR;rw [if_pos (Or.inl hk)]
  rw [e]
  exact lay_err.walk A c l id p w hr hc 1 (Or.inl rfl) (Or.inl ⟨hk,rfl⟩)
 ·cases hm : mayB p
  ·have e : layR l id p = ([],0,1):=by unfold layR;rw [if_pos (Or.inr hm)]
   rw [e]
   exact lay_err.walk A c l id p w hr hc 1 (Or.inl rfl) (Or.inr (Or.inl ⟨hk,hm,rfl⟩))
  ·cases hp : posU l id with
   | none =>
    have e : layR l id p = ([],0,4):=by unfold layR;rw [if_neg (by simp [hk,hm]),hp]
    rw [e]
    exact lay_err.walk A c l id p w hr hc 4 (Or.inr rfl) (Or.inr (Or.inr ⟨hk,hm,hp,rfl⟩))
   | some i =>
    obtain ⟨hi,_⟩:=posU_lt hp
    obtain ⟨ad,rfl⟩:=some_of_lt hr (by omega)
    cases hth : thereP l[i].f2 p.f0
    ·exact lay_new.walk ad c l id p w hr hc i hi hk hm hp hth
    ·exact lay_there.walk ad c l id p w hr hc i hi hk hm hp hth
theorem clone34_any {w : World} {A : Option Addr} {c : Nat} {l : List S101} (hr : Kd.C k101 w A l.length l) (hn : l.length ≤ 1000000) :
  Calls Tryz.prog 79 #[.slice A l.length c] w fun e w'=>∃ v rows,e = .returned v ∧ RowsOf k101 w l rows ∧ w'.ownsRow w.heap.size 101 3 v l.length rows.flatten ∧ Below w.heap.size w w':=by
 cases A with
 | none =>
  have h0 : l.length = 0:=by
   rcases Nat.eq_zero_or_pos l.length with h | h
   ·exact h
   ·obtain ⟨ad,e,_⟩:=hr.2.2 h;cases e
  have : l = []:=List.length_eq_zero_iff.1 h0
  subst this
  refine (clone34_nil 0 c w).mono ?_
  rintro e w' ⟨rfl,hb⟩
  exact ⟨_,[],rfl,RowsOf.nil_,own_nil _ _ _ _,hb⟩
 | some ad =>
  obtain ⟨rows,h1,h2⟩:=C_rows hr
  refine (clone34.walk ad l.length c rows.flatten w (by rw [flat_len (sz:=3) h1.lens,h1.len]) h1.one h2 hn).mono ?_
  rintro e w' ⟨v,rfl,ho,hb⟩
  exact ⟨v,rows,rfl,h1,ho,hb⟩
def lastB (l : List S101) (id : Int) : Bool:=decide (0 < l.length) && decide (id ≤ (l.getD (l.length - 1) z101).f0)
def beginR (l : List S101) (id : Int) (key : ByteArray) : List S101 × Int :=
 if checkB l = false ∨ numB id = false ∨ keyB key = false then ([],1)
 else if lastB l id = true then ([],9)
 else if l.length = 10 then ([],6)
 else (l ++ [⟨id,key,[]⟩],0)
theorem num_calls (i : Int) (w : World) : Calls Tryz.prog 78 #[.int .u64 i] w fun e w'=>e = .returned (.bool (numB i)) ∧ Drawn0 w w':=parts_numbered.calls i _ w (num_of i)
theorem key_calls (s : ByteArray) (w : World) : Calls Tryz.prog 77 #[.string s] w fun e w'=>e = .returned (.bool (keyB s)) ∧ Below w.heap.size w w':=name_Key.calls s _ w rfl
theorem outD {w w' : World} (h : Drawn0 w w') : Below w.heap.size w w':=by
 obtain ⟨n,rfl⟩:=h.out
 exact below_drewN _ _ _
theorem begin_fin {w w0 W : World} (l : List S101) (id : Int) (key : ByteArray) (rows : List (List Value)) (hrows : RowsOf k101 w0 l rows) (hb0 : Below w0.heap.size w0 W) (hb : Below w.heap.size w W) (base g cap : Nat)
  (ho : W.ownsRow base 101 3 (.slice (some ⟨g,0,none⟩) (l.length + 1) cap) (l.length + 1) (rows.flatten ++ [.int .u64 id,.string key,.slice none 0 0])) (hl : l.length ≤ 10) :
  ListPost (l ++ [⟨id,key,[]⟩]) [.int .i64 0] w (.returned (.tuple #[.slice (some ⟨g,0,none⟩) (l.length + 1) cap,.int .i64 0])) W:=by
 refine ⟨some ⟨g,0,none⟩,cap,by simp,?_,?_,hb⟩
 ·rcases ho.2 with ⟨h,_⟩ | ⟨g',cap',cur,hv,_,_,hn,_⟩
  ·cases h
  ·injection hv with _ _ e;subst e;simpa using hn
 ·have h1:=(hrows.below hb0).append (RowsOf.one_ (⟨id,key,[]⟩ : S101) [.int .u64 id,.string key,.slice none 0 0] (k101_mk W ⟨id,key,[]⟩ (Nat.le_refl _) (Kd.C_nil _ _)))
  refine rows_C h1 ?_ (by simp;omega)
  have:=own_raw ho
  rwa [List.flatten_append,List.flatten_cons,List.flatten_nil,List.append_nil]
theorem begin_ok.walk (A : Option Addr) (c : Nat) (l : List S101) (id : Int) (key : ByteArray) (w : World) (hr : Kd.C k101 w A l.length l) (hc : l.length ≤ c) (hc1 : checkB l = true) (hn1 : numB id = true) (hk1 : keyB key = true) (hla : lastB l id = false) :
  Calls Tryz.prog 35 #[.slice A l.length c,.int .u64 id,.string key] w (ListPost (if l.length = 10 then [] else l ++ [⟨id,key,[]⟩]) [.int .i64 (if l.length = 10 then 6 else 0)] w):=by
 have HB0 : Hid (Below w.heap.size w w):=Below.refl _ _
 have HK:=zh (check_calls hr hc)
 have HN:=zh (fun W=>num_calls id W)
 have HY:=zh (fun W=>key_calls key W)
 have FIN : Hid (∀ e w',Below w.heap.size w w' → ListPost [] [.int .i64 e] w (.returned (.tuple #[.slice none 0 0,.int .i64 e])) w'):=fun e w' hb=>⟨none,0,rfl,Nat.le_refl _,Kd.C_nil _ _,hb⟩
 have hl10:=(check_fine hc1).1
 rw [hc1] at HK;simp only [hn1] at HN;simp only [hk1] at HY
 have f2 : errB true = 0:=rfl
 rw [f2] at HK
 have HCL : Hid (∀ W,Below w.heap.size w W → Calls Tryz.prog 79 #[.slice A l.length c] W fun e w'=>∃ v rows,e = .returned v ∧ RowsOf k101 W l rows ∧ w'.ownsRow W.heap.size 101 3 v l.length rows.flatten ∧ Below W.heap.size W w'):=fun W hb=>clone34_any (Kd.C_below hr hb) (by omega)
 obtain ⟨i0,hi,hy0,hy1,hy2⟩:=info_parts info101
 clear hc1 hn1 hk1 f2
 unfold lastB at hla
 simp only [Bool.and_eq_false_iff,decide_eq_false_iff_not] at hla
 by_cases h0 : 0 < l.length
 ·obtain ⟨k,hk⟩ : ∃ k,l.length = k + 1:=⟨l.length - 1,by omega⟩
  have hgd : l.getD (l.length - 1) z101 = l[k]'(by omega):=by rw [List.getD_eq_getElem?_getD,show l.length - 1 = k by omega,List.getElem?_eq_getElem (by omega)];rfl
  rw [hgd] at hla
  obtain ⟨ad,rfl⟩:=some_of_lt hr h0
  have HAT : Hid (∀ W,Below w.heap.size w W → W.cell? (ad.add (k * 3)) = some (.int .u64 (l[k]'(by omega)).f0)):=fun W hb=>by
   obtain ⟨ad',_,_,e,h0,_⟩:=atUpload hr hb k (by omega)
   injection e with e;subst e;exact h0
  generalize (l[k]'(by omega)).f0 = x at *
  clear hgd
  have HR:=zh hr
  clear hr
  have q1 : IntKind.i64.wrap ((l.length : Int) - 1) = (k : Int):=by rw [IntKind.wrap_i64];omega
  have q3 : (0 : Int) ≤ (k : Int):=by omega
  have q4 : (k : Int) < (l.length : Int):=by omega
  have d1 : decide ((0 : Int) < (l.length : Int)) = true:=by simp;omega
  have d2 : decide (id ≤ x) = false:=by simp;omega
  have HK1:=zh hk
  by_cases h10 : l.length = 10
  ·have d3 : ((l.length : Int) == 10) = true:=beq_iff_eq.2 (by omega)
   rw [if_pos h10,if_pos h10]
   clear hk hla h0 h10
   go_enter Tryz.func35,Tryz.ntmps35
   go_wp2_with (first | (go_at_call 68;refine HK.out.mono ?_;rintro e w1 ⟨rfl,hb⟩;have HB1:=keepB HB0 hb;clear hb) | (go_at_call 78;refine (HN.out _).mono ?_;rintro e w2 ⟨rfl,hb⟩;have HB2:=keepB HB1 (outD hb);clear hb) | (go_at_call 77;refine (HY.out _).mono ?_;rintro e w3 ⟨rfl,hb⟩;have HB3:=keepB HB2 hb;have c0:=HAT.out _ HB3.out;clear hb))
   go_ret2
   exact FIN.out _ _ HB3.out
  ·have d3 : ((l.length : Int) == 10) = false:=beq_eq_false_iff_ne.2 (by omega)
   rw [if_neg h10,if_neg h10]
   clear hk hla h0 h10
   go_enter Tryz.func35,Tryz.ntmps35
   go_wp2_with (first | (go_at_call 68;refine HK.out.mono ?_;rintro e w1 ⟨rfl,hb⟩;have HB1:=keepB HB0 hb;clear hb) | (go_at_call 78;refine (HN.out _).mono ?_;rintro e w2 ⟨rfl,hb⟩;have HB2:=keepB HB1 (outD hb);clear hb) | (go_at_call 77;refine (HY.out _).mono ?_;rintro e w3 ⟨rfl,hb⟩;have HB3:=keepB HB2 hb;have c0:=HAT.out _ HB3.out;clear hb) | (go_at_call 79;refine (HCL.out _ (outB HB3)).mono ?_;rintro e w4 ⟨v1,rows,rfl,hrows,hown,hb4⟩;have HROWS:=zh hrows;have HX4:=zh hb4;have HO4:=zh hown;have HS4:=zh hb4.size;clear hrows hown hb4) | (at_builtin;refine wpList_append_lies _ rfl _ _ 23 rfl w3.heap.size 101 i0 (.agg #[(.int .u64 0),(.string ⟨#[]⟩),(.slice none 0 0)]) 3 48 Tryz.underlying23 hi hy0 hy1 hy2 rfl (by decide) _ _ _ rfl (HO4.out.alloc _) ⟨w4.heap.size,0,none⟩ 1 1 [.int .u64 id,.string key,.slice none 0 0] rfl rfl ?c1 ?c2 (by decide) ?c3 ?c4 ?c5 _ rfl ?_))
   case c1=>exact World.news_of_block (blk_new w4 _)
   case c2=>exact (by intro u hu;simp at hu;rcases hu with rfl | rfl | rfl <;> rfl)
   case c3=>unfold maxLen;omega
   case c4=>omega
   case c5=>have:=HS4.out;simp;omega
   intro g cap w5 hown' hgrow _ _
   have HX5:=zh ((HX4.out.alloc HX4.out.size (.cells #[.int .u64 id,.string key,.slice none 0 0] 101)).grown hgrow (by have:=HX4.out.size;simp;omega) (fun q hq=>own_base HO4.out q hq))
   have HO5:=zh hown'
   clear hown' hgrow
   go_wp2
   go_ret2
   exact begin_fin l id key rows HROWS.out HX5.out (keepB HB3 HX5.out).out _ g cap HO5.out hl10
 ·obtain rfl : l = []:=List.length_eq_zero_iff.1 (by omega)
  have HR:=zh hr
  rw [if_neg (by decide),if_neg (by decide)]
  clear hla h0 hr
  simp only [List.length_nil] at *
  go_enter Tryz.func35,Tryz.ntmps35
  go_wp2_with (first | (go_at_call 68;refine HK.out.mono ?_;rintro e w1 ⟨rfl,hb⟩;have HB1:=keepB HB0 hb;clear hb) | (go_at_call 78;refine (HN.out _).mono ?_;rintro e w2 ⟨rfl,hb⟩;have HB2:=keepB HB1 (outD hb);clear hb) | (go_at_call 77;refine (HY.out _).mono ?_;rintro e w3 ⟨rfl,hb⟩;have HB3:=keepB HB2 hb; clear hb) | (go_at_call 79;refine (HCL.out _ (outB HB3)).mono ?_;rintro e w4 ⟨v1,rows,rfl,hrows,hown,hb4⟩;have HROWS:=zh hrows;have HX4:=zh hb4;have HO4:=zh hown;have HS4:=zh hb4.size;clear hrows hown hb4) | (at_builtin;refine wpList_append_lies _ rfl _ _ 23 rfl w3.heap.size 101 i0 (.agg #[(.int .u64 0),(.string ⟨#[]⟩),(.slice none 0 0)]) 3 48 Tryz.underlying23 hi hy0 hy1 hy2 rfl (by decide) _ _ _ rfl (HO4.out.alloc _) ⟨w4.heap.size,0,none⟩ 1 1 [.int .u64 id,.string key,.slice none 0 0] rfl rfl ?c1 ?c2 (by decide) ?c3 ?c4 ?c5 _ rfl ?_))
  case c1=>exact World.news_of_block (blk_new w4 _)
  case c2=>exact (by intro u hu;simp at hu;rcases hu with rfl | rfl | rfl <;> rfl)
  case c3=>unfold maxLen;omega
  case c4=>omega
  case c5=>have:=HS4.out;simp;omega
  intro g cap w5 hown' hgrow _ _
  have HX5:=zh ((HX4.out.alloc HX4.out.size (.cells #[.int .u64 id,.string key,.slice none 0 0] 101)).grown hgrow (by have:=HX4.out.size;simp;omega) (fun q hq=>own_base HO4.out q hq))
  have HO5:=zh hown'
  clear hown' hgrow
  go_wp2
  go_ret2
  exact begin_fin [] id key rows HROWS.out HX5.out (keepB HB3 HX5.out).out _ g cap HO5.out (by decide)
theorem begin.walk (A : Option Addr) (c : Nat) (l : List S101) (id : Int) (key : ByteArray) (w : World) (hr : Kd.C k101 w A l.length l) (hc : l.length ≤ c) :
  Calls Tryz.prog 35 #[.slice A l.length c,.int .u64 id,.string key] w (ListPost (beginR l id key).1 [.int .i64 (beginR l id key).2] w):=by
 have HB0 : Hid (Below w.heap.size w w):=Below.refl _ _
 have HK:=zh (check_calls hr hc)
 have HN:=zh (fun W=>num_calls id W)
 have HY:=zh (fun W=>key_calls key W)
 have FIN : Hid (∀ e w',Below w.heap.size w w' → ListPost [] [.int .i64 e] w (.returned (.tuple #[.slice none 0 0,.int .i64 e])) w'):=fun e w' hb=>⟨none,0,rfl,Nat.le_refl _,Kd.C_nil _ _,hb⟩
 by_cases hbad : checkB l = false ∨ numB id = false ∨ keyB key = false
 ·have e : beginR l id key = ([],1):=by unfold beginR;rw [if_pos hbad]
  rw [e]
  clear e
  cases h1 : checkB l <;> cases h2 : numB id <;> cases h3 : keyB key
  all_goals first
   | (exfalso;simp [h1,h2,h3] at hbad;done)
   | skip
  all_goals
   rw [h1] at HK
   simp only [h2] at HN
   simp only [h3] at HY
   have f1 : errB false = 1:=rfl
   have f2 : errB true = 0:=rfl
   first | rw [f1] at HK | rw [f2] at HK
   clear hbad h1 h2 h3 f1 f2
   go_enter Tryz.func35,Tryz.ntmps35
   go_wp2_with (first | (go_at_call 68;refine HK.out.mono ?_;rintro e w1 ⟨rfl,hb⟩;have HB1:=keepB HB0 hb;clear hb) | (go_at_call 78;refine (HN.out _).mono ?_;rintro e w2 ⟨rfl,hb⟩;have HB1:=keepB HB1 (outD hb);clear hb) | (go_at_call 77;refine (HY.out _).mono ?_;rintro e w3 ⟨rfl,hb⟩;have HB1:=keepB HB1 hb;clear hb))
   go_ret2
   exact FIN.out _ _ HB1.out
 ·have hc1 : checkB l = true:=by cases h : checkB l <;> simp_all
  have hn1 : numB id = true:=by cases h : numB id <;> simp_all
  have hk1 : keyB key = true:=by cases h : keyB key <;> simp_all
  rw [hc1] at HK;simp only [hn1] at HN;simp only [hk1] at HY
  have f2 : errB true = 0:=rfl
  rw [f2] at HK
  have hl10:=(check_fine hc1).1
  have E : Hid (beginR l id key = if lastB l id = true then ([],9) else if l.length = 10 then ([],6) else (l ++ [⟨id,key,[]⟩],0)):=by unfold Hid beginR;rw [if_neg hbad]
  have CHK:=hc1;have NUMB:=hn1;have KEYB:=hk1
  clear hbad hc1 hn1 hk1 f2
  cases hla : lastB l id
  ·rw [if_neg (by simp [hla])] at E
   rw [E.out]
   have:=begin_ok.walk A c l id key w hr hc CHK NUMB KEYB hla
   by_cases h10 : l.length = 10
   ·rw [if_pos h10];rwa [if_pos h10,if_pos h10] at this
   ·rw [if_neg h10];rwa [if_neg h10,if_neg h10] at this
  ·rw [if_pos hla] at E
   unfold lastB at hla
   simp only [Bool.and_eq_true,decide_eq_true_eq] at hla
   obtain ⟨h0,hle⟩:=hla
   obtain ⟨k,hk⟩ : ∃ k,l.length = k + 1:=⟨l.length - 1,by omega⟩
   have hgd : l.getD (l.length - 1) z101 = l[k]'(by omega):=by rw [List.getD_eq_getElem?_getD,show l.length - 1 = k by omega,List.getElem?_eq_getElem (by omega)];rfl
   rw [hgd] at hle
   obtain ⟨ad,rfl⟩:=some_of_lt hr h0
   have HAT : Hid (∀ W,Below w.heap.size w W → W.cell? (ad.add (k * 3)) = some (.int .u64 (l[k]'(by omega)).f0)):=fun W hb=>by
    obtain ⟨ad',_,_,e,h0,_⟩:=atUpload hr hb k (by omega)
    injection e with e;subst e;exact h0
   generalize (l[k]'(by omega)).f0 = x at *
   clear CHK NUMB KEYB
   clear hr hgd
   have q1 : IntKind.i64.wrap ((l.length : Int) - 1) = (k : Int):=by rw [IntKind.wrap_i64];omega
   have q3 : (0 : Int) ≤ (k : Int):=by omega
   have q4 : (k : Int) < (l.length : Int):=by omega
   have d1 : decide ((0 : Int) < (l.length : Int)) = true:=by simp;omega
   have d2 : decide (id ≤ x) = true:=by simp;omega
   have HK1:=zh hk
   have HLE:=zh hle
   clear hk hle h0
   go_enter Tryz.func35,Tryz.ntmps35
   go_wp2_with (first | (go_at_call 68;refine HK.out.mono ?_;rintro e w1 ⟨rfl,hb⟩;have HB1:=keepB HB0 hb;clear hb) | (go_at_call 78;refine (HN.out _).mono ?_;rintro e w2 ⟨rfl,hb⟩;have HB2:=keepB HB1 (outD hb);clear hb) | (go_at_call 77;refine (HY.out _).mono ?_;rintro e w3 ⟨rfl,hb⟩;have HB3:=keepB HB2 hb;have c0:=HAT.out _ HB3.out;clear hb))
   go_ret2
   rw [E.out]
   exact FIN.out _ _ HB3.out
end
section
open Go.WideMaps Go.Maps
def z25v : Value:=.agg #[(.int .u64 0),(.string ⟨#[]⟩),(.slice none 0 0)]
def z25L (n : Nat) : List Value:=(Builtin.zeroCells z25v.cells n).toList
theorem z101_one (n : Nat) : ∀ v ∈ z25L n,v.oneCell' = true:=zero_one (by simp [z25v,Value.cells,Value.oneCell']) (by decide) n
theorem z101_len (n : Nat) : (z25L n).length = n * 3:=by unfold z25L;rw [Array.length_toList,size_zeroCells];rfl
def delAt (xs : List Value) (i : Nat) : List Value:=xs.take (i * 3) ++ xs.drop ((i + 1) * 3)
def DelPost (base n i : Nat) (v : Value) (xs : List Value) (w : World) (e : Ending) (w' : World) : Prop :=
 ∃ v',e = .returned v' ∧ w'.ownsRow base 101 3 v' (n - 1) (delAt xs i) ∧ w.grownBy w' v.ownBlock
theorem delete.walk (base n i : Nat) (v : Value) (xs : List Value) (w : World) (hown : w.ownsRow base 101 3 v n xs) (hi : i < n) (hn : n ≤ 1000) (h1 : ∀ u ∈ xs,u.oneCell' = true) :
  Calls Tryz.prog 102 #[v,.int .i64 i,.int .i64 ((i : Int) + 1)] w (DelPost base n i v xs w):=by
 obtain ⟨hx,hv⟩:=hown
 rcases hv with ⟨_,h0⟩ | ⟨g,cap,cur,rfl,hb,hg,hcap,hmx,hsz,htk⟩
 ·omega
 obtain ⟨i0,hi0,hy0,hy1,hy2⟩:=info_parts info101
 have HG:=zh hg;clear hg
 have HX:=zh hx;have HT:=zh htk;have HSZ:=zh hsz;have HMX:=zh hmx
 unfold maxLen at hmx
 have l0 : (xs.take (i * 3)).length = i * 3:=by rw [List.length_take,hx];omega
 have l1 : (xs.drop ((i + 1) * 3)).length = (n - (i + 1)) * 3:=by rw [List.length_drop,hx];omega
 have HO0 : Hid (w.drew.ownsRow base 101 3 (.slice (some ⟨g,0,none⟩) i cap) i (xs.take (i * 3))):=by
  refine ⟨l0,Or.inr ⟨g,cap,cur,rfl,hb,HG.out,by omega,HMX.out,hsz,?_⟩⟩
  rw [← htk,List.take_take,Nat.min_eq_left (by omega)]
 have HD : Hid (∀ (j : Nat) (u : Value),(xs.drop ((i + 1) * 3))[j]? = some u → w.drew.cell? ((⟨g,(i + 1) * 3,none⟩ : Addr).add j) = some u):=fun j u hu=>by
  rw [add_at]
  show w.cell? _ = _
  rw [blk_cell HG.out]
  rw [List.getElem?_drop,← htk,List.getElem?_take] at hu
  split at hu
  ·simpa using hu
  ·cases hu
 have HL1:=zh l1
 have HONE : Hid (∀ u ∈ xs.drop ((i + 1) * 3),u.oneCell' = true):=fun u hu=>h1 u (List.mem_of_mem_drop hu)
 have HONE1:=zh h1
 clear l0 l1 hx htk hsz hmx h1
 have d0 : (0 : Int) ≤ (i : Int):=by omega
 have d1 : (i : Int) ≤ (i : Int) + 1:=by omega
 have d2 : (i : Int) + 1 ≤ (n : Int):=by omega
 have d3 : (n : Int) ≤ (cap : Int):=by omega
 have d4 : ((i : Int) == (i : Int) + 1) = false:=beq_eq_false_iff_ne.2 (by omega)
 have d5 : (i : Int) ≤ (cap : Int):=by omega
 have d6 : (i : Int) + 1 ≤ (cap : Int):=by omega
 have d7 : (0 : Int) ≤ (i : Int) + 1:=by omega
 have q2 : ((i : Int) + 1).toNat = i + 1:=by omega
 go_enter Tryz.func102,Tryz.ntmps102
 go_wp2_with fail
 go_still_tail 6,(by kernel_rfl)
 change wpList _ _ _ _ _ w.drew
 have END : Hid (∀ (w2 : World),w2.ownsRow base 101 3 (.slice (some ⟨g,0,none⟩) (n - 1) cap) (n - 1) (delAt xs i) → w.grownBy w2 (some g) → ∃ cur2,w2.heap[g]? = some (.cells cur2 101 (0,0)) ∧ (n - 1) * 3 + 1 * 3 ≤ cur2.size ∧
   ∀ w3,w3 = w2.setRow g (splice cur2.toList ((n - 1) * 3) (z25L 1)).toArray → w3.ownsRow base 101 3 (.slice (some ⟨g,0,none⟩) (n - 1) cap) (n - 1) (delAt xs i) ∧ w.grownBy w3 (some g)):=by
  intro w2 ho hgr
  obtain ⟨hlx,hc⟩:=ho
  rcases hc with ⟨e,_⟩ | ⟨g',cap',cur2,e,hb',hg',hcap',hmx',hsz',htk'⟩
  ·cases e
  ·injection e with e1 e2 e3
   injection e1 with e1
   injection e1 with e1 _ _
   subst e1 e3
   refine ⟨cur2,hg',by omega,fun w3 hw3=>?_⟩
   have hsp : (splice cur2.toList ((n - 1) * 3) (z25L 1)).length = cap * 3:=by
    rw [length_splice _ _ _ (by rw [z101_len,Array.length_toList];omega),Array.length_toList];exact hsz'
   refine ⟨⟨hlx,Or.inr ⟨g,cap,_,rfl,hb,by rw [hw3];exact setRow_heap _ _ _ _ _ _ hg',by omega,HMX.out,by rw [List.size_toArray];exact hsp,?_⟩⟩,?_⟩
   ·rw [← htk']
    show (splice cur2.toList ((n - 1) * 3) (z25L 1)).take ((n - 1) * 3) = _
    unfold splice
    rw [List.take_left' (by rw [List.length_take,Array.length_toList];omega)]
   ·rw [hw3]
    exact ⟨hgr.os,hgr.tape,hgr.output,by simpa [World.setRow] using hgr.size,fun k hk hne=>(setRow_other _ _ _ _ (fun e=>hne (by rw [e]))).trans (hgr.block k hk hne)⟩
 have hm : Hid (i + (n - (i + 1)) = n - 1):=by unfold Hid;omega
 obtain ⟨ad,had,hcells⟩ : ∃ ad,Hid ((if cap = i + 1 then some (⟨g,0,none⟩ : Addr) else some ⟨g,(i + 1) * 3,none⟩) = some ad) ∧ Hid (∀ (j : Nat) (u : Value),(xs.drop ((i + 1) * 3))[j]? = some u → w.drew.cell? (ad.add j) = some u):=by
  by_cases hcp : cap = i + 1
  ·refine ⟨⟨g,0,none⟩,if_pos hcp,fun j u hu=>?_⟩
   rw [List.drop_eq_nil_of_le (by rw [HX.out];omega)] at hu
   simp at hu
  ·exact ⟨⟨g,(i + 1) * 3,none⟩,if_neg hcp,HD.out⟩
 have hroom : i + (n - (i + 1)) ≤ cap:=by omega
 rw [had.out]
 refine wpList_append_own_spare _ rfl (.tmp 22) (.tmp 25) 23 rfl base 101 i0 3 Tryz.underlying23 hi0 hy1 g i cap (xs.take (i * 3)) rfl HO0.out ad (n - (i + 1)) (cap - (i + 1)) (xs.drop ((i + 1) * 3)) rfl HL1.out hcells.out HONE.out hroom ?_
 rw [hm.out]
 intro w2 ho2 hg2
 obtain ⟨cur2,hc2,hfit,hend⟩:=END.out w2 ho2 ((show w.grownBy w2 (some g) from ⟨hg2.os,hg2.tape,hg2.output,hg2.size,hg2.block⟩))
 have HC2:=zh hc2;have HF:=zh hfit;have HEND:=zh hend
 clear ho2 hg2 hc2 hfit hend hcells had HD
 obtain ⟨m,hnm⟩ : ∃ m,n = m + 1:=⟨n - 1,by omega⟩
 subst hnm
 simp only [Nat.add_sub_cancel] at *
 have e0 : ¬ cap = m:=by omega
 have e1 : (m : Int) ≤ (m : Int) + 1:=by omega
 have e2 : (m : Int) + 1 ≤ (cap : Int):=by omega
 have e3 : (0 : Int) ≤ (m : Int):=by omega
 have e4 : (m : Int) ≤ (cap : Int):=by omega
 clear q2
 have HZ1:=zh (z101_one 1)
 go_wp2_with fail
 rw [run_clear_cells w2 23 0 101 i0 z25v Tryz.underlying23 hi0 hy0 g (m * 3) 1 (cap - m) cur2 101 HC2.out (by decide) HF.out HZ1.out]
 obtain ⟨w3,hw3⟩ : ∃ w3,Hid (w3 = w2.setRow g (splice cur2.toList (m * 3) (z25L 1)).toArray):=⟨_,rfl⟩
 rw [show (Builtin.zeroCells z25v.cells 1).toList = z25L 1 from rfl,← hw3.out]
 go_wp2_with fail
 go_ret
 obtain ⟨r1,r2⟩:=HEND.out w3 hw3.out
 exact ⟨_,rfl,r1,r2⟩
end
section
open Go.WideMaps Go.Maps
def delL {α : Type} (l : List α) (i : Nat) : List α:=l.take i ++ l.drop (i + 1)
def abortR (l : List S101) (id : Int) : List S101 × Int :=
 if checkB l = false then ([],1) else match posU l id with | none=>([],4) | some i=>(delL l i,0)
theorem flat_del {rows : List (List Value)} (h : ∀ c ∈ rows,c.length = 3) (i : Nat) : delAt rows.flatten i = (delL rows i).flatten:=by
 have tk : ∀ (rs : List (List Value)),(∀ c ∈ rs,c.length = 3) → ∀ j,rs.flatten.take (j * 3) = (rs.take j).flatten ∧ rs.flatten.drop (j * 3) = (rs.drop j).flatten:=by
  intro rs
  induction rs with
  | nil=>intro _ j;simp
  | cons c rs ih =>
   intro hc j
   have h3:=hc c List.mem_cons_self
   cases j with
   | zero=>simp
   | succ j =>
    obtain ⟨i1,i2⟩:=ih (fun x hx=>hc x (List.mem_cons_of_mem _ hx)) j
    rw [List.flatten_cons,List.take_succ_cons,List.drop_succ_cons,List.flatten_cons,← i1,← i2]
    constructor
    ·rw [List.take_append,List.take_of_length_le (by omega),show (j + 1) * 3 - c.length = j * 3 by omega]
    ·rw [List.drop_append,List.drop_eq_nil_of_le (by omega),List.nil_append,show (j + 1) * 3 - c.length = j * 3 by omega]
 unfold delAt delL
 rw [(tk rows h i).1,(tk rows h (i + 1)).2,List.flatten_append]
theorem own_list {W w' : World} {l : List S101} {rows : List (List Value)} {base n : Nat} {v : Value} (hrows : RowsOf k101 W l rows) (hb : Below W.heap.size W w') (ho : w'.ownsRow base 101 3 v n rows.flatten) (hn : n = l.length) (hl : l.length ≤ 1000000) :
  ∃ A c,v = .slice A l.length c ∧ l.length ≤ c ∧ Kd.C k101 w' A l.length l:=by
 subst hn
 rcases ho.2 with ⟨rfl,h0⟩ | ⟨g,cap,cur,rfl,_,hg,hcap,_,_,htk⟩
 ·have : l = []:=List.length_eq_zero_iff.1 h0
  subst this
  exact ⟨none,0,rfl,Nat.le_refl _,Kd.C_nil _ _⟩
 ·exact ⟨_,cap,rfl,hcap,rows_C (hrows.below hb) (blk_raw hg _ htk) (by omega)⟩
theorem delL_len {α : Type} (l : List α) (i : Nat) (h : i < l.length) : (delL l i).length = l.length - 1:=by
 unfold delL;rw [List.length_append,List.length_take,List.length_drop];omega
theorem abort.walk (A : Option Addr) (c : Nat) (l : List S101) (id : Int) (w : World) (hr : Kd.C k101 w A l.length l) (hc : l.length ≤ c) :
  Calls Tryz.prog 47 #[.slice A l.length c,.int .u64 id] w (ListPost (abortR l id).1 [.int .i64 (abortR l id).2] w):=by
 have HB0 : Hid (Below w.heap.size w w):=Below.refl _ _
 have HP:=zh (place.walk A c l id w hr hc)
 have FIN : Hid (∀ e w',Below w.heap.size w w' → ListPost [] [.int .i64 e] w (.returned (.tuple #[.slice none 0 0,.int .i64 e])) w'):=fun e w' hb=>⟨none,0,rfl,Nat.le_refl _,Kd.C_nil _ _,hb⟩
 have hbad : ∀ e : Int,e ≠ 0 → placeR l id = (0,e) → Calls Tryz.prog 47 #[.slice A l.length c,.int .u64 id] w (ListPost [] [.int .i64 e] w):=by
  intro e he hp
  rw [hp] at HP
  have hd : (e != 0) = true:=by simpa using he
  clear hr hp he
  go_enter Tryz.func47,Tryz.ntmps47
  go_wp2_with (go_at_call 87;refine HP.out.mono ?_;rintro x w1 ⟨rfl,hb⟩;have HB1:=zh hb;clear hb)
  go_ret2
  exact FIN.out _ _ HB1.out
 cases hk : checkB l
 ·have e1 : abortR l id = ([],1):=by unfold abortR;rw [if_pos hk]
  rw [e1]
  exact hbad 1 (by decide) (by unfold placeR;rw [if_pos hk])
 ·cases hp : posU l id with
  | none =>
   have e1 : abortR l id = ([],4):=by unfold abortR;rw [if_neg (by rw [hk];simp),hp]
   rw [e1]
   exact hbad 4 (by decide) (by unfold placeR;rw [if_neg (by rw [hk];simp),hp])
  | some i =>
   have e1 : abortR l id = (delL l i,0):=by unfold abortR;rw [if_neg (by rw [hk];simp),hp]
   have e2 : placeR l id = ((i : Int),0):=by unfold placeR;rw [if_neg (by rw [hk];simp),hp]
   rw [e1]
   rw [e2] at HP
   obtain ⟨hi,_⟩:=posU_lt hp
   have hl10:=(check_fine hk).1
   have HCL : Hid (∀ W,Below w.heap.size w W → Calls Tryz.prog 79 #[.slice A l.length c] W fun e w'=>∃ v rows,e = .returned v ∧ RowsOf k101 W l rows ∧ w'.ownsRow W.heap.size 101 3 v l.length rows.flatten ∧ Below W.heap.size W w'):=fun W hb=>clone34_any (Kd.C_below hr hb) (by omega)
   clear hbad hk hp e1 e2 hr
   have q1 : IntKind.i64.wrap ((i : Int) + 1) = (i : Int) + 1:=by rw [IntKind.wrap_i64];omega
   go_enter Tryz.func47,Tryz.ntmps47
   go_wp2_with (first
    | (go_at_call 87;refine HP.out.mono ?_;rintro x w1 ⟨rfl,hb⟩;have HB1:=zh hb;clear hb)
    | (go_at_call 79;refine (HCL.out _ HB1.out).mono ?_;rintro e w4 ⟨v1,rows,rfl,hrows,hown,hb4⟩;have HROWS:=zh hrows;have HX4:=zh hb4;have HO4:=zh hown;clear hrows hown hb4)
    | (go_at_call 102;refine (delete.walk _ _ i _ _ _ HO4.out hi (by omega) HROWS.out.one).mono ?_;rintro e w5 ⟨v2,rfl,ho5,hg5⟩;have HO5:=zh ho5;have HG5:=zh hg5;clear ho5 hg5))
   have HX5:=HX4.out.grown HG5.out HX4.out.size (fun q hq=>own_base HO4.out q hq)
   have ho:=HO5.out
   rw [flat_del HROWS.out.lens] at ho
   have hrows2 : RowsOf k101 w1 (delL l i) (delL rows i):=(HROWS.out.take i).append (HROWS.out.drop (i + 1))
   obtain ⟨A2,c2,rfl,h2,h3⟩:=own_list hrows2 HX5 ho (delL_len l i hi).symm (by rw [delL_len l i hi];omega)
   go_ret2
   exact ⟨A2,c2,rfl,h2,h3,HB1.out.trans (HX5.mono HB1.out.size)⟩
end
section
open Go.WideMaps Go.Maps
theorem isz_bucket : (Tryz.prog.info? 26).map (·.size) = some 5:=by kernel_rfl
def noR (wrong : Bool) (er e : Int) : Int:=if wrong = true ∧ e = 0 then er else e
theorem noR_f (er e : Int) : noR false er e = e:=by unfold noR;rw [if_neg (by simp)]
theorem noR_0 (er : Int) : noR true er 0 = er:=by unfold noR;rw [if_pos ⟨rfl,rfl⟩]
theorem noR_n {er e : Int} (h : e ≠ 0) : noR true er e = e:=by unfold noR;rw [if_neg (fun x=>h x.2)]
theorem no.walk (g : Nat) (c0 c1 c2 c3 c4 : Value) (e er : Int) (wrong : Bool) (w : World) (h : w.heap[g]? = some (.cells #[c0,c1,c2,c3,c4,.int .i64 e] 87 (0,0))) :
  Calls Tryz.prog 45 #[.pointer (some ⟨g,0,none⟩),.bool wrong,.int .i64 er] w fun x w'=>x = .returned (.tuple #[]) ∧ Hid (w'.heap[g]? = some (.cells #[c0,c1,c2,c3,c4,.int .i64 (noR wrong er e)] 87 (0,0))) ∧ Hid (Only g w w'):=by
 have H:=zh h
 have d5:=zb h 5 (.int .i64 e)
 clear h
 cases wrong
 ·rw [noR_f]
  go_enter Tryz.func45,Tryz.ntmps45
  go_wp2
  go_end0
  exact ⟨rfl,H,Only.refl _ _⟩
 ·by_cases h0 : e = 0
  ·subst h0
   rw [noR_0]
   go_enter Tryz.func45,Tryz.ntmps45
   go_wp2_with ((with_reducible refine gate_store (t:=30) (p:=17) (v:=.tmp 15) rfl ?_);go_must (refine zq 30 (.tmp 17) (.tmp 15) g 5 87 (.int .i64 er) H (by kernel_rfl) ?_;intro w1 hk1 ho1))
   go_end0
   exact ⟨rfl,hk1,ho1⟩
  ·rw [noR_n h0]
   have d0 : (e == 0) = false:=beq_eq_false_iff_ne.2 h0
   clear h0
   go_enter Tryz.func45,Tryz.ntmps45
   go_wp2
   go_end0
   exact ⟨rfl,H,Only.refl _ _⟩
theorem only_trans {g : Nat} {w w1 w2 : World} (h : Hid (Only g w w1)) (k : Hid (Only g w1 w2)) : Hid (Only g w w2):=h.out.trans k.out
theorem next.walk (g : Nat) (c0 c1 c2 c3 : Value) (last e : Int) (w : World) (h : w.heap[g]? = some (.cells #[c0,c1,c2,c3,.int .u64 last,.int .i64 e] 87 (0,0))) :
  Calls Tryz.prog 33 #[.pointer (some ⟨g,0,none⟩)] w fun x w'=>x = .returned (.int .u64 (IntKind.u64.wrap (last + 1))) ∧ Hid (w'.heap[g]? = some (.cells #[c0,c1,c2,c3,.int .u64 (IntKind.u64.wrap (last + 1)),.int .i64 (noR (decide (281474976710655 ≤ last)) 6 e)] 87 (0,0))) ∧ Hid (Only g w w'):=by
 have H:=zh h
 have d4:=zb h 4 (.int .u64 last)
 by_cases hl : 281474976710655 ≤ last
 ·have dl : decide (281474976710655 ≤ last) = true:=decide_eq_true hl
  rw [dl]
  have HN:=zh (no.walk g c0 c1 c2 c3 (.int .u64 last) e 6 true w h)
  generalize noR true 6 e = e2 at *
  clear h
  generalize hwl : IntKind.u64.wrap (last + 1) = l2 at *
  go_enter Tryz.func33,Tryz.ntmps33
  go_wp2_with (first
   | (go_at_call 45;go_must (refine HN.out.mono ?_;rintro x w1 ⟨rfl,hk1,ho1⟩;have HK1:=hk1;have HO1:=ho1;have a4:=zb hk1.out 4 (.int .u64 last);clear hk1 ho1))
   | ((with_reducible refine gate_store (t:=24) (p:=19) (v:=.tmp 16) rfl ?_);go_must (refine zq 24 (.tmp 19) (.tmp 16) g 4 87 (.int .u64 l2) HK1 (by kernel_rfl) ?_;intro w2 hk2 ho2;have b4:=zb hk2.out 4 (.int .u64 l2))))
  go_ret
  exact ⟨rfl,hk2,only_trans HO1 ho2⟩
 ·have dl : decide (281474976710655 ≤ last) = false:=decide_eq_false hl
  rw [dl]
  have HN:=zh (no.walk g c0 c1 c2 c3 (.int .u64 last) e 6 false w h)
  generalize noR false 6 e = e2 at *
  clear h
  generalize hwl : IntKind.u64.wrap (last + 1) = l2 at *
  go_enter Tryz.func33,Tryz.ntmps33
  go_wp2_with (first
   | (go_at_call 45;go_must (refine HN.out.mono ?_;rintro x w1 ⟨rfl,hk1,ho1⟩;have HK1:=hk1;have HO1:=ho1;have a4:=zb hk1.out 4 (.int .u64 last);clear hk1 ho1))
   | ((with_reducible refine gate_store (t:=24) (p:=19) (v:=.tmp 16) rfl ?_);go_must (refine zq 24 (.tmp 19) (.tmp 16) g 4 87 (.int .u64 l2) HK1 (by kernel_rfl) ?_;intro w2 hk2 ho2;have b4:=zb hk2.out 4 (.int .u64 l2))))
  go_ret
  exact ⟨rfl,hk2,only_trans HO1 ho2⟩
theorem uploadsW.walk (g : Nat) (c0 c1 c2 c3 c4 : Value) (A : Option Addr) (n c : Nat) (e er : Int) (w : World) (h : w.heap[g]? = some (.cells #[c0,c1,c2,c3,c4,.int .i64 e] 87 (0,0))) :
  Calls Tryz.prog 34 #[.pointer (some ⟨g,0,none⟩),.slice A n c,.int .i64 er] w fun x w'=>x = .returned (.tuple #[]) ∧ Hid (w'.heap[g]? = some (.cells #[c0,c1,c2,.slice A n c,c4,.int .i64 (noR (!(er == 0)) er e)] 87 (0,0))) ∧ Hid (Only g w w'):=by
 cases hq : (er == 0)
 ·have HN:=zh (no.walk g c0 c1 c2 c3 c4 e er true w h)
  rw [show (!false) = true from rfl]
  have hq' : (er != 0) = true:=by rw [bne,hq];rfl
  generalize noR true er e = e2 at *
  clear h
  go_enter Tryz.func34,Tryz.ntmps34
  go_wp2_with (first
   | (go_at_call 45;go_must (refine HN.out.mono ?_;rintro x w1 ⟨rfl,hk1,ho1⟩;have HK1:=hk1;have HO1:=ho1;clear hk1 ho1))
   | ((with_reducible refine gate_store (t:=23) (p:=15) (v:=.tmp 12) rfl ?_);go_must (refine zq 23 (.tmp 15) (.tmp 12) g 3 87 (.slice A n c) HK1 (by kernel_rfl) ?_;intro w2 hk2 ho2)))
  go_end0
  exact ⟨rfl,hk2,only_trans HO1 ho2⟩
 ·have HN:=zh (no.walk g c0 c1 c2 c3 c4 e er false w h)
  rw [show (!true) = false from rfl]
  have hq' : (er != 0) = false:=by rw [bne,hq];rfl
  generalize noR false er e = e2 at *
  clear h
  go_enter Tryz.func34,Tryz.ntmps34
  go_wp2_with (first
   | (go_at_call 45;go_must (refine HN.out.mono ?_;rintro x w1 ⟨rfl,hk1,ho1⟩;have HK1:=hk1;have HO1:=ho1;clear hk1 ho1))
   | ((with_reducible refine gate_store (t:=23) (p:=15) (v:=.tmp 12) rfl ?_);go_must (refine zq 23 (.tmp 15) (.tmp 12) g 3 87 (.slice A n c) HK1 (by kernel_rfl) ?_;intro w2 hk2 ho2)))
  go_end0
  exact ⟨rfl,hk2,only_trans HO1 ho2⟩
end
section
open Go.WideMaps Go.Maps
def openR (b : S26) (key : ByteArray) : Int:=if bucketB b = false ∨ keyB key = false then 1 else 0
def OpenPost (b : S26) (A2 : Option Addr) (c2 : Nat) (A3 : Option Addr) (c3 : Nat) (er : Int) (w : World) (e : Ending) (w' : World) : Prop :=
 ∃ g,e = .returned (.pointer (some ⟨g,0,none⟩)) ∧ w.heap.size ≤ g ∧ Hid (w'.heap[g]? = some (.cells #[.string b.f0,.int .i64 b.f1,.slice A2 b.f2.length c2,.slice A3 b.f3.length c3,.int .u64 b.f4,.int .i64 er] 87 (0,0))) ∧ Hid (Below w.heap.size w w')
theorem open.walk (b : S26) (A2 A3 : Option Addr) (c2 c3 : Nat) (key : ByteArray) (w : World) (h2 : Kd.C k56 w A2 b.f2.length b.f2) (g2 : b.f2.length ≤ c2) (h3 : Kd.C k101 w A3 b.f3.length b.f3) (g3 : b.f3.length ≤ c3) :
  Calls Tryz.prog 32 #[.agg #[.string b.f0,.int .i64 b.f1,.slice A2 b.f2.length c2,.slice A3 b.f3.length c3,.int .u64 b.f4],.string key] w (OpenPost b A2 c2 A3 c3 (openR b key) w):=by
 have HBK:=zh (fun (W : World) (h : Below w.heap.size w W)=>bucket.walk b A2 A3 c2 c3 W (Kd.C_below h2 h) g2 (Kd.C_below h3 h) g3)
 have HKY:=zh (fun (W : World)=>name_Key.calls key _ W rfl)
 clear h2 h3 g2 g3
 cases q1 : bucketB b
 ·have e : openR b key = noR true 1 0:=by unfold openR;rw [if_pos (Or.inl q1),noR_0]
  rw [e]
  rw [q1,show errB false = 1 from rfl] at HBK
  have HNO:=zh (fun (g : Nat) (W : World) h=>no.walk g (.string b.f0) (.int .i64 b.f1) (.slice A2 b.f2.length c2) (.slice A3 b.f3.length c3) (.int .u64 b.f4) 0 1 true W h)
  clear q1 e
  generalize noR true 1 0 = e2 at *
  go_enter Tryz.func32,Tryz.ntmps32
  go_wp2_with (first
   | ((with_reducible refine gate_dst (N:=2) rfl ?_);go_must (refine box_event ?hg (N:=2) ?hd (cs:=#[.string b.f0,.int .i64 b.f1,.slice A2 b.f2.length c2,.slice A3 b.f3.length c3,.int .u64 b.f4]) (t:=26) ?hr ?_;(case hd=>rfl);(case hg=>rfl);(case hr=>first | (go_simp;done) | (go_simp;rfl));intro gx hgx w1 hb1 hbel1;have KX:=zh hb1;have HB1:=zh hbel1;obtain ⟨x0,x1,x2,x3,x4⟩:=zz5 hb1;clear hb1 hbel1 hgx))
   | ((with_reducible refine gate_dst (N:=8) rfl ?_);go_must (refine box_event ?hg (N:=8) ?hd (cs:=#[.string b.f0,.int .i64 b.f1,.slice A2 b.f2.length c2,.slice A3 b.f3.length c3,.int .u64 b.f4,.int .i64 0]) (t:=87) ?hr ?_;(case hd=>rfl);(case hg=>rfl);(case hr=>first | (go_simp;done) | (go_simp;rfl));intro gw hgw w2 hb2 hbel2;have KW:=zh hb2;have HB2:=keepB HB1 hbel2;have GW:=zh (show w.heap.size ≤ gw by rw [hgw];exact HB1.out.size);have KX2:=zk KX hbel2;obtain ⟨y0,y1,y2,y3,y4⟩:=zz5 KX2.out;clear hb2 hbel2 hgw x0 x1 x2 x3 x4))
   | (go_at_call 25;go_must (refine (HBK.out _ HB2.out).mono ?_;rintro e w3 ⟨rfl,hb⟩;have HB3:=keepB HB2 hb;have KW3:=zk KW hb;clear hb))
   | (go_at_call 45;go_must (refine (HNO.out gw _ KW3.out).mono ?_;rintro e w4 ⟨rfl,hk4,ho4⟩;have HB4:=zo ho4 HB3 GW)))
  go_ret
  exact ⟨gw,rfl,GW.out,hk4,HB4⟩
 ·rw [q1,show errB true = 0 from rfl] at HBK
  cases q2 : keyB key
  all_goals
   rw [q2] at HKY
   have e : openR b key = noR (!(keyB key)) 1 0:=by unfold openR;rw [q2];simp [q1,noR]
   rw [e,q2]
  ·have HNO:=zh (fun (g : Nat) (W : World) h=>no.walk g (.string b.f0) (.int .i64 b.f1) (.slice A2 b.f2.length c2) (.slice A3 b.f3.length c3) (.int .u64 b.f4) 0 1 true W h)
   rw [show (!false) = true from rfl]
   clear q1 e q2
   generalize noR true 1 0 = e2 at *
   go_enter Tryz.func32,Tryz.ntmps32
   go_wp2_with (first
    | ((with_reducible refine gate_dst (N:=2) rfl ?_);go_must (refine box_event ?hg (N:=2) ?hd (cs:=#[.string b.f0,.int .i64 b.f1,.slice A2 b.f2.length c2,.slice A3 b.f3.length c3,.int .u64 b.f4]) (t:=26) ?hr ?_;(case hd=>rfl);(case hg=>rfl);(case hr=>first | (go_simp;done) | (go_simp;rfl));intro gx hgx w1 hb1 hbel1;have KX:=zh hb1;have HB1:=zh hbel1;obtain ⟨x0,x1,x2,x3,x4⟩:=zz5 hb1;clear hb1 hbel1 hgx))
    | ((with_reducible refine gate_dst (N:=8) rfl ?_);go_must (refine box_event ?hg (N:=8) ?hd (cs:=#[.string b.f0,.int .i64 b.f1,.slice A2 b.f2.length c2,.slice A3 b.f3.length c3,.int .u64 b.f4,.int .i64 0]) (t:=87) ?hr ?_;(case hd=>rfl);(case hg=>rfl);(case hr=>first | (go_simp;done) | (go_simp;rfl));intro gw hgw w2 hb2 hbel2;have KW:=zh hb2;have HB2:=keepB HB1 hbel2;have GW:=zh (show w.heap.size ≤ gw by rw [hgw];exact HB1.out.size);have KX2:=zk KX hbel2;obtain ⟨y0,y1,y2,y3,y4⟩:=zz5 KX2.out;clear hb2 hbel2 hgw x0 x1 x2 x3 x4))
    | (go_at_call 25;go_must (refine (HBK.out _ HB2.out).mono ?_;rintro e w3 ⟨rfl,hb⟩;have HB3:=keepB HB2 hb;have KW3:=zk KW hb;clear hb))
    | (go_at_call 77;go_must (refine (HKY.out _).mono ?_;rintro e w5 ⟨rfl,hb⟩;have HB5:=keepB HB3 hb;have KW5:=zk KW3 hb;clear hb))
    | (go_at_call 45;go_must (refine (HNO.out gw _ KW5.out).mono ?_;rintro e w4 ⟨rfl,hk4,ho4⟩;have HB4:=zo ho4 HB5 GW)))
   go_ret
   exact ⟨gw,rfl,GW.out,hk4,HB4⟩
  ·have HNO:=zh (fun (g : Nat) (W : World) h=>no.walk g (.string b.f0) (.int .i64 b.f1) (.slice A2 b.f2.length c2) (.slice A3 b.f3.length c3) (.int .u64 b.f4) 0 1 false W h)
   rw [show (!true) = false from rfl]
   clear q1 e q2
   generalize noR false 1 0 = e2 at *
   go_enter Tryz.func32,Tryz.ntmps32
   go_wp2_with (first
    | ((with_reducible refine gate_dst (N:=2) rfl ?_);go_must (refine box_event ?hg (N:=2) ?hd (cs:=#[.string b.f0,.int .i64 b.f1,.slice A2 b.f2.length c2,.slice A3 b.f3.length c3,.int .u64 b.f4]) (t:=26) ?hr ?_;(case hd=>rfl);(case hg=>rfl);(case hr=>first | (go_simp;done) | (go_simp;rfl));intro gx hgx w1 hb1 hbel1;have KX:=zh hb1;have HB1:=zh hbel1;obtain ⟨x0,x1,x2,x3,x4⟩:=zz5 hb1;clear hb1 hbel1 hgx))
    | ((with_reducible refine gate_dst (N:=8) rfl ?_);go_must (refine box_event ?hg (N:=8) ?hd (cs:=#[.string b.f0,.int .i64 b.f1,.slice A2 b.f2.length c2,.slice A3 b.f3.length c3,.int .u64 b.f4,.int .i64 0]) (t:=87) ?hr ?_;(case hd=>rfl);(case hg=>rfl);(case hr=>first | (go_simp;done) | (go_simp;rfl));intro gw hgw w2 hb2 hbel2;have KW:=zh hb2;have HB2:=keepB HB1 hbel2;have GW:=zh (show w.heap.size ≤ gw by rw [hgw];exact HB1.out.size);have KX2:=zk KX hbel2;obtain ⟨y0,y1,y2,y3,y4⟩:=zz5 KX2.out;clear hb2 hbel2 hgw x0 x1 x2 x3 x4))
    | (go_at_call 25;go_must (refine (HBK.out _ HB2.out).mono ?_;rintro e w3 ⟨rfl,hb⟩;have HB3:=keepB HB2 hb;have KW3:=zk KW hb;clear hb))
    | (go_at_call 77;go_must (refine (HKY.out _).mono ?_;rintro e w5 ⟨rfl,hb⟩;have HB5:=keepB HB3 hb;have KW5:=zk KW3 hb;clear hb))
    | (go_at_call 45;go_must (refine (HNO.out gw _ KW5.out).mono ?_;rintro e w4 ⟨rfl,hk4,ho4⟩;have HB4:=zo ho4 HB5 GW)))
   go_ret
   exact ⟨gw,rfl,GW.out,hk4,HB4⟩
end
section
open Go.WideMaps Go.Maps
theorem idx_vs.walk (f : Nat) (cb : Array Value) (A : Option Addr) (c : Nat) (l : List S47) (p : S47 → Bool) (w : World) (eg : ∀ args w,(callFunc f args).run Tryz.prog w = .ok (.enter f args) w) (hr : Kd.C k47 w A l.length l) (HC : ∀ (k : Nat) (hk : k < l.length) (W : World),Below w.heap.size w W → Calls Tryz.prog f (#[.agg #[.int .u64 l[k].f0,.string l[k].f1,.bool l[k].f2,.int .i64 l[k].f3]] ++ cb) W fun e w'=>e = .returned (.bool (p l[k])) ∧ Below W.heap.size W w') :
  Calls Tryz.prog 159 #[.slice A l.length c,.func (.func f) #[] cb] w fun e w'=>e = .returned (.int .i64 (posI (l.findIdx? p))) ∧ Below w.heap.size w w':=by
 have HR:=zh hr
 have hlen : (l.length : Int) ≤ 9223372036854775807:=by have:=hr.2.1;omega
 have HC:=zh HC
 clear hr
 have HB0 : Hid (Below w.heap.size w w):=Below.refl _ _
 go_enter Tryz.func159,Tryz.ntmps159
 go_wp2
 go_loopw [5,8] (fun _ i wr=>∃ (k : Nat),i = .int .i64 k ∧ k ≤ l.length ∧ Hid (∀ j (hj : j < k) (hl : j < l.length),p l[j] = false) ∧ Hid (Below w.heap.size w wr)) (fun _ i _=>l.length - (intOf i).toNat)
 case atStart=>exact ⟨0,rfl,Nat.zero_le _,fun j hj=>absurd hj (Nat.not_lt_zero _),HB0⟩
 case round =>
  obtain ⟨k,rfl,hk,hall,hb⟩:=hrel
  by_cases hlt : k < l.length
  ·obtain ⟨ad,e',hc0,hc1,hc2,hc3⟩:=atVersion HR.out hb.out k hlt
   subst e'
   have HX:=zh (HC.out k hlt wr hb.out)
   cases hp : p l[k]
   ·have hn : Hid (∀ j (hj : j < k + 1) (hl : j < l.length),p l[j] = false):=fun j hj hl=>by
     rcases Nat.eq_or_lt_of_le (Nat.le_of_lt_succ hj) with rfl | h
     ·exact hp
     ·exact hall.out j h hl
    rw [hp] at HX
    clear hp
    go_wp2_with (refine HX.out.mono ?_;rintro e w1 ⟨rfl,hb1⟩;have HB1:=zh hb1;clear hb1)
    go_roundw
    case rel=>exact ⟨k + 1,by go_num,by omega,hn,keepB hb HB1.out⟩
    case measure=>simp [intOf];omega
   ·have hn : Hid (l.findIdx? p = some k):=by
     unfold Hid
     rw [List.findIdx?_eq_some_iff_getElem]
     exact ⟨hlt,hp,fun j hj=>by rw [hall.out j hj (by omega)];simp⟩
    rw [hp] at HX
    clear hp
    go_wp2_with (refine HX.out.mono ?_;rintro e w1 ⟨rfl,hb1⟩;have HB1:=zh hb1;clear hb1)
    go_ret
    exact ⟨by rw [hn.out];rfl,keepB hb HB1.out⟩
  ·have hn : Hid (l.findIdx? p = none):=by
    unfold Hid
    rw [List.findIdx?_eq_none_iff]
    intro u hu
    obtain ⟨j,hj,rfl⟩:=List.getElem_of_mem hu
    exact hall.out j (by omega) hj
   go_wp2
   go_ret
   exact ⟨by rw [hn.out];rfl,hb.out⟩
theorem cont_vs.walk (f : Nat) (cb : Array Value) (A : Option Addr) (c : Nat) (l : List S47) (p : S47 → Bool) (w : World) (eg : ∀ args w,(callFunc f args).run Tryz.prog w = .ok (.enter f args) w) (hr : Kd.C k47 w A l.length l) (HC : ∀ (k : Nat) (hk : k < l.length) (W : World),Below w.heap.size w W → Calls Tryz.prog f (#[.agg #[.int .u64 l[k].f0,.string l[k].f1,.bool l[k].f2,.int .i64 l[k].f3]] ++ cb) W fun e w'=>e = .returned (.bool (p l[k])) ∧ Below W.heap.size W w') :
  Calls Tryz.prog 148 #[.slice A l.length c,.func (.func f) #[] cb] w fun e w'=>e = .returned (.bool (l.any p)) ∧ Below w.heap.size w w':=by
 have H:=zh (idx_vs.walk f cb A c l p w eg hr HC)
 clear hr HC eg
 have HA:=zh (pos_any l p)
 generalize posI (l.findIdx? p) = r at H HA
 generalize l.any p = q at HA ⊢
 go_enter Tryz.func148,Tryz.ntmps148
 go_wp2_with (go_at_call 159;refine H.out.mono ?_;rintro e w1 ⟨rfl,hb⟩;have HB:=zh hb;clear hb)
 go_ret
 refine ⟨?_,HB.out⟩
 show Ending.returned (.bool (decide (0 ≤ r))) = _
 rw [HA.out]
theorem clone_vs_nil (n c : Nat) (w : World) : Calls Tryz.prog 150 #[.slice none n c] w fun e w'=>e = .returned (.slice none 0 0) ∧ Below w.heap.size w w':=by
 have he:=Lib.run_eql_slice_nil_nil (P:=Tryz.prog) w n c Tryz.underlying175
 go_enter Tryz.func150,Tryz.ntmps150
 go_wp2
 go_ret
 exact ⟨rfl,Below.refl _ _⟩
theorem clone_vs_some (ad : Addr) (n c : Nat) (cells : List Value) (w : World) (hl : cells.length = n * 4) (h1 : ∀ u ∈ cells,u.oneCell' = true) (hr : RawAt w ad cells) (hn : n ≤ 1000000) :
  Calls Tryz.prog 150 #[.slice (some ad) n c] w fun e w'=>∃ v,e = .returned v ∧ w'.ownsRow w.heap.size 47 4 v n cells ∧ Below w.heap.size w w':=by
 have he:=Lib.run_eql_slice_some_nil (P:=Tryz.prog) w ad n c Tryz.underlying175
 obtain ⟨i0,hi,hy0,hy1,hy2⟩:=info_parts info47
 have HL:=zh hl;have H1:=zh h1;have HR:=zh hr;clear hl h1 hr
 have HO : Hid ((w.alloc (.cells #[] 47)).ownsRow w.heap.size 47 4 (.slice (some ⟨w.heap.size,0,none⟩) 0 0) 0 []):=⟨rfl,Or.inr ⟨w.heap.size,0,#[],rfl,Nat.le_refl _,blk_new w _,Nat.le_refl _,by unfold maxLen;omega,rfl,rfl⟩⟩
 have HB:=zh ((Below.refl w.heap.size w).alloc (Nat.le_refl _) (.cells #[] 47))
 go_enter Tryz.func150,Tryz.ntmps150
 go_wp2_with (at_builtin;refine wpList_append_own _ rfl _ _ 175 rfl w.heap.size 47 i0 (.agg #[(.int .u64 0),(.string ⟨#[]⟩),(.bool false),(.int .i64 0)]) 4 40 Tryz.underlying175 hi hy0 hy1 hy2 rfl (by decide) _ _ _ rfl HO.out ad n c cells rfl HL.out ?c1 ?c2 ?c3 ?c4 ?c5 ?_)
 case c1=>exact fun j u hu=>keepc (Below.alloc (Below.refl _ _) (Nat.le_refl _) _) (HR.out j u hu)
 case c2=>exact H1.out
 case c3=>unfold maxLen;omega
 case c4=>omega
 case c5=>simp
 intro v' w4 hown' hgrow _
 have HG:=zh (HB.out.grown hgrow (by simp) (own_base HO.out))
 have HOW:=zh hown'
 clear hown' hgrow
 go_wp2
 go_ret
 exact ⟨_,rfl,HOW.out,HG.out⟩
theorem clone_vs.walk (A : Option Addr) (c : Nat) (l : List S47) (w : World) (hr : Kd.C k47 w A l.length l) (hn : l.length ≤ 1000000) :
  Calls Tryz.prog 150 #[.slice A l.length c] w fun e w'=>∃ v rows,e = .returned v ∧ RowsOf k47 w' l rows ∧ w'.ownsRow w.heap.size 47 4 v l.length rows.flatten ∧ Below w.heap.size w w':=by
 cases A with
 | none =>
  obtain ⟨h0,rfl⟩:=C_none hr
  refine (clone_vs_nil 0 c w).mono ?_
  rintro e w' ⟨rfl,hb⟩
  exact ⟨_,[],rfl,RowsOf.nil_,own_nil _ _ _ _,hb⟩
 | some ad =>
  obtain ⟨rows,h1,h2⟩:=C_rows hr
  refine (clone_vs_some ad l.length c rows.flatten w (by rw [flat_len (sz:=4) h1.lens,h1.len]) h1.one h2 hn).mono ?_
  rintro e w' ⟨v,rfl,ho,hb⟩
  exact ⟨v,rows,rfl,h1.below hb,ho,hb⟩
theorem clone_v_nil (n c : Nat) (w : World) : Calls Tryz.prog 105 #[.slice none n c] w fun e w'=>e = .returned (.slice none 0 0) ∧ Below w.heap.size w w':=by
 have he:=Lib.run_eql_slice_nil_nil (P:=Tryz.prog) w n c Tryz.underlying54
 go_enter Tryz.func105,Tryz.ntmps105
 go_wp2
 go_ret
 exact ⟨rfl,Below.refl _ _⟩
theorem clone_v_some (ad : Addr) (n c : Nat) (cells : List Value) (w : World) (hl : cells.length = n * 4) (h1 : ∀ u ∈ cells,u.oneCell' = true) (hr : RawAt w ad cells) (hn : n ≤ 1000000) :
  Calls Tryz.prog 105 #[.slice (some ad) n c] w fun e w'=>∃ v,e = .returned v ∧ w'.ownsRow w.heap.size 47 4 v n cells ∧ Below w.heap.size w w':=by
 have he:=Lib.run_eql_slice_some_nil (P:=Tryz.prog) w ad n c Tryz.underlying54
 obtain ⟨i0,hi,hy0,hy1,hy2⟩:=info_parts info47
 have HL:=zh hl;have H1:=zh h1;have HR:=zh hr;clear hl h1 hr
 have HO : Hid ((w.alloc (.cells #[] 47)).ownsRow w.heap.size 47 4 (.slice (some ⟨w.heap.size,0,none⟩) 0 0) 0 []):=⟨rfl,Or.inr ⟨w.heap.size,0,#[],rfl,Nat.le_refl _,blk_new w _,Nat.le_refl _,by unfold maxLen;omega,rfl,rfl⟩⟩
 have HB:=zh ((Below.refl w.heap.size w).alloc (Nat.le_refl _) (.cells #[] 47))
 go_enter Tryz.func105,Tryz.ntmps105
 go_wp2_with (at_builtin;refine wpList_append_own _ rfl _ _ 54 rfl w.heap.size 47 i0 (.agg #[(.int .u64 0),(.string ⟨#[]⟩),(.bool false),(.int .i64 0)]) 4 40 Tryz.underlying54 hi hy0 hy1 hy2 rfl (by decide) _ _ _ rfl HO.out ad n c cells rfl HL.out ?c1 ?c2 ?c3 ?c4 ?c5 ?_)
 case c1=>exact fun j u hu=>keepc (Below.alloc (Below.refl _ _) (Nat.le_refl _) _) (HR.out j u hu)
 case c2=>exact H1.out
 case c3=>unfold maxLen;omega
 case c4=>omega
 case c5=>simp
 intro v' w4 hown' hgrow _
 have HG:=zh (HB.out.grown hgrow (by simp) (own_base HO.out))
 have HOW:=zh hown'
 clear hown' hgrow
 go_wp2
 go_ret
 exact ⟨_,rfl,HOW.out,HG.out⟩
theorem clone_v.walk (A : Option Addr) (c : Nat) (l : List S47) (w : World) (hr : Kd.C k47 w A l.length l) (hn : l.length ≤ 1000000) :
  Calls Tryz.prog 105 #[.slice A l.length c] w fun e w'=>∃ v rows,e = .returned v ∧ RowsOf k47 w' l rows ∧ w'.ownsRow w.heap.size 47 4 v l.length rows.flatten ∧ Below w.heap.size w w':=by
 cases A with
 | none =>
  obtain ⟨h0,rfl⟩:=C_none hr
  refine (clone_v_nil 0 c w).mono ?_
  rintro e w' ⟨rfl,hb⟩
  exact ⟨_,[],rfl,RowsOf.nil_,own_nil _ _ _ _,hb⟩
 | some ad =>
  obtain ⟨rows,h1,h2⟩:=C_rows hr
  refine (clone_v_some ad l.length c rows.flatten w (by rw [flat_len (sz:=4) h1.lens,h1.len]) h1.one h2 hn).mono ?_
  rintro e w' ⟨v,rfl,ho,hb⟩
  exact ⟨v,rows,rfl,h1.below hb,ho,hb⟩
theorem clone_v.calls (A : Option Addr) (c : Nat) (l : List S47) (w : World) (hr : Kd.C k47 w A l.length l) (hn : l.length ≤ 1000000) :
  Calls Tryz.prog 105 #[.slice A l.length c] w fun e w'=>∃ A' c',e = .returned (.slice A' l.length c') ∧ l.length ≤ c' ∧ Hid (Kd.C k47 w' A' l.length l) ∧ Below w.heap.size w w':=by
 refine (clone_v.walk A c l w hr hn).mono ?_
 rintro e w' ⟨v,rows,rfl,h1,h2,hb⟩
 obtain ⟨A',c',rfl,h3,h4⟩:=own_C (d:=k47) h2 h1 rfl (by omega)
 exact ⟨A',c',rfl,h3,h4,hb⟩
end
section
open Go.WideMaps Go.Maps
theorem add_at (g o j : Nat) : (Addr.add ⟨g,o,none⟩ j) = ⟨g,o + j,none⟩:=by unfold Addr.add;split <;> simp_all
def insAt_v (xs : List Value) (i : Nat) (c : List Value) : List Value:=xs.take (i * 4) ++ (c ++ xs.drop (i * 4))
def InsPost_v (base n i : Nat) (v : Value) (xs c : List Value) (w : World) (e : Ending) (w' : World) : Prop :=
 ∃ v',e = .returned v' ∧ w'.ownsRow base 47 4 v' (n + 1) (insAt_v xs i c) ∧ w.grownBy w' v.ownBlock
theorem insert_end_v.walk (base n : Nat) (v : Value) (xs : List Value) (bv : Nat) (v0 : Int) (v1 : ByteArray) (v2 : Bool) (v3 : Int) (w : World) (hown : w.ownsRow base 47 4 v n xs) (hb : base ≤ w.heap.size) (hn : n ≤ 1000)
  (hv : w.heap[bv]? = some (.cells #[.int .u64 v0,.string v1,.bool v2,.int .i64 v3] 47 (0,0))) :
  Calls Tryz.prog 147 #[v,.int .i64 n,.slice (some ⟨bv,0,none⟩) 1 1] w (InsPost_v base n n v xs [.int .u64 v0,.string v1,.bool v2,.int .i64 v3] w):=by
 obtain ⟨i0,hi,hy0,hy1,hy2⟩:=info_parts info47
 have HV:=zh hv;clear hv
 have HX : Hid (insAt_v xs n [.int .u64 v0,.string v1,.bool v2,.int .i64 v3] = xs ++ [.int .u64 v0,.string v1,.bool v2,.int .i64 v3]):=by
  unfold Hid insAt_v;rw [List.take_of_length_le (by rw [hown.1];omega),List.drop_eq_nil_of_le (by rw [hown.1];omega),List.append_nil]
 have HOWN:=zh hown
 obtain ⟨A,cap,rfl,hA⟩ : ∃ A cap,v = .slice A n cap ∧ n ≤ cap:=by
  rcases hown.2 with ⟨h1,h2⟩ | ⟨g,cap,cur,h1,_,_,h2,_⟩
  ·exact ⟨none,0,by rw [h1,h2],by omega⟩
  ·exact ⟨_,cap,h1,h2⟩
 clear hown
 have C1 : Hid (∀ (j : Nat) (u : Value),([.int .u64 v0,.string v1,.bool v2,.int .i64 v3] : List Value)[j]? = some u → w.cell? ((⟨bv,0,none⟩ : Addr).add j) = some u):=World.news_of_block HV.out
 have C2 : Hid (∀ u ∈ ([.int .u64 v0,.string v1,.bool v2,.int .i64 v3] : List Value),u.oneCell' = true):=by unfold Hid;simp [Value.oneCell']
 have C3 : Hid (n + 1 ≤ maxLen):=by unfold Hid maxLen;omega
 have C4 : Hid ((n + 1) * 40 ≤ 140737488355328):=by unfold Hid;omega
 by_cases hc : cap = n
 all_goals
  go_enter Tryz.func147,Tryz.ntmps147
  go_wp2_with (at_builtin;refine wpList_append_own2 _ rfl _ _ 175 54 rfl Tryz.underlying54 base 47 i0 (.agg #[(.int .u64 0),(.string ⟨#[]⟩),(.bool false),(.int .i64 0)]) 4 40 Tryz.underlying175 hi hy0 hy1 hy2 rfl (by decide) _ _ _ rfl HOWN.out ⟨bv,0,none⟩ 1 1 [.int .u64 v0,.string v1,.bool v2,.int .i64 v3] rfl rfl C1.out C2.out C3.out C4.out hb ?_;intro v' w4 hown' hgrow _;have HO4:=zh hown';have HG4:=zh hgrow;clear hown' hgrow)
  go_ret
  exact ⟨v',rfl,by rw [HX.out];exact HO4.out,HG4.out⟩
def zv_v : Value:=.agg #[(.int .u64 0),(.string ⟨#[]⟩),(.bool false),(.int .i64 0)]
def zL_v (n : Nat) : List Value:=(Builtin.zeroCells zv_v.cells n).toList
theorem z_one_v (n : Nat) : ∀ v ∈ zL_v n,v.oneCell' = true:=zero_one (by simp [zv_v,Value.cells,Value.oneCell']) (by decide) n
theorem z_len_v (n : Nat) : (zL_v n).length = n * 4:=by unfold zL_v;rw [Array.length_toList,size_zeroCells];rfl
theorem isz_v : (Tryz.prog.info? 47).map (·.size) = some 4:=by kernel_rfl
theorem insAt_len_v (xs : List Value) (i n : Nat) (hx : xs.length = n * 4) (hi : i ≤ n) (c : List Value) (hc : c.length = 4) : (insAt_v xs i c).length = (n + 1) * 4:=by
 unfold insAt_v;simp only [List.length_append,List.length_take,List.length_drop,hx,hc];omega
theorem ins_list_v (xs R1 : List Value) (i n nc : Nat) (hx : xs.length = n * 4) (hi : i < n) (hnc : n + 1 ≤ nc) (hR : R1.length = nc * 4) (h0 : R1.take (i * 4) = xs.take (i * 4)) (c : List Value) (hc : c.length = 4) :
  (splice (splice R1 (i * 4) c) ((i + 1) * 4) (xs.drop (i * 4))).length = nc * 4 ∧ (splice (splice R1 (i * 4) c) ((i + 1) * 4) (xs.drop (i * 4))).take ((n + 1) * 4) = insAt_v xs i c:=by
 have e1 : (splice R1 (i * 4) c).length = nc * 4:=by rw [length_splice _ _ _ (by omega)];exact hR
 have e2 : (splice R1 (i * 4) c).take ((i + 1) * 4) = xs.take (i * 4) ++ c:=by
  unfold splice
  rw [← List.append_assoc,h0]
  rw [List.take_left' (by rw [List.length_append,List.length_take,hx,hc];omega)]
 refine ⟨by rw [length_splice _ _ _ (by rw [e1,List.length_drop,hx];omega)];exact e1,?_⟩
 unfold splice at e2 ⊢
 rw [e2,← List.append_assoc,List.take_left' (by simp only [List.length_append,List.length_take,List.length_drop,hx,hc];omega)]
 unfold insAt_v
 rw [List.append_assoc]
theorem insert_grow_v.walk (base n i : Nat) (g cap : Nat) (cur : Array Value) (xs : List Value) (bv : Nat) (v0 : Int) (v1 : ByteArray) (v2 : Bool) (v3 : Int) (w : World) (hi : i < n) (hn : n ≤ 1000) (hb : base ≤ w.heap.size)
  (hg : w.heap[g]? = some (.cells cur 47 (0,0))) (hx : xs.length = n * 4) (hcur : cur.toList.take (n * 4) = xs) (hcap : n ≤ cap) (hfull : cap < n + 1) (h1 : ∀ u ∈ xs,u.oneCell' = true)
  (hv : w.heap[bv]? = some (.cells #[.int .u64 v0,.string v1,.bool v2,.int .i64 v3] 47 (0,0))) :
  Calls Tryz.prog 147 #[.slice (some ⟨g,0,none⟩) n cap,.int .i64 i,.slice (some ⟨bv,0,none⟩) 1 1] w (InsPost_v base n i (.slice (some ⟨g,0,none⟩) n cap) xs [.int .u64 v0,.string v1,.bool v2,.int .i64 v3] w):=by
 obtain ⟨i0,hi0,hy0,hy1,hy2⟩:=info_parts info47
 have HV:=zh hv;clear hv
 have HG:=zh hg;clear hg
 have d0 : ¬ cap = i:=by omega
 have d1 : ¬ cap = 0:=by omega
 have d2 : ((i : Int) == n) = false:=beq_eq_false_iff_ne.2 (by omega)
 have d3 : decide ((cap : Int) < (n : Int) + 1) = true:=by simp;omega
 have d4 : (i : Int) ≤ cap:=by omega
 have XI:=zh (show (xs.take (i * 4)).length = i * 4 by rw [List.length_take];omega)
 have XC:=zh (show ∀ (j : Nat) (u : Value),(xs.take (i * 4))[j]? = some u → w.cell? ((⟨g,0,none⟩ : Addr).add j) = some u from fun j u hu=>by
  rw [add_at,blk_cell HG.out,Nat.zero_add]
  rw [List.getElem?_take] at hu
  split at hu
  ·rw [← hcur,List.getElem?_take] at hu
   split at hu
   ·simpa using hu
   ·cases hu
  ·cases hu)
 have XD:=zh (show ∀ (j : Nat) (u : Value),(xs.drop (i * 4))[j]? = some u → w.cell? ((⟨g,i * 4,none⟩ : Addr).add j) = some u from fun j u hu=>by
  rw [add_at,blk_cell HG.out]
  rw [List.getElem?_drop,← hcur,List.getElem?_take] at hu
  split at hu
  ·simpa using hu
  ·cases hu)
 clear hcur
 go_enter Tryz.func147,Tryz.ntmps147
 go_wp2_with (at_builtin;refine wpList_zeros_grow rfl _ _ 175 3 rfl 47 i0 zv_v Tryz.underlying175 .i64 Tryz.underlying3 hi0 hy0 (by rw [hy1];rfl) (by rw [hy1];decide) ⟨g,0,none⟩ i cap (xs.take (i * 4)) rfl (by rw [hy1];exact XI.out) XC.out .i64 (n + 1 - i) ?a1 (by omega) (by omega) (by omega) (by rw [hy2];decide) zL_v (fun _=>rfl) ?_)
 case a1 =>
  show Value.int .i64 ((n : Int) + 1 - i) = Value.int .i64 ((n + 1 - i : Nat) : Int)
  congr 1;omega
 intro nc w1 hnc hmx hw1
 have HMX:=zh hmx;clear hmx
 have hlen : i + (n + 1 - i) = n + 1:=by omega
 rw [hlen] at hnc hw1 ⊢
 clear hlen
 obtain ⟨R1,hR1⟩ : ∃ R1,R1 = xs.take (i * 4) ++ (zL_v (n + 1 - i) ++ zL_v (nc - (n + 1))):=⟨_,rfl⟩
 rw [← hR1] at hw1
 have HR1:=zh hR1;clear hR1
 have HB1 : Hid (w1.heap[w.heap.size]? = some (.cells R1.toArray 47 (0,0))):=by unfold Hid;rw [hw1.out];exact heap_alloc_new w.drew _
 have HD1 : Hid (Below w.heap.size w w1):=by unfold Hid;rw [hw1.out];exact (Below.refl _ _).drew.alloc (Nat.le_refl _) _
 have HL1 : Hid (R1.length = nc * 4):=by
  unfold Hid;rw [HR1.out,List.length_append,List.length_append,z_len_v,z_len_v,XI.out];omega
 have d5 : ¬ nc = i:=by omega
 have d6 : ¬ nc = i + 1:=by omega
 have d7 : (i : Int) ≤ (n : Int) + 1:=by omega
 clear hw1
 have C1 : Hid (∀ (j : Nat) (u : Value),([.int .u64 v0,.string v1,.bool v2,.int .i64 v3] : List Value)[j]? = some u → w1.cell? ((⟨bv,0,none⟩ : Addr).add j) = some u):=fun j u hu=>keepc HD1.out (World.news_of_block HV.out j u hu)
 have C2 : Hid (∀ u ∈ ([.int .u64 v0,.string v1,.bool v2,.int .i64 v3] : List Value),u.oneCell' = true):=by unfold Hid;simp [Value.oneCell']
 have C3 : Hid (([.int .u64 v0,.string v1,.bool v2,.int .i64 v3] : List Value).length = Nat.min 1 (n + 1 - i) * 4):=by unfold Hid;rw [show Nat.min 1 (n + 1 - i) = 1 from by simp [Nat.min_def];omega];rfl
 have C4 : Hid (i * 4 + ([.int .u64 v0,.string v1,.bool v2,.int .i64 v3] : List Value).length ≤ R1.toArray.size):=by unfold Hid;rw [List.size_toArray,HL1.out];simp;omega
 go_wp2_with (with_reducible refine wpList_copy_cells rfl (.tmp 43) (.tmp 44) 175 54 rfl 47 4 Tryz.underlying175 isz_v w.heap.size (i * 4) (n + 1 - i) (nc - i) ⟨bv,0,none⟩ 1 1 ?b1 rfl R1.toArray 47 HB1.out [.int .u64 v0,.string v1,.bool v2,.int .i64 v3] C3.out C1.out C4.out C2.out ?_)
 case b1=>rfl
 intro w2 hw2
 have HB2 : Hid (w2.drew.heap[w.heap.size]? = some (.cells (splice R1 (i * 4) [.int .u64 v0,.string v1,.bool v2,.int .i64 v3]).toArray 47 (0,0))):=by
  unfold Hid;rw [hw2.out];exact setRow_heap _ _ _ _ _ _ HB1.out
 have HD2 : Hid (Below w.heap.size w w2.drew):=by unfold Hid;rw [hw2.out];exact (below_setRow HD1.out (Nat.le_refl _) _).drew
 have HL2 : Hid ((splice R1 (i * 4) [.int .u64 v0,.string v1,.bool v2,.int .i64 v3]).length = nc * 4):=by
  unfold Hid;rw [length_splice _ _ _ (by rw [HL1.out];simp;omega)];exact HL1.out
 have E1 : Hid (∀ (j : Nat) (u : Value),(xs.drop (i * 4))[j]? = some u → w2.drew.cell? ((⟨g,i * 4,none⟩ : Addr).add j) = some u):=fun j u hu=>keepc HD2.out (XD.out j u hu)
 have E2 : Hid (∀ u ∈ xs.drop (i * 4),u.oneCell' = true):=fun u hu=>h1 u (List.mem_of_mem_drop hu)
 have E3 : Hid ((xs.drop (i * 4)).length = Nat.min (n - i) (n - i) * 4):=by unfold Hid;rw [List.length_drop,hx,show (n - i).min (n - i) = n - i from Nat.min_self _];omega
 have E4 : Hid ((i + 1) * 4 + (xs.drop (i * 4)).length ≤ (splice R1 (i * 4) [.int .u64 v0,.string v1,.bool v2,.int .i64 v3]).toArray.size):=by unfold Hid;rw [List.size_toArray,HL2.out,List.length_drop,hx];omega
 clear hw2
 have d8 : (i : Int) + 1 ≤ (n : Int) + 1:=by omega
 have d9 : (0 : Int) ≤ (i : Int) + 1:=by omega
 have d10 : (0 : Int) ≤ (i : Int):=by omega
 have d11 : (i : Int) ≤ (n : Int):=by omega
 have q1 : IntKind.i64.wrap ((i : Int) + 1) = (i : Int) + 1:=by rw [IntKind.wrap_i64];omega
 have q2 : ((i : Int) + 1).toNat = i + 1:=by omega
 go_wp2_with fail
 go_still_tail 8,(by kernel_rfl)
 change wpList _ _ _ _ _ w2.drew
 go_wp2_with (with_reducible refine wpList_copy_cells rfl (.tmp 50) (.tmp 53) 175 175 rfl 47 4 Tryz.underlying175 isz_v w.heap.size ((i + 1) * 4) (n - i) (nc - (i + 1)) ⟨g,i * 4,none⟩ (n - i) (cap - i) ?e1 ?e2 _ 47 HB2.out (xs.drop (i * 4)) E3.out E1.out E4.out E2.out ?_)
 case e1=>rfl
 case e2=>rfl
 intro w3 hw3
 go_wp2_with fail
 go_ret
 have HB3 : w3.heap[w.heap.size]? = some (.cells (splice (splice R1 (i * 4) [.int .u64 v0,.string v1,.bool v2,.int .i64 v3]) ((i + 1) * 4) (xs.drop (i * 4))).toArray 47 (0,0)):=by
  rw [hw3.out];exact setRow_heap _ _ _ _ _ _ HB2.out
 have HD3 : Below w.heap.size w w3:=by rw [hw3.out];exact below_setRow HD2.out (Nat.le_refl _) _
 have hL:=ins_list_v xs R1 i n nc hx hi hnc HL1.out (by rw [HR1.out,List.take_left' XI.out]) [.int .u64 v0,.string v1,.bool v2,.int .i64 v3] rfl
 refine ⟨_,rfl,⟨by rw [insAt_len_v xs i n hx (by omega) _ rfl],Or.inr ⟨w.heap.size,nc,_,rfl,hb,HB3,hnc,HMX.out,?_,?_⟩⟩,⟨HD3.os,HD3.tape,HD3.output,HD3.size,fun k hk _=>HD3.block k hk⟩⟩
 ·rw [List.size_toArray,hL.1]
 ·rw [hL.2]
theorem ins_list2_v (cur xs : List Value) (i n cap : Nat) (hx : xs.length = n * 4) (hi : i < n) (hcap : n + 1 ≤ cap) (hR : cur.length = cap * 4) (h0 : cur.take (n * 4) = xs) (c : List Value) (hc : c.length = 4) :
  (splice (splice cur ((i + 1) * 4) (xs.drop (i * 4))) (i * 4) c).length = cap * 4 ∧ (splice (splice cur ((i + 1) * 4) (xs.drop (i * 4))) (i * 4) c).take ((n + 1) * 4) = insAt_v xs i c:=by
 have hl : (xs.drop (i * 4)).length = (n - i) * 4:=by rw [List.length_drop,hx];omega
 have e1 : (splice cur ((i + 1) * 4) (xs.drop (i * 4))).length = cap * 4:=by rw [length_splice _ _ _ (by rw [hl];omega)];exact hR
 have ht : cur.take (i * 4) = xs.take (i * 4):=by rw [← h0,List.take_take,Nat.min_eq_left (by omega)]
 refine ⟨by rw [length_splice _ _ _ (by omega)];exact e1,?_⟩
 have t1 : (splice cur ((i + 1) * 4) (xs.drop (i * 4))).take (i * 4) = xs.take (i * 4):=by
  unfold splice
  rw [List.take_append_of_le_length (by rw [List.length_take];omega),List.take_take,Nat.min_eq_left (by omega),ht]
 have t2 : (splice cur ((i + 1) * 4) (xs.drop (i * 4))).drop (i * 4 + c.length) = xs.drop (i * 4) ++ cur.drop ((n + 1) * 4):=by
  unfold splice
  rw [hc,show i * 4 + 4 = (i + 1) * 4 by omega,List.drop_left' (by rw [List.length_take];omega),hl]
  congr 2;omega
 show ((splice cur ((i + 1) * 4) (xs.drop (i * 4))).take (i * 4) ++ (c ++ (splice cur ((i + 1) * 4) (xs.drop (i * 4))).drop (i * 4 + c.length))).take ((n + 1) * 4) = _
 rw [t1,t2]
 unfold insAt_v
 rw [← List.append_assoc c,← List.append_assoc (xs.take (i * 4)),List.take_left' (by simp only [List.length_append,List.length_take,List.length_drop,hx,hc];omega)]
theorem insert_room_v.walk (base n i : Nat) (g cap : Nat) (cur : Array Value) (xs : List Value) (bv : Nat) (v0 : Int) (v1 : ByteArray) (v2 : Bool) (v3 : Int) (w : World) (hi : i < n) (hn : n ≤ 1000) (hb : base ≤ g)
  (hg : w.heap[g]? = some (.cells cur 47 (0,0))) (hx : xs.length = n * 4) (hcur : cur.toList.take (n * 4) = xs) (hcap : n + 1 ≤ cap) (hmx : cap ≤ maxLen) (hsz : cur.size = cap * 4) (h1 : ∀ u ∈ xs,u.oneCell' = true)
  (hv : w.heap[bv]? = some (.cells #[.int .u64 v0,.string v1,.bool v2,.int .i64 v3] 47 (0,0))) (hne : bv ≠ g) :
  Calls Tryz.prog 147 #[.slice (some ⟨g,0,none⟩) n cap,.int .i64 i,.slice (some ⟨bv,0,none⟩) 1 1] w (InsPost_v base n i (.slice (some ⟨g,0,none⟩) n cap) xs [.int .u64 v0,.string v1,.bool v2,.int .i64 v3] w):=by
 have HV:=zh hv;clear hv
 have HG:=zh hg;clear hg
 have HMX:=zh hmx
 unfold maxLen at hmx
 have d0 : ¬ cap = i:=by omega
 have d1 : ¬ cap = 0:=by omega
 have d2 : ((i : Int) == n) = false:=beq_eq_false_iff_ne.2 (by omega)
 have d3 : decide ((cap : Int) < (n : Int) + 1) = false:=by simp;omega
 have d4 : (i : Int) ≤ cap:=by omega
 have d5 : ¬ cap = i + 1:=by omega
 have d8 : (i : Int) + 1 ≤ (n : Int) + 1:=by omega
 have d9 : (0 : Int) ≤ (i : Int) + 1:=by omega
 have d10 : (0 : Int) ≤ (i : Int):=by omega
 have d11 : (i : Int) ≤ (n : Int):=by omega
 have d12 : (n : Int) + 1 ≤ cap:=by omega
 have d13 : (i : Int) ≤ (n : Int) + 1:=by omega
 have HX:=zh hx;have HCUR:=zh hcur;have HSZ:=zh hsz
 have XD:=zh (show ∀ (j : Nat) (u : Value),(xs.drop (i * 4))[j]? = some u → w.cell? ((⟨g,i * 4,none⟩ : Addr).add j) = some u from fun j u hu=>by
  rw [add_at,blk_cell HG.out]
  rw [List.getElem?_drop,← hcur,List.getElem?_take] at hu
  split at hu
  ·simpa using hu
  ·cases hu)
 have HOV:=zh (fun (W : World) (hW : W.heap = w.heap)=>show (callFunc 169 #[.slice (some ⟨bv,0,none⟩) 1 1,.slice (some ⟨g,(i + 1) * 4,none⟩) (n - i) (cap - (i + 1))]).run Tryz.prog W = .ok (.value (.bool false)) W by
  have h1 : W.heap[bv]? = some (.cells #[.int .u64 v0,.string v1,.bool v2,.int .i64 v3] 47 (0,0)):=by rw [hW];exact HV.out
  have h2 : W.heap[g]? = some (.cells cur 47 (0,0)):=by rw [hW];exact HG.out
  rw [run_callFunc_extern Tryz.func169 (by kernel_rfl) (by kernel_rfl) (by kernel_rfl) (e:=Extern.SlicesOverlaps.overlaps #[54,54] #[4]) (by kernel_rfl)]
  rw [Lib.run_overlaps_apart (P:=Tryz.prog) W 54 4 47 Tryz.underlying54 4 Tryz.sizeOf47 ⟨bv,0,none⟩ ⟨g,(i + 1) * 4,none⟩ 1 1 (n - i) (cap - (i + 1)) hne 47 47 4 cur.size (by simp [World.shape?,h1]) (by simp [World.shape?,h2]) (by omega) (blk_frozen h1 0) (blk_frozen h1 4)]
  rfl)
 clear hcur hx hsz hmx
 have ho:=HOV.out w rfl
 go_enter Tryz.func147,Tryz.ntmps147
 go_wp2_with fail
 clear ho
 have q1 : IntKind.i64.wrap ((i : Int) + 1) = (i : Int) + 1:=by rw [IntKind.wrap_i64];omega
 have q2 : ((i : Int) + 1).toNat = i + 1:=by omega
 have hl : (xs.drop (i * 4)).length = (n - i) * 4:=by rw [List.length_drop,HX.out];omega
 have hcl : cur.toList.length = cap * 4:=by rw [Array.length_toList,HSZ.out]
 have E1 : Hid (∀ (j : Nat) (u : Value),(xs.drop (i * 4))[j]? = some u → w.drew.cell? ((⟨g,i * 4,none⟩ : Addr).add j) = some u):=fun j u hu=>XD.out j u hu
 have E2 : Hid (∀ u ∈ xs.drop (i * 4),u.oneCell' = true):=fun u hu=>h1 u (List.mem_of_mem_drop hu)
 have E3 : Hid ((xs.drop (i * 4)).length = Nat.min (n + 1 - i) (n - i) * 4):=by unfold Hid;rw [hl,show Nat.min (n + 1 - i) (n - i) = n - i from Nat.min_eq_right (by omega)]
 have E4 : Hid ((i + 1) * 4 + (xs.drop (i * 4)).length ≤ cur.size):=by unfold Hid;rw [hl,HSZ.out];omega
 have HGd : Hid (w.drew.heap[g]? = some (.cells cur 47 (0,0))):=HG
 have HIL:=zh (ins_list2_v cur.toList xs i n cap HX.out hi hcap hcl HCUR.out [.int .u64 v0,.string v1,.bool v2,.int .i64 v3] rfl)
 have HSL : Hid ((splice cur.toList ((i + 1) * 4) (xs.drop (i * 4))).length = cap * 4):=by unfold Hid;rw [length_splice _ _ _ (by rw [hl,hcl];omega)];exact hcl
 clear hl hcl
 go_still_tail 8,(by kernel_rfl)
 change wpList _ _ _ _ _ w.drew
 clear q1 q2
 go_wp2_with (with_reducible refine wpList_copy_cells rfl (.tmp 73) (.tmp 76) 175 175 rfl 47 4 Tryz.underlying175 isz_v g ((i + 1) * 4) (n - i) (cap - (i + 1)) ⟨g,i * 4,none⟩ (n + 1 - i) (cap - i) ?e1 ?e2 cur 47 HGd.out (xs.drop (i * 4)) E3.out E1.out E4.out E2.out ?_)
 case e1=>rfl
 case e2=>rfl
 intro w2 hw2
 have HB2 : Hid (w2.heap[g]? = some (.cells (splice cur.toList ((i + 1) * 4) (xs.drop (i * 4))).toArray 47 (0,0))):=by
  unfold Hid;rw [hw2.out];exact setRow_heap _ _ _ _ _ _ HGd.out
 have HO2 : Hid (Only g w w2):=by unfold Hid;rw [hw2.out];exact ((Only.refl g w).drewN 1).setRow _
 have F1 : Hid (∀ (j : Nat) (u : Value),([.int .u64 v0,.string v1,.bool v2,.int .i64 v3] : List Value)[j]? = some u → w2.cell? ((⟨bv,0,none⟩ : Addr).add j) = some u):=World.news_of_block (HO2.out.blk HV.out hne)
 have F2 : Hid (∀ u ∈ ([.int .u64 v0,.string v1,.bool v2,.int .i64 v3] : List Value),u.oneCell' = true):=by unfold Hid;simp [Value.oneCell']
 have F3 : Hid (([.int .u64 v0,.string v1,.bool v2,.int .i64 v3] : List Value).length = Nat.min 1 (n + 1 - i) * 4):=by unfold Hid;rw [show Nat.min 1 (n + 1 - i) = 1 from Nat.min_eq_left (by omega)];rfl
 have F4 : Hid (i * 4 + ([.int .u64 v0,.string v1,.bool v2,.int .i64 v3] : List Value).length ≤ (splice cur.toList ((i + 1) * 4) (xs.drop (i * 4))).toArray.size):=by unfold Hid;rw [List.size_toArray,HSL.out];simp;omega
 clear hw2
 go_wp2_with (with_reducible refine wpList_copy_cells rfl (.tmp 80) (.tmp 81) 175 54 rfl 47 4 Tryz.underlying175 isz_v g (i * 4) (n + 1 - i) (cap - i) ⟨bv,0,none⟩ 1 1 ?f1 ?f2 _ 47 HB2.out [.int .u64 v0,.string v1,.bool v2,.int .i64 v3] F3.out F1.out F4.out F2.out ?_)
 case f1=>rfl
 case f2=>rfl
 intro w3 hw3
 go_wp2_with fail
 go_ret
 have HB3 : w3.heap[g]? = some (.cells (splice (splice cur.toList ((i + 1) * 4) (xs.drop (i * 4))) (i * 4) [.int .u64 v0,.string v1,.bool v2,.int .i64 v3]).toArray 47 (0,0)):=by
  rw [hw3.out];exact setRow_heap _ _ _ _ _ _ HB2.out
 have HD3 : Only g w w3:=by rw [hw3.out];exact HO2.out.setRow _
 refine ⟨_,rfl,⟨by rw [insAt_len_v xs i n HX.out (by omega) _ rfl],Or.inr ⟨g,cap,_,rfl,hb,HB3,hcap,HMX.out,?_,?_⟩⟩,⟨HD3.os,HD3.tape,HD3.output,HD3.size,fun k hk hg=>HD3.block k hk (fun e=>hg (by rw [e];rfl))⟩⟩
 ·rw [List.size_toArray,HIL.out.1]
 ·rw [HIL.out.2]
theorem insert_v.walk (base n i : Nat) (v : Value) (xs : List Value) (bv : Nat) (v0 : Int) (v1 : ByteArray) (v2 : Bool) (v3 : Int) (w : World) (hown : w.ownsRow base 47 4 v n xs) (hb : base ≤ w.heap.size) (hi : i ≤ n) (hn : n ≤ 1000) (h1 : ∀ u ∈ xs,u.oneCell' = true)
  (hv : w.heap[bv]? = some (.cells #[.int .u64 v0,.string v1,.bool v2,.int .i64 v3] 47 (0,0))) (hne : v.ownBlock ≠ some bv) :
  Calls Tryz.prog 147 #[v,.int .i64 i,.slice (some ⟨bv,0,none⟩) 1 1] w (InsPost_v base n i v xs [.int .u64 v0,.string v1,.bool v2,.int .i64 v3] w):=by
 rcases Nat.eq_or_lt_of_le hi with rfl | hlt
 ·exact insert_end_v.walk base i v xs bv v0 v1 v2 v3 w hown hb hn hv
 ·rcases hown.2 with ⟨_,h0⟩ | ⟨g,cap,cur,rfl,hbg,hg,hnc,hcm,hcs,htake⟩
  ·omega
  ·by_cases hroom : n + 1 ≤ cap
   ·exact insert_room_v.walk base n i g cap cur xs bv v0 v1 v2 v3 w hlt hn hbg hg hown.1 htake hroom hcm hcs h1 hv (fun e=>hne (by rw [e];rfl))
   ·exact insert_grow_v.walk base n i g cap cur xs bv v0 v1 v2 v3 w hlt hn hb hg hown.1 htake hnc (by omega) h1 hv
end
section
open Go.WideMaps Go.Maps
def cell_v (p : S47) : List Value:=[.int .u64 p.f0,.string p.f1,.bool p.f2,.int .i64 p.f3]
def cells_v (l : List S47) : List Value:=(l.map cell_v).flatten
theorem cells_v_len (l : List S47) : (cells_v l).length = l.length * 4:=by
 unfold cells_v
 rw [flat_len (sz:=4) (by intro c hc;obtain ⟨p,_,rfl⟩:=List.mem_map.1 hc;rfl),List.length_map]
theorem cell_v_one (p : S47) : ∀ u ∈ cell_v p,u.oneCell' = true:=by intro u hu;simp [cell_v] at hu;rcases hu with rfl | rfl | rfl | rfl <;> rfl
theorem cells_v_one (l : List S47) : ∀ u ∈ cells_v l,u.oneCell' = true:=by
 intro u hu
 obtain ⟨c,hc,hu⟩:=List.mem_flatten.1 hu
 obtain ⟨p,_,rfl⟩:=List.mem_map.1 hc
 exact cell_v_one p u hu
theorem rows_v {w : World} {l : List S47} {rows : List (List Value)} (h : RowsOf k47 w l rows) : rows = l.map cell_v:=by
 apply List.ext_getElem?
 intro j
 rw [List.getElem?_map]
 rcases Nat.lt_or_ge j l.length with hj | hj
 ·have hj' : j < rows.length:=by have:=h.len;omega
  rw [List.getElem?_eq_getElem hj,List.getElem?_eq_getElem hj']
  exact congrArg some (k47_open (h.at_ j _ _ (List.getElem?_eq_getElem hj) (List.getElem?_eq_getElem hj')))
 ·rw [List.getElem?_eq_none hj,List.getElem?_eq_none (by have:=h.len;omega)];rfl
theorem rowsOf_v (w : World) (l : List S47) : RowsOf k47 w l (l.map cell_v):=by
 refine ⟨by simp,fun j x c hx hc=>?_⟩
 rw [List.getElem?_map,hx] at hc
 injection hc with hc
 subst hc
 exact k47_mk w x
theorem cells_v_cut (l : List S47) (k : Nat) : (cells_v l).take (k * 4) = cells_v (l.take k) ∧ (cells_v l).drop (k * 4) = cells_v (l.drop k):=by
 induction l generalizing k with
 | nil=>simp [cells_v]
 | cons x l ih =>
  rcases k with _ | k
  ·simp [cells_v]
  ·obtain ⟨a,b⟩:=ih k
   have e : cells_v (x :: l) = cell_v x ++ cells_v l:=rfl
   have e2 : (k + 1) * 4 = (cell_v x).length + k * 4:=by show _ = 4 + _;omega
   rw [e,e2,List.take_length_add_append,List.drop_length_add_append,a,b]
   exact ⟨rfl,rfl⟩
theorem cells_v_app (l m : List S47) : cells_v (l ++ m) = cells_v l ++ cells_v m:=by unfold cells_v;rw [List.map_append,List.flatten_append]
theorem cells_v_set (l : List S47) (t : List Value) (k : Nat) (p : S47) (h : k < l.length) : splice (cells_v l ++ t) (k * 4) (cell_v p) = cells_v (l.set k p) ++ t:=by
 have hl:=cells_v_len l
 unfold splice
 rw [List.take_append_of_le_length (by omega),(cells_v_cut l k).1,show k * 4 + (cell_v p).length = (k + 1) * 4 by show _ + 4 = _;omega,List.drop_append_of_le_length (by omega),(cells_v_cut l (k + 1)).2,List.set_eq_take_append_cons_drop,if_pos h,cells_v_app]
 show _ = (_ ++ (cell_v p ++ cells_v (l.drop (k + 1)))) ++ t
 simp only [List.append_assoc]
theorem cells_v_at {w : World} {g : Nat} {l : List S47} {t : List Value} (h : w.heap[g]? = some (.cells (cells_v l ++ t).toArray 47 (0,0))) (k : Nat) (hk : k < l.length) (i : Nat) (u : Value) (hu : (cell_v l[k])[i]? = some u) : w.cell? ⟨g,k * 4 + i,none⟩ = some u:=by
 have hi : i < 4:=(List.getElem?_eq_some_iff.1 hu).1
 have hl:=cells_v_len l
 rw [blk_cell h]
 rw [List.getElem?_toArray,List.getElem?_append_left (by omega)]
 unfold cells_v
 rw [flat_at (sz:=4) (by intro c hc;obtain ⟨p,_,rfl⟩:=List.mem_map.1 hc;rfl) k i hi,List.getElem?_map,List.getElem?_eq_getElem hk]
 exact hu
theorem own_v {w : World} {base : Nat} {v : Value} {l : List S47} (h : w.ownsRow base 47 4 v l.length (cells_v l)) (hm : l.length ≤ 1000000) : ∃ A c,v = .slice A l.length c ∧ l.length ≤ c ∧ Kd.C k47 w A l.length l :=
 own_C (d:=k47) h (rowsOf_v w l) rfl (by omega)
theorem filter_step {α : Type} (l : List α) (q : α → Bool) (j : Nat) (h : j < l.length) : (l.take (j + 1)).filter q = (l.take j).filter q ++ (if q l[j] then [l[j]] else []):=by
 rw [List.take_succ_eq_append_getElem h,List.filter_append]
 congr 1
 cases hq : q l[j] <;> simp [hq]
theorem filter_start {α : Type} (l : List α) (p : α → Bool) (k : Nat) (h : l.findIdx? p = some k) : k < l.length ∧ (l.take (k + 1)).filter (fun x=>!p x) = l.take k:=by
 rw [List.findIdx?_eq_some_iff_getElem] at h
 obtain ⟨hk,hp,ha⟩:=h
 refine ⟨hk,?_⟩
 rw [filter_step l _ k hk]
 simp only [hp,Bool.not_true,Bool.false_eq_true,if_false,List.append_nil]
 rw [List.filter_eq_self]
 intro x hx
 obtain ⟨j,hj,rfl⟩:=List.getElem_of_mem hx
 rw [List.length_take] at hj
 rw [List.getElem_take]
 have:=ha j (by omega)
 simpa using this
theorem filter_none {α : Type} (l : List α) (p : α → Bool) (h : l.findIdx? p = none) : l.filter (fun x=>!p x) = l:=by
 rw [List.findIdx?_eq_none_iff] at h
 rw [List.filter_eq_self]
 intro x hx
 simp [h x hx]
theorem take_set_succ {α : Type} (l : List α) (k : Nat) (x : α) (h : k < l.length) : (l.set k x).take (k + 1) = l.take k ++ [x]:=by
 rw [List.take_succ_eq_append_getElem (by simpa using h),List.take_set_of_le (Nat.le_refl _)];simp
theorem deleteFunc_v.walk (f : Nat) (cb : Array Value) (base : Nat) (v : Value) (l : List S47) (p : S47 → Bool) (w : World) (hown : w.ownsRow base 47 4 v l.length (cells_v l)) (hb : base ≤ w.heap.size) (hn : l.length ≤ 1000) (eg : ∀ args w,(callFunc f args).run Tryz.prog w = .ok (.enter f args) w)
  (hc0 : ∀ (x : S47) (W : World),Below base w W → Calls Tryz.prog f (#[.agg #[.int .u64 x.f0,.string x.f1,.bool x.f2,.int .i64 x.f3]] ++ cb) W fun e w'=>e = .returned (.bool (p x)) ∧ Below W.heap.size W w') :
  Calls Tryz.prog 162 #[v,.func (.func f) #[] cb] w fun e w'=>∃ v',e = .returned v' ∧ w'.ownsRow base 47 4 v' (l.filter fun x=>!p x).length (cells_v (l.filter fun x=>!p x)) ∧ w.grownBy w' v.ownBlock:=by
 have HC:=zh hc0;clear hc0
 obtain ⟨A,c,rfl,hlc,hC⟩:=own_v hown (by omega)
 have HI:=zh (idx_vs.walk f cb A c l p w eg hC (fun k hk W hW=>HC.out l[k] W (hW.mono hb)))
 clear hC
 have HOWN:=zh hown
 obtain ⟨i0,hi,hy0,hy1,hy2⟩:=info_parts info47
 cases hf : l.findIdx? p with
 | none =>
  rw [hf] at HI
  have HE:=zh (filter_none l p hf)
  clear hf hown
  go_enter Tryz.func162,Tryz.ntmps162
  go_wp2_with (go_at_call 159;refine HI.out.mono ?_;rintro e w1 ⟨rfl,hb1⟩;have HB1:=zh hb1;clear hb1)
  go_ret
  refine ⟨_,rfl,?_,⟨HB1.out.os,HB1.out.tape,HB1.out.output,HB1.out.size,fun k hk _=>HB1.out.block k hk⟩⟩
  rw [HE.out]
  exact own_move HOWN.out (fun k hk=>HB1.out.block k (own_lt HOWN.out k hk))
 | some k =>
  obtain ⟨hk,hflt⟩:=filter_start l p k hf
  rcases hown.2 with ⟨_,h0⟩ | ⟨g,cap,cur,e1,hbg,hg,hnc,hcm,hcs,htake⟩
  ·omega
  injection e1 with e1 _ e2
  subst e1;subst e2
  obtain ⟨tl,htl⟩ : ∃ tl,cur.toList = cells_v l ++ tl:=⟨cur.toList.drop (l.length * 4),by rw [← htake,List.take_append_drop]⟩
  have hcur : cur = (cells_v l ++ tl).toArray:=by rw [← htl]
  subst hcur
  have HTL : Hid ((cells_v l ++ tl).length = c * 4):=by unfold Hid;rw [← htl,Array.length_toList];exact hcs
  have HG:=zh hg;have HFL:=zh hflt;have HCM:=zh hcm;have HBG:=zh hbg
  have hgw : g < w.heap.size:=blk_lt hg
  rw [hf] at HI
  have e1 : posI (some k) = k:=rfl
  rw [e1] at HI
  clear e1 hf hg hflt htl htake hcs hown hcm
  have d0 : ((k : Int) == -1) = false:=beq_eq_false_iff_ne.2 (by omega)
  go_enter Tryz.func162,Tryz.ntmps162
  go_wp2_with (go_at_call 159;refine HI.out.mono ?_;rintro e w1 ⟨rfl,hb1⟩;have HB1:=zh hb1;clear hb1)
  have HO1 : Hid (Only g w w1):=⟨HB1.out.os,HB1.out.tape,HB1.out.output,HB1.out.size,fun j hj _=>HB1.out.block j hj⟩
  have HG1:=zh ((HB1.out.block g hgw).trans HG.out)
  clear d0
  go_loopw [5,6,7] (fun i j _ wr=>∃ (k j' : Nat) (L : List S47),i = .int .i64 k ∧ j = .int .i64 j' ∧ k < j' ∧ j' ≤ l.length ∧ L.length = l.length ∧ Hid (L.take k = (l.take j').filter (fun x=>!p x)) ∧ Hid (L.drop j' = l.drop j') ∧ Hid (wr.heap[g]? = some (.cells (cells_v L ++ tl).toArray 47 (0,0))) ∧ Hid (Only g w wr)) (fun _ j _ _=>l.length - (intOf j).toNat)
  case atStart=>exact ⟨k,k + 1,l,rfl,by go_num,by omega,by omega,rfl,HFL.out.symm,rfl,HG1,HO1⟩
  case round =>
   obtain ⟨k,j,L,rfl,rfl,hkj,hj,hL,hflt,hdr,hgr,hor⟩:=hrel
   have hlw:=hor.out.size
   by_cases hlt : j < l.length
   ·have hx : L[j]'(by omega) = l[j]:=by
     have h1:=congrArg List.head? hdr.out
     rw [List.head?_drop,List.head?_drop,List.getElem?_eq_getElem (by omega),List.getElem?_eq_getElem hlt] at h1
     injection h1
    have hdr' : Hid (L.drop (j + 1) = l.drop (j + 1)):=by
     have h1:=congrArg List.tail hdr.out
     rwa [List.tail_drop,List.tail_drop] at h1
    have HFS:=zh (filter_step l (fun x=>!p x) j hlt)
    obtain ⟨x,hxx⟩ : ∃ x,x = l[j]:=⟨_,rfl⟩
    have ca:=fun (i : Nat) (u : Value) (hu : (cell_v x)[i]? = some u)=>cells_v_at hgr.out j (by omega) i u (by rw [hx,← hxx];exact hu)
    have c0:=ca 0 _ rfl
    have c1:=ca 1 _ rfl
    have c2:=ca 2 _ rfl
    have c3:=ca 3 _ rfl
    rw [Nat.add_zero] at c0
    have gne : wr.heap.size ≠ g:=by omega
    have HA : Hid (Below base w (wr.alloc (.cells #[.int .u64 x.f0,.string x.f1,.bool x.f2,.int .i64 x.f3] 47))):=(hor.out.to g (B:=base) hb HBG.out).alloc (by omega) _
    have HX:=zh (HC.out x _ HA.out)
    have hnew:=blk_new wr (.cells #[.int .u64 x.f0,.string x.f1,.bool x.f2,.int .i64 x.f3] 47)
    rw [← hxx] at HFS
    cases hp : p x
    ·rw [hp] at HX
     have HST : Hid ((L.set k x).take (k + 1) = (l.take (j + 1)).filter (fun x=>!p x)):=by
      unfold Hid;rw [take_set_succ L k x (by omega),hflt.out,HFS.out,hp];rfl
     have HSD : Hid ((L.set k x).drop (j + 1) = l.drop (j + 1)):=by unfold Hid;rw [List.drop_set_of_lt (by omega)];exact hdr'.out
     have HFIT : Hid (k * 4 + (cell_v x).length ≤ (cells_v L ++ tl).toArray.size):=by
      unfold Hid;rw [List.size_toArray,List.length_append,cells_v_len];show _ + 4 ≤ _;omega
     clear hp HFS hx hxx ca
     have hk63 : (l.length : Int) ≤ 1000:=by omega
     go_wp2_with (first | ((with_reducible refine gate_store (t:=47) (p:=33) (v:=.tmp 32) rfl ?_);go_must (refine wpList_store_row rfl rfl 47 (.tmp 33) (.tmp 32) rfl g (k * 4) (cells_v L ++ tl).toArray 47 (.agg #[.int .u64 x.f0,.string x.f1,.bool x.f2,.int .i64 x.f3]) (cell_v x) rfl rfl HG2.out rfl isz_v HFIT.out (cell_v_one x) ?_;intro w3 HG3 HO3)) | (refine HX.out.mono ?_;rintro e w2 ⟨rfl,hb2⟩;have HBW:=zh hb2;have HG2:=zh ((hb2.block g (by simp;omega)).trans (blk_alloc hgr.out _));have y0:=keepc HBW.out (zb hnew 0 (.int .u64 x.f0));have y1:=keepc HBW.out (zb hnew 1 (.string x.f1));have y2:=keepc HBW.out (zb hnew 2 (.bool x.f2));have y3:=keepc HBW.out (zb hnew 3 (.int .i64 x.f3));clear hb2))
     go_roundw
     case rel =>
      refine ⟨k + 1,j + 1,L.set k x,by go_num,by go_num,by omega,by omega,by rw [List.length_set];exact hL,HST,HSD,?_,?_⟩
      ·have:=HG3.out
       rw [cells_v_set L tl k x (by omega)] at this
       exact this
      ·have h1:=hor.out
       have h2:=HBW.out
       have h3:=HO3.out
       refine ⟨?_,?_,?_,?_,?_⟩
       ·rw [h3.os,h2.os];exact h1.os
       ·rw [h3.tape,h2.tape];exact h1.tape
       ·rw [h3.output,h2.output];exact h1.output
       ·have:=h1.size;have:=h2.size;have:=h3.size;simp at *;omega
       ·intro q hq hqg
        rw [h3.block q (by have:=h1.size;have:=h2.size;simp at *;omega) hqg,h2.block q (by have:=h1.size;simp;omega),((Below.refl wr.heap.size wr).alloc (Nat.le_refl _) _).block q (by have:=h1.size;omega)]
        exact h1.block q hq hqg
     case measure=>simp [intOf];omega
    ·rw [hp] at HX
     have HST : Hid (L.take k = (l.take (j + 1)).filter (fun x=>!p x)):=by
      unfold Hid;rw [HFS.out,hp,hflt.out];simp
     clear hp HFS hx hxx ca
     go_wp2_with (refine HX.out.mono ?_;rintro e w2 ⟨rfl,hb2⟩;have HBW:=zh hb2;have HG2:=zh ((hb2.block g (by simp;omega)).trans (blk_alloc hgr.out _));clear hb2)
     go_roundw
     case rel =>
      refine ⟨k,j + 1,L,rfl,by go_num,by omega,by omega,hL,HST,hdr',HG2,?_⟩
      have h1:=hor.out
      have h2:=HBW.out
      refine ⟨?_,?_,?_,?_,?_⟩
      ·rw [h2.os];exact h1.os
      ·rw [h2.tape];exact h1.tape
      ·rw [h2.output];exact h1.output
      ·have:=h1.size;have:=h2.size;simp at *;omega
      ·intro q hq hqg
       rw [h2.block q (by have:=h1.size;simp;omega),((Below.refl wr.heap.size wr).alloc (Nat.le_refl _) _).block q (by have:=h1.size;omega)]
       exact h1.block q hq hqg
     case measure=>simp [intOf];omega
   ·obtain rfl : j = l.length:=by omega
    have HFIN : Hid (l.filter (fun x=>!p x) = L.take k):=by have:=hflt.out;rw [List.take_length] at this;exact this.symm
    have hcl:=HTL.out
    rw [List.length_append,cells_v_len] at hcl
    have d1 : ¬ c = k:=by omega
    have HCL : Hid (k * 4 + (l.length - k) * zv_v.cells.size ≤ (cells_v L ++ tl).toArray.size):=by
     have hz : zv_v.cells.size = 4:=rfl
     unfold Hid;rw [hz];simp only [List.size_toArray,List.length_append,cells_v_len,hL];omega
    have d2 : (k : Int) ≤ (l.length : Int):=by omega
    have d3 : (k : Int) ≤ (c : Int):=by omega
    clear hcl
    go_wp2_with ((with_reducible refine gate_builtin (b:=.clear) (xs:=#[.tmp 38]) rfl ?_);go_must (refine wpList_clear_cells rfl _ 175 rfl 47 i0 zv_v Tryz.underlying175 hi hy0 g (k * 4) (l.length - k) (c - k) rfl (cells_v L ++ tl).toArray 47 hgr.out (by omega) HCL.out (z_one_v _) zL_v (fun _=>rfl) ?_;intro w4 hw4))
    go_ret
    have hG4 : w4.heap[g]? = some (.cells (splice (cells_v L ++ tl).toArray.toList (k * 4) (zL_v (l.length - k))).toArray 47 (0,0)):=by rw [hw4.out];exact setRow_heap _ _ _ _ _ _ hgr.out
    have hO4 : Only g w w4:=by rw [hw4.out];exact hor.out.setRow _
    have hTk : (cells_v L ++ tl).take (k * 4) = cells_v (L.take k):=by
     rw [List.take_append_of_le_length (by rw [cells_v_len];omega),(cells_v_cut L k).1]
    have hlk : (L.take k).length = k:=by rw [List.length_take];omega
    rw [HFIN.out,hlk]
    refine ⟨_,rfl,⟨by rw [cells_v_len,hlk],Or.inr ⟨g,c,_,rfl,HBG.out,hG4,by omega,HCM.out,?_,?_⟩⟩,⟨hO4.os,hO4.tape,hO4.output,hO4.size,fun q hq hqg=>hO4.block q hq (fun e=>hqg (by rw [e];rfl))⟩⟩
    ·rw [List.size_toArray,length_splice _ _ _ (by rw [z_len_v];have:=HTL.out;rw [List.length_append,cells_v_len] at this;simp only [List.length_append,cells_v_len];omega)]
     have:=HTL.out;rw [List.length_append,cells_v_len] at this
     simp only [List.length_append,cells_v_len];omega
    ·show (splice (cells_v L ++ tl) (k * 4) (zL_v (l.length - k))).take (k * 4) = _
     unfold splice
     rw [hTk,List.take_left' (by rw [cells_v_len,hlk])]
end
section
open Go.WideMaps Go.Maps
attribute [local go_sem] Oper.semAt_some
def idB (id : Int) (v : S47) : Bool:=v.f0 == id
def geB (id : Int) (v : S47) : Bool:=decide (id ≤ v.f0)
def delV (id : Int) (l : List S47) : List S47:=l.filter fun x=>!idB id x
theorem delV_len (id : Int) (l : List S47) : (delV id l).length ≤ l.length:=List.length_filter_le _ _
theorem find1.walk (x : S47) (id : Int) (b : Nat) (w : World) (h0 : w.cell? ⟨b,0,none⟩ = some (.int .u64 id)) :
  Calls Tryz.prog 160 #[.agg #[.int .u64 x.f0,.string x.f1,.bool x.f2,.int .i64 x.f3],.pointer (some ⟨b,0,none⟩)] w fun e w'=>e = .returned (.bool (idB id x)) ∧ Below w.heap.size w w':=by
 have HB0 : Hid (Below w.heap.size w w):=Below.refl _ _
 have e0:=World.new_ne w _ h0
 have hlt:=World.block_lt_of_cell? w _ h0
 obtain ⟨a,s,m,q⟩:=x
 go_enter Tryz.func160,Tryz.ntmps160
 go_wp2
 go_ret
 exact ⟨rfl,HB0.out.alloc (Nat.le_refl _) _⟩
theorem without1.walk (x : S47) (id : Int) (b : Nat) (w : World) (h0 : w.cell? ⟨b,0,none⟩ = some (.int .u64 id)) :
  Calls Tryz.prog 163 #[.agg #[.int .u64 x.f0,.string x.f1,.bool x.f2,.int .i64 x.f3],.pointer (some ⟨b,0,none⟩)] w fun e w'=>e = .returned (.bool (idB id x)) ∧ Below w.heap.size w w':=by
 have HB0 : Hid (Below w.heap.size w w):=Below.refl _ _
 have e0:=World.new_ne w _ h0
 have hlt:=World.block_lt_of_cell? w _ h0
 obtain ⟨a,s,m,q⟩:=x
 go_enter Tryz.func163,Tryz.ntmps163
 go_wp2
 go_ret
 exact ⟨rfl,HB0.out.alloc (Nat.le_refl _) _⟩
theorem ahead1.walk (x : S47) (id : Int) (b : Nat) (w : World) (h0 : w.cell? ⟨b,0,none⟩ = some (.int .u64 id)) :
  Calls Tryz.prog 149 #[.agg #[.int .u64 x.f0,.string x.f1,.bool x.f2,.int .i64 x.f3],.pointer (some ⟨b,0,none⟩)] w fun e w'=>e = .returned (.bool (geB id x)) ∧ Below w.heap.size w w':=by
 have HB0 : Hid (Below w.heap.size w w):=Below.refl _ _
 have e0:=World.new_ne w _ h0
 have hlt:=World.block_lt_of_cell? w _ h0
 obtain ⟨a,s,m,q⟩:=x
 go_enter Tryz.func149,Tryz.ntmps149
 go_wp2
 go_ret
 exact ⟨rfl,HB0.out.alloc (Nat.le_refl _) _⟩
theorem findV.walk (A : Option Addr) (c : Nat) (l : List S47) (id : Int) (w : World) (hr : Kd.C k47 w A l.length l) :
  Calls Tryz.prog 130 #[.slice A l.length c,.int .u64 id] w fun e w'=>e = .returned (.int .i64 (posI (l.findIdx? (idB id)))) ∧ Below w.heap.size w w':=by
 have HA:=zh ((Below.refl w.heap.size w).alloc (Nat.le_refl _) (.cells #[.int .u64 id] 24))
 have hnew:=blk_new w (.cells #[.int .u64 id] 24)
 have HI:=zh (idx_vs.walk 160 #[.pointer (some ⟨w.heap.size,0,none⟩)] A c l (idB id) (w.alloc (.cells #[.int .u64 id] 24)) (enters Tryz.func160 (by kernel_rfl) (by kernel_rfl)) (Kd.C_below hr HA.out)
  (fun k hk W hW=>find1.walk l[k] id w.heap.size W (keepc hW ((blk_cell hnew 0).trans rfl))))
 clear hr hnew
 generalize posI (l.findIdx? (idB id)) = r at HI ⊢
 go_enter Tryz.func130,Tryz.ntmps130
 go_wp2_with (go_at_call 159;refine HI.out.mono ?_;rintro e w1 ⟨rfl,hb⟩;have HB:=zh hb;clear hb)
 go_ret
 exact ⟨rfl,keepB HA HB.out⟩
theorem without.walk (A : Option Addr) (c : Nat) (l : List S47) (id : Int) (w : World) (hr : Kd.C k47 w A l.length l) (hn : l.length ≤ 1000) :
  Calls Tryz.prog 133 #[.slice A l.length c,.int .u64 id] w fun e w'=>∃ v,e = .returned v ∧ w'.ownsRow w.heap.size 47 4 v (delV id l).length (cells_v (delV id l)) ∧ Below w.heap.size w w':=by
 have HA:=zh ((Below.refl w.heap.size w).alloc (Nat.le_refl _) (.cells #[.int .u64 id] 24))
 have HN:=zh (blk_new w (.cells #[.int .u64 id] 24))
 have HCL:=zh (clone_vs.walk A c l (w.alloc (.cells #[.int .u64 id] 24)) (Kd.C_below hr HA.out) (by omega))
 have HSZ : Hid (w.heap.size < (w.alloc (.cells #[.int .u64 id] 24)).heap.size):=by unfold Hid;simp
 have HE:=zh (enters (P:=Tryz.prog) Tryz.func163 (by kernel_rfl) (by kernel_rfl))
 clear hr
 go_enter Tryz.func133,Tryz.ntmps133
 go_wp2_with (first
  | (go_at_call 150;refine HCL.out.mono ?_;rintro e w1 ⟨v,rows,rfl,hrows,hown,hb⟩;have HB1:=keepB HA hb;obtain rfl:=rows_v hrows;have HO1:=zh hown;have HBB:=zh hb;clear hrows hown hb)
  | (go_at_call 162;refine (deleteFunc_v.walk 163 #[.pointer (some ⟨w.heap.size,0,none⟩)] _ v l (idB id) w1 HO1.out HBB.out.size hn HE.out (fun x W hW=>without1.walk x id w.heap.size W ?hx)).mono ?_;(case hx=>(rw [hW.cell (p:=⟨w.heap.size,0,none⟩) HSZ.out,HBB.out.cell (p:=⟨w.heap.size,0,none⟩) HSZ.out];exact zj HN 0));rintro e w2 ⟨v2,rfl,hown2,hg2⟩;have HO2:=zh hown2;have HG2:=zh hg2;clear hown2 hg2))
 go_ret
 exact ⟨v2,rfl,own_weaken HO2.out (Nat.le_of_lt HSZ.out),HB1.out.grown HG2.out HB1.out.size (fun k hk=>Nat.le_of_lt (Nat.lt_of_lt_of_le HSZ.out (own_base HO1.out k hk)))⟩
/-- a slice of versions and an error's number -/
def VPost (l : List S47) (er : Int) (w : World) (e : Ending) (w' : World) : Prop:=∃ A c,e = .returned (.tuple #[.slice A l.length c,.int .i64 er]) ∧ l.length ≤ c ∧ Hid (Kd.C k47 w' A l.length l) ∧ Below w.heap.size w w'
theorem VPost.nil {er : Int} {w w' : World} (hb : Below w.heap.size w w') : VPost [] er w (.returned (.tuple #[.slice none 0 0,.int .i64 er])) w':=⟨none,0,rfl,Nat.le_refl _,C_mt _ _ _,hb⟩
theorem VPost.own {l : List S47} {er : Int} {w w' : World} {v : Value} {n base : Nat} {cs : List Value} (h : w'.ownsRow base 47 4 v n cs) (hn : n = l.length) (hc : cs = cells_v l) (hl : l.length ≤ 1000000) (hb : Below w.heap.size w w') : VPost l er w (.returned (.tuple #[v,.int .i64 er])) w':=by
 subst hn;subst hc
 obtain ⟨A,c,rfl,h1,h2⟩:=own_v h hl
 exact ⟨A,c,rfl,h1,h2,hb⟩
theorem insAt0 (xs c : List Value) : insAt_v xs 0 c = c ++ xs:=by unfold insAt_v;simp
theorem over.walk (A : Option Addr) (c : Nat) (l : List S47) (x : S47) (w : World) (hr : Kd.C k47 w A l.length l) (hn : l.length ≤ 999) :
  Calls Tryz.prog 107 #[.slice A l.length c,.agg #[.int .u64 x.f0,.string x.f1,.bool x.f2,.int .i64 x.f3]] w (VPost (⟨0,x.f1,x.f2,x.f3⟩ :: delV 0 l) 0 w):=by
 have HR:=zh hr;clear hr
 have hdl:=delV_len 0 l
 go_enter Tryz.func107,Tryz.ntmps107
 go_wp2_with (first
  | ((with_reducible refine gate_dst (N:=3) rfl ?_);go_must (refine box_event ?hg (N:=3) ?hd (cs:=#[.int .u64 x.f0,.string x.f1,.bool x.f2,.int .i64 x.f3]) (t:=47) ?hr ?_;(case hd=>rfl);(case hg=>rfl);(case hr=>first | (go_simp;done) | (go_simp;rfl));intro gx hgx w1 hb1 hbel1;have KX:=zh hb1;have HB1:=zh hbel1;have GX:=zh hgx;clear hb1 hbel1 hgx))
  | ((with_reducible refine gate_store (t:=24) (p:=6) (v:=.const (.int .u64 0)) rfl ?_);go_must (refine wpList_store_row rfl rfl 24 (.tmp 6) _ rfl gx 0 _ 47 (.int .u64 0) [.int .u64 0] rfl rfl KX.out rfl (by kernel_rfl) (by show 0 + 1 ≤ 4;decide) (by simp [Value.oneCell']) ?_;intro wr KX2 HOX)))
 have KR : Hid (wr.drew.heap[gx]? = some (.cells #[.int .u64 0,.string x.f1,.bool x.f2,.int .i64 x.f3] 47 (0,0))):=blk_drew KX2.out
 have HBR : Hid (Below w.heap.size w wr.drew):=(HOX.out.below HB1.out HB1.out.size (by rw [GX.out];exact Nat.le_refl _)).drew
 clear KX2 HOX HB1 KX GX
 refine wp_region_held_drew (S:=fun W=>W.cell? ⟨gx,0,none⟩ = some (.int .u64 0) ∧ W.cell? ⟨gx,1,none⟩ = some (.string x.f1) ∧ W.cell? ⟨gx,2,none⟩ = some (.bool x.f2) ∧ W.cell? ⟨gx,3,none⟩ = some (.int .i64 x.f3) ∧ Below w.heap.size w W) (by kernel_rfl) ?_ (fun hHeld=>?_)
 ·exact ⟨zj KR 0,zj KR 1,zj KR 2,zj KR 3,HBR.out⟩
 clear KR HBR
 generalize wr.drew = w7 at hHeld ⊢
 refine zt 0 (v:=?v0g1) ?y0g1 ?r0g1
 case y0g1=>(rintro w ⟨s0,s1,s2,s3,s4⟩;go_simp;try with_reducible rfl)
 try simp only [zA,zB,zC,Act.put,zD,zE,zF]
 refine zt 2 (v:=?v2g1) ?y2g1 ?r2g1
 case y2g1=>(rintro w ⟨s0,s1,s2,s3,s4⟩;go_simp;try with_reducible rfl)
 try simp only [zA,zB,zC,Act.put,zD,zE,zF]
 refine wpAnyH_ready (rs:=[1,3]) (by kernel_rfl) (by simp) ?_
 refine AllReadyH.cons (o:=_) rfl (fun K hK=>?_) (AllReadyH.cons (o:=_) rfl (fun K hK=>?_) AllReadyH.nil)
 ·skip
  rw [if_pos (by rfl)]
  go_simp
  obtain ⟨s0,s1,s2,s3,s4⟩:=hHeld
  refine (without.walk A c l 0 _ (Kd.C_below HR.out s4) (by omega)).mono ?_
  rintro e8 w8 ⟨v8,rfl,hu8,hb8⟩
  have HU:=zh hu8
  have HUB:=zh s4.size
  have HNE : Hid (some gx ≠ v8.ownBlock):=fun e=>by have h1:=own_base hu8 _ e.symm;have h2:=World.block_lt_of_cell? _ _ s0;simp at h1 h2;omega
  clear hu8
  refine hK.out _ _ ⟨keepc hb8 s0,keepc hb8 s1,keepc hb8 s2,keepc hb8 s3,s4.trans (hb8.mono s4.size)⟩ (fun hHeld=>?_)
  clear hK K hb8 s0 s1 s2 s3 s4
  try simp only [zA,zB,zC,Act.put,zD,zE,zF]
  refine wpAnyH_ready (rs:=[3]) (by kernel_rfl) (by simp) ?_
  refine AllReadyH.cons (o:=_) rfl (fun K hK=>?_) AllReadyH.nil
  rw [if_pos (by rfl)]
  go_simp
  obtain ⟨s0,s1,s2,s3,s4⟩:=hHeld
  have HAL:=zh ((Below.refl w8.heap.size w8).alloc (Nat.le_refl _) (.cells #[.int .u64 0,.string x.f1,.bool x.f2,.int .i64 x.f3] 47))
  have hb8:=HAL.out
  have HSS:=zh (⟨keepc hb8 s0,keepc hb8 s1,keepc hb8 s2,keepc hb8 s3,s4.trans (hb8.mono s4.size)⟩ : (_ ∧ _ ∧ _ ∧ _ ∧ _))
  have KB:=zh (blk_new w8 (.cells #[.int .u64 0,.string x.f1,.bool x.f2,.int .i64 x.f3] 47))
  clear hb8 s0 s1 s2 s3 s4
  generalize hw9 : w8.alloc (.cells #[.int .u64 0,.string x.f1,.bool x.f2,.int .i64 x.f3] 47) = w9 at KB HSS HAL ⊢
  generalize hg9 : w8.heap.size = g9 at *
  clear hw9
  refine hK.out _ _ HSS.out (fun hHeld=>?_)
  clear hK K HSS
  try simp only [zA,zB,zC,Act.put,zD,zE,zF]
  refine wpAnyH_ready (rs:=[4]) (by kernel_rfl) (by simp) ?_
  refine AllReadyH.cons (o:=_) rfl (fun K hK=>?_) AllReadyH.nil
  rw [if_pos (by rfl)]
  go_simp
  obtain ⟨s0,s1,s2,s3,s4⟩:=hHeld
  first
   | (refine (insert_v.walk w.heap.size (delV 0 l).length 0 _ _ g9 0 x.f1 x.f2 x.f3 _ (own_weaken (own_move HU.out (fun k hk=>HAL.out.block k (by have:=own_lt HU.out k hk;omega))) HUB.out) s4.size (Nat.zero_le _) (by omega) (cells_v_one _) KB.out (fun e=>by have:=own_lt HU.out _ e;omega)).mono ?_)
   | (refine (insert_v.walk w.heap.size (delV 0 l).length 0 _ _ g9 0 x.f1 x.f2 x.f3 _ (own_weaken (HU.out) HUB.out) s4.size (Nat.zero_le _) (by omega) (cells_v_one _) KB2.out (fun e=>by have:=own_base HU.out _ e;have:=KL2.out;omega)).mono ?_)
  rintro e8 w10 ⟨v10,rfl,hown,hg⟩
  have HO10:=zh hown
  have HB10:=zh (s4.grown hg s4.size (fun k hk=>Nat.le_trans HUB.out (own_base HU.out k hk)))
  refine hK.out _ _ ⟨grown_cell hg HNE.out s0,grown_cell hg HNE.out s1,grown_cell hg HNE.out s2,grown_cell hg HNE.out s3,HB10.out⟩ (fun hHeld=>?_)
  clear hK K hown hg s0 s1 s2 s3 s4
  try simp only [zA,zB,zC,Act.put,zD,zE,zF]
  refine zt 5 (v:=?v5g1a) ?y5g1a ?r5g1a
  case y5g1a=>(rintro w ⟨s0,s1,s2,s3,s4⟩;go_simp;try with_reducible rfl)
  try simp only [zA,zB,zC,Act.put,zD,zE,zF]
  refine zt 6 (v:=?v6g1a) ?y6g1a ?r6g1a
  case y6g1a=>(rintro w ⟨s0,s1,s2,s3,s4⟩;go_simp;try with_reducible rfl)
  try simp only [zA,zB,zC,Act.put,zD,zE,zF]
  refine wpAnyH_done (by kernel_rfl) ?_ _
  go_wp2
  go_ret2
  exact VPost.own HO10.out (by simp) (by rw [insAt0];rfl) (by simp;omega) HB10.out
 ·skip
  rw [if_pos (by rfl)]
  go_simp
  obtain ⟨s0,s1,s2,s3,s4⟩:=hHeld
  have HAL:=zh ((Below.refl w7.heap.size w7).alloc (Nat.le_refl _) (.cells #[.int .u64 0,.string x.f1,.bool x.f2,.int .i64 x.f3] 47))
  have hb8:=HAL.out
  have HSS:=zh (⟨keepc hb8 s0,keepc hb8 s1,keepc hb8 s2,keepc hb8 s3,s4.trans (hb8.mono s4.size)⟩ : (_ ∧ _ ∧ _ ∧ _ ∧ _))
  have KB:=zh (blk_new w7 (.cells #[.int .u64 0,.string x.f1,.bool x.f2,.int .i64 x.f3] 47))
  clear hb8 s0 s1 s2 s3 s4
  generalize hw9 : w7.alloc (.cells #[.int .u64 0,.string x.f1,.bool x.f2,.int .i64 x.f3] 47) = w9 at KB HSS HAL ⊢
  generalize hg9 : w7.heap.size = g9 at *
  clear hw9
  refine hK.out _ _ HSS.out (fun hHeld=>?_)
  clear hK K HSS
  try simp only [zA,zB,zC,Act.put,zD,zE,zF]
  refine wpAnyH_ready (rs:=[1]) (by kernel_rfl) (by simp) ?_
  refine AllReadyH.cons (o:=_) rfl (fun K hK=>?_) AllReadyH.nil
  rw [if_pos (by rfl)]
  go_simp
  obtain ⟨s0,s1,s2,s3,s4⟩:=hHeld
  refine (without.walk A c l 0 _ (Kd.C_below HR.out s4) (by omega)).mono ?_
  rintro e8 w8 ⟨v8,rfl,hu8,hb8⟩
  have HU:=zh hu8
  have HUB:=zh s4.size
  have HNE : Hid (some gx ≠ v8.ownBlock):=fun e=>by have h1:=own_base hu8 _ e.symm;have h2:=World.block_lt_of_cell? _ _ s0;simp at h1 h2;omega
  clear hu8
  have KB2:=zk KB hb8
  have KL2:=zh (blk_lt KB.out)
  refine hK.out _ _ ⟨keepc hb8 s0,keepc hb8 s1,keepc hb8 s2,keepc hb8 s3,s4.trans (hb8.mono s4.size)⟩ (fun hHeld=>?_)
  clear hK K hb8 s0 s1 s2 s3 s4
  try simp only [zA,zB,zC,Act.put,zD,zE,zF]
  refine wpAnyH_ready (rs:=[4]) (by kernel_rfl) (by simp) ?_
  refine AllReadyH.cons (o:=_) rfl (fun K hK=>?_) AllReadyH.nil
  rw [if_pos (by rfl)]
  go_simp
  obtain ⟨s0,s1,s2,s3,s4⟩:=hHeld
  first
   | (refine (insert_v.walk w.heap.size (delV 0 l).length 0 _ _ g9 0 x.f1 x.f2 x.f3 _ (own_weaken (own_move HU.out (fun k hk=>HAL.out.block k (by have:=own_lt HU.out k hk;omega))) HUB.out) s4.size (Nat.zero_le _) (by omega) (cells_v_one _) KB.out (fun e=>by have:=own_lt HU.out _ e;omega)).mono ?_)
   | (refine (insert_v.walk w.heap.size (delV 0 l).length 0 _ _ g9 0 x.f1 x.f2 x.f3 _ (own_weaken (HU.out) HUB.out) s4.size (Nat.zero_le _) (by omega) (cells_v_one _) KB2.out (fun e=>by have:=own_base HU.out _ e;have:=KL2.out;omega)).mono ?_)
  rintro e8 w10 ⟨v10,rfl,hown,hg⟩
  have HO10:=zh hown
  have HB10:=zh (s4.grown hg s4.size (fun k hk=>Nat.le_trans HUB.out (own_base HU.out k hk)))
  refine hK.out _ _ ⟨grown_cell hg HNE.out s0,grown_cell hg HNE.out s1,grown_cell hg HNE.out s2,grown_cell hg HNE.out s3,HB10.out⟩ (fun hHeld=>?_)
  clear hK K hown hg s0 s1 s2 s3 s4
  try simp only [zA,zB,zC,Act.put,zD,zE,zF]
  refine zt 5 (v:=?v5g1b) ?y5g1b ?r5g1b
  case y5g1b=>(rintro w ⟨s0,s1,s2,s3,s4⟩;go_simp;try with_reducible rfl)
  try simp only [zA,zB,zC,Act.put,zD,zE,zF]
  refine zt 6 (v:=?v6g1b) ?y6g1b ?r6g1b
  case y6g1b=>(rintro w ⟨s0,s1,s2,s3,s4⟩;go_simp;try with_reducible rfl)
  try simp only [zA,zB,zC,Act.put,zD,zE,zF]
  refine wpAnyH_done (by kernel_rfl) ?_ _
  go_wp2
  go_ret2
  exact VPost.own HO10.out (by simp) (by rw [insAt0];rfl) (by simp;omega) HB10.out
theorem ahead_ok.walk (A : Option Addr) (c : Nat) (l : List S47) (x : S47) (w : World) (hr : Kd.C k47 w A l.length l) (hn : l.length ≤ 999) (h0 : (x.f0 == 0) = false) (h1 : l.any (geB x.f0) = false) :
  Calls Tryz.prog 108 #[.slice A l.length c,.agg #[.int .u64 x.f0,.string x.f1,.bool x.f2,.int .i64 x.f3]] w (VPost (x :: l) 0 w):=by
 have HR:=zh hr;clear hr
 have HC:=zh (fun (gx : Nat) (W : World) (hb : Below w.heap.size w W) (h0 : W.cell? ⟨gx,0,none⟩ = some (.int .u64 x.f0))=>cont_vs.walk 149 #[.pointer (some ⟨gx,0,none⟩)] A c l (geB x.f0) W (enters Tryz.func149 (by kernel_rfl) (by kernel_rfl)) (Kd.C_below HR.out hb)
  (fun k hk W' hW'=>ahead1.walk l[k] x.f0 gx W' (keepc hW' h0)))
 rw [h1] at HC
 have HCL : Hid (∀ W,Below w.heap.size w W → Calls Tryz.prog 150 #[.slice A l.length c] W fun e w'=>∃ v,e = .returned v ∧ w'.ownsRow W.heap.size 47 4 v l.length (cells_v l) ∧ Below W.heap.size W w'):=fun W hb=>by
  refine (clone_vs.walk A c l W (Kd.C_below HR.out hb) (by omega)).mono ?_
  rintro e w1 ⟨v,rows,rfl,hrows,hown,hb⟩
  obtain rfl:=rows_v hrows
  exact ⟨v,rfl,hown,hb⟩
 clear h1
 go_enter Tryz.func108,Tryz.ntmps108
 go_wp2_with (first
  | (((with_reducible refine gate_dst (N:=3) rfl ?_);go_must (refine box_event ?hg (N:=3) ?hd (cs:=#[.int .u64 x.f0,.string x.f1,.bool x.f2,.int .i64 x.f3]) (t:=47) ?hr ?_;(case hd=>rfl);(case hg=>rfl);(case hr=>first | (go_simp;done) | (go_simp;rfl));intro gx hgx w1 hb1 hbel1;have KX:=zh hb1;have HB1:=zh hbel1;have GX:=zh hgx;clear hb1 hbel1 hgx));have d0:=zb KX.out 0 (.int .u64 x.f0))
  | (go_at_call 148;go_must (refine (HC.out gx w1 HB1.out d0).mono ?_;rintro e wr ⟨rfl,hb⟩;have KR:=zh (blk_drew (blk_below KX.out hb));have HBR:=zh ((keepB HB1 hb).out.drew);clear hb)))
 clear HC d0 KX HB1 GX HR
 refine wp_region_held_drew (S:=fun W=>W.cell? ⟨gx,0,none⟩ = some (.int .u64 x.f0) ∧ W.cell? ⟨gx,1,none⟩ = some (.string x.f1) ∧ W.cell? ⟨gx,2,none⟩ = some (.bool x.f2) ∧ W.cell? ⟨gx,3,none⟩ = some (.int .i64 x.f3) ∧ Below w.heap.size w W) (by kernel_rfl) ?_ (fun hHeld=>?_)
 ·exact ⟨zj KR 0,zj KR 1,zj KR 2,zj KR 3,HBR.out⟩
 clear KR HBR
 generalize wr.drew = w7 at hHeld ⊢
 refine zt 0 (v:=?v0g2) ?y0g2 ?r0g2
 case y0g2=>(rintro w ⟨s0,s1,s2,s3,s4⟩;go_simp;try with_reducible rfl)
 try simp only [zA,zB,zC,Act.put,zD,zE,zF]
 refine zt 2 (v:=?v2g2) ?y2g2 ?r2g2
 case y2g2=>(rintro w ⟨s0,s1,s2,s3,s4⟩;go_simp;try with_reducible rfl)
 try simp only [zA,zB,zC,Act.put,zD,zE,zF]
 refine wpAnyH_ready (rs:=[1,3]) (by kernel_rfl) (by simp) ?_
 refine AllReadyH.cons (o:=_) rfl (fun K hK=>?_) (AllReadyH.cons (o:=_) rfl (fun K hK=>?_) AllReadyH.nil)
 ·skip
  rw [if_pos (by rfl)]
  go_simp
  obtain ⟨s0,s1,s2,s3,s4⟩:=hHeld
  refine (HCL.out _ s4).mono ?_
  rintro e8 w8 ⟨v8,rfl,hu8,hb8⟩
  have HU:=zh hu8
  have HUB:=zh s4.size
  have HNE : Hid (some gx ≠ v8.ownBlock):=fun e=>by have h1:=own_base hu8 _ e.symm;have h2:=World.block_lt_of_cell? _ _ s0;simp at h1 h2;omega
  clear hu8
  refine hK.out _ _ ⟨keepc hb8 s0,keepc hb8 s1,keepc hb8 s2,keepc hb8 s3,s4.trans (hb8.mono s4.size)⟩ (fun hHeld=>?_)
  clear hK K hb8 s0 s1 s2 s3 s4
  try simp only [zA,zB,zC,Act.put,zD,zE,zF]
  refine wpAnyH_ready (rs:=[3]) (by kernel_rfl) (by simp) ?_
  refine AllReadyH.cons (o:=_) rfl (fun K hK=>?_) AllReadyH.nil
  rw [if_pos (by rfl)]
  go_simp
  obtain ⟨s0,s1,s2,s3,s4⟩:=hHeld
  have HAL:=zh ((Below.refl w8.heap.size w8).alloc (Nat.le_refl _) (.cells #[.int .u64 x.f0,.string x.f1,.bool x.f2,.int .i64 x.f3] 47))
  have hb8:=HAL.out
  have HSS:=zh (⟨keepc hb8 s0,keepc hb8 s1,keepc hb8 s2,keepc hb8 s3,s4.trans (hb8.mono s4.size)⟩ : (_ ∧ _ ∧ _ ∧ _ ∧ _))
  have KB:=zh (blk_new w8 (.cells #[.int .u64 x.f0,.string x.f1,.bool x.f2,.int .i64 x.f3] 47))
  clear hb8 s0 s1 s2 s3 s4
  generalize hw9 : w8.alloc (.cells #[.int .u64 x.f0,.string x.f1,.bool x.f2,.int .i64 x.f3] 47) = w9 at KB HSS HAL ⊢
  generalize hg9 : w8.heap.size = g9 at *
  clear hw9
  refine hK.out _ _ HSS.out (fun hHeld=>?_)
  clear hK K HSS
  try simp only [zA,zB,zC,Act.put,zD,zE,zF]
  refine wpAnyH_ready (rs:=[4]) (by kernel_rfl) (by simp) ?_
  refine AllReadyH.cons (o:=_) rfl (fun K hK=>?_) AllReadyH.nil
  rw [if_pos (by rfl)]
  go_simp
  obtain ⟨s0,s1,s2,s3,s4⟩:=hHeld
  first
   | (refine (insert_v.walk w.heap.size l.length 0 _ _ g9 x.f0 x.f1 x.f2 x.f3 _ (own_weaken (own_move HU.out (fun k hk=>HAL.out.block k (by have:=own_lt HU.out k hk;omega))) HUB.out) s4.size (Nat.zero_le _) (by omega) (cells_v_one _) KB.out (fun e=>by have:=own_lt HU.out _ e;omega)).mono ?_)
   | (refine (insert_v.walk w.heap.size l.length 0 _ _ g9 x.f0 x.f1 x.f2 x.f3 _ (own_weaken (HU.out) HUB.out) s4.size (Nat.zero_le _) (by omega) (cells_v_one _) KB2.out (fun e=>by have:=own_base HU.out _ e;have:=KL2.out;omega)).mono ?_)
  rintro e8 w10 ⟨v10,rfl,hown,hg⟩
  have HO10:=zh hown
  have HB10:=zh (s4.grown hg s4.size (fun k hk=>Nat.le_trans HUB.out (own_base HU.out k hk)))
  refine hK.out _ _ ⟨grown_cell hg HNE.out s0,grown_cell hg HNE.out s1,grown_cell hg HNE.out s2,grown_cell hg HNE.out s3,HB10.out⟩ (fun hHeld=>?_)
  clear hK K hown hg s0 s1 s2 s3 s4
  try simp only [zA,zB,zC,Act.put,zD,zE,zF]
  refine zt 5 (v:=?v5g2a) ?y5g2a ?r5g2a
  case y5g2a=>(rintro w ⟨s0,s1,s2,s3,s4⟩;go_simp;try with_reducible rfl)
  try simp only [zA,zB,zC,Act.put,zD,zE,zF]
  refine zt 6 (v:=?v6g2a) ?y6g2a ?r6g2a
  case y6g2a=>(rintro w ⟨s0,s1,s2,s3,s4⟩;go_simp;try with_reducible rfl)
  try simp only [zA,zB,zC,Act.put,zD,zE,zF]
  refine wpAnyH_done (by kernel_rfl) ?_ _
  go_wp2
  go_ret2
  exact VPost.own HO10.out (by simp) (by rw [insAt0];rfl) (by simp;omega) HB10.out
 ·skip
  rw [if_pos (by rfl)]
  go_simp
  obtain ⟨s0,s1,s2,s3,s4⟩:=hHeld
  have HAL:=zh ((Below.refl w7.heap.size w7).alloc (Nat.le_refl _) (.cells #[.int .u64 x.f0,.string x.f1,.bool x.f2,.int .i64 x.f3] 47))
  have hb8:=HAL.out
  have HSS:=zh (⟨keepc hb8 s0,keepc hb8 s1,keepc hb8 s2,keepc hb8 s3,s4.trans (hb8.mono s4.size)⟩ : (_ ∧ _ ∧ _ ∧ _ ∧ _))
  have KB:=zh (blk_new w7 (.cells #[.int .u64 x.f0,.string x.f1,.bool x.f2,.int .i64 x.f3] 47))
  clear hb8 s0 s1 s2 s3 s4
  generalize hw9 : w7.alloc (.cells #[.int .u64 x.f0,.string x.f1,.bool x.f2,.int .i64 x.f3] 47) = w9 at KB HSS HAL ⊢
  generalize hg9 : w7.heap.size = g9 at *
  clear hw9
  refine hK.out _ _ HSS.out (fun hHeld=>?_)
  clear hK K HSS
  try simp only [zA,zB,zC,Act.put,zD,zE,zF]
  refine wpAnyH_ready (rs:=[1]) (by kernel_rfl) (by simp) ?_
  refine AllReadyH.cons (o:=_) rfl (fun K hK=>?_) AllReadyH.nil
  rw [if_pos (by rfl)]
  go_simp
  obtain ⟨s0,s1,s2,s3,s4⟩:=hHeld
  refine (HCL.out _ s4).mono ?_
  rintro e8 w8 ⟨v8,rfl,hu8,hb8⟩
  have HU:=zh hu8
  have HUB:=zh s4.size
  have HNE : Hid (some gx ≠ v8.ownBlock):=fun e=>by have h1:=own_base hu8 _ e.symm;have h2:=World.block_lt_of_cell? _ _ s0;simp at h1 h2;omega
  clear hu8
  have KB2:=zk KB hb8
  have KL2:=zh (blk_lt KB.out)
  refine hK.out _ _ ⟨keepc hb8 s0,keepc hb8 s1,keepc hb8 s2,keepc hb8 s3,s4.trans (hb8.mono s4.size)⟩ (fun hHeld=>?_)
  clear hK K hb8 s0 s1 s2 s3 s4
  try simp only [zA,zB,zC,Act.put,zD,zE,zF]
  refine wpAnyH_ready (rs:=[4]) (by kernel_rfl) (by simp) ?_
  refine AllReadyH.cons (o:=_) rfl (fun K hK=>?_) AllReadyH.nil
  rw [if_pos (by rfl)]
  go_simp
  obtain ⟨s0,s1,s2,s3,s4⟩:=hHeld
  first
   | (refine (insert_v.walk w.heap.size l.length 0 _ _ g9 x.f0 x.f1 x.f2 x.f3 _ (own_weaken (own_move HU.out (fun k hk=>HAL.out.block k (by have:=own_lt HU.out k hk;omega))) HUB.out) s4.size (Nat.zero_le _) (by omega) (cells_v_one _) KB.out (fun e=>by have:=own_lt HU.out _ e;omega)).mono ?_)
   | (refine (insert_v.walk w.heap.size l.length 0 _ _ g9 x.f0 x.f1 x.f2 x.f3 _ (own_weaken (HU.out) HUB.out) s4.size (Nat.zero_le _) (by omega) (cells_v_one _) KB2.out (fun e=>by have:=own_base HU.out _ e;have:=KL2.out;omega)).mono ?_)
  rintro e8 w10 ⟨v10,rfl,hown,hg⟩
  have HO10:=zh hown
  have HB10:=zh (s4.grown hg s4.size (fun k hk=>Nat.le_trans HUB.out (own_base HU.out k hk)))
  refine hK.out _ _ ⟨grown_cell hg HNE.out s0,grown_cell hg HNE.out s1,grown_cell hg HNE.out s2,grown_cell hg HNE.out s3,HB10.out⟩ (fun hHeld=>?_)
  clear hK K hown hg s0 s1 s2 s3 s4
  try simp only [zA,zB,zC,Act.put,zD,zE,zF]
  refine zt 5 (v:=?v5g2b) ?y5g2b ?r5g2b
  case y5g2b=>(rintro w ⟨s0,s1,s2,s3,s4⟩;go_simp;try with_reducible rfl)
  try simp only [zA,zB,zC,Act.put,zD,zE,zF]
  refine zt 6 (v:=?v6g2b) ?y6g2b ?r6g2b
  case y6g2b=>(rintro w ⟨s0,s1,s2,s3,s4⟩;go_simp;try with_reducible rfl)
  try simp only [zA,zB,zC,Act.put,zD,zE,zF]
  refine wpAnyH_done (by kernel_rfl) ?_ _
  go_wp2
  go_ret2
  exact VPost.own HO10.out (by simp) (by rw [insAt0];rfl) (by simp;omega) HB10.out
theorem ahead_no.walk (A : Option Addr) (c : Nat) (l : List S47) (x : S47) (w : World) (hr : Kd.C k47 w A l.length l) (er : Int) (h : (x.f0 == 0) = true ∧ er = 1 ∨ (x.f0 == 0) = false ∧ l.any (geB x.f0) = true ∧ er = 9) :
  Calls Tryz.prog 108 #[.slice A l.length c,.agg #[.int .u64 x.f0,.string x.f1,.bool x.f2,.int .i64 x.f3]] w (VPost [] er w):=by
 have HR:=zh hr;clear hr
 have HC:=zh (fun (gx : Nat) (W : World) (hb : Below w.heap.size w W) (h0 : W.cell? ⟨gx,0,none⟩ = some (.int .u64 x.f0))=>cont_vs.walk 149 #[.pointer (some ⟨gx,0,none⟩)] A c l (geB x.f0) W (enters Tryz.func149 (by kernel_rfl) (by kernel_rfl)) (Kd.C_below HR.out hb)
  (fun k hk W' hW'=>ahead1.walk l[k] x.f0 gx W' (keepc hW' h0)))
 rcases h with ⟨h0,rfl⟩ | ⟨h0,h1,rfl⟩
 ·clear HC HR
  go_enter Tryz.func108,Tryz.ntmps108
  go_wp2_with (((with_reducible refine gate_dst (N:=3) rfl ?_);go_must (refine box_event ?hg (N:=3) ?hd (cs:=#[.int .u64 x.f0,.string x.f1,.bool x.f2,.int .i64 x.f3]) (t:=47) ?hr ?_;(case hd=>rfl);(case hg=>rfl);(case hr=>first | (go_simp;done) | (go_simp;rfl));intro gx hgx w1 hb1 hbel1;have KX:=zh hb1;have HB1:=zh hbel1;have GX:=zh hgx;clear hb1 hbel1 hgx));have d0:=zb KX.out 0 (.int .u64 x.f0))
  go_ret2
  exact VPost.nil HB1.out
 ·rw [h1] at HC
  clear h1 HR
  go_enter Tryz.func108,Tryz.ntmps108
  go_wp2_with (first
  | (((with_reducible refine gate_dst (N:=3) rfl ?_);go_must (refine box_event ?hg (N:=3) ?hd (cs:=#[.int .u64 x.f0,.string x.f1,.bool x.f2,.int .i64 x.f3]) (t:=47) ?hr ?_;(case hd=>rfl);(case hg=>rfl);(case hr=>first | (go_simp;done) | (go_simp;rfl));intro gx hgx w1 hb1 hbel1;have KX:=zh hb1;have HB1:=zh hbel1;have GX:=zh hgx;clear hb1 hbel1 hgx));have d0:=zb KX.out 0 (.int .u64 x.f0))
   | (go_at_call 148;go_must (refine (HC.out gx w1 HB1.out d0).mono ?_;rintro e wr ⟨rfl,hb⟩;have HBR:=keepB HB1 hb;clear hb)))
  go_ret2
  exact VPost.nil HBR.out
def layV (st : Int) (l : List S47) (x : S47) : List S47 × Int :=
 if st = 1 then (if (x.f0 == 0) = true then ([],1) else if l.any (geB x.f0) = true then ([],9) else (x :: l,0)) else (⟨0,x.f1,x.f2,x.f3⟩ :: delV 0 l,0)
theorem ahead.walk (A : Option Addr) (c : Nat) (l : List S47) (x : S47) (w : World) (hr : Kd.C k47 w A l.length l) (hn : l.length ≤ 999) :
  Calls Tryz.prog 108 #[.slice A l.length c,.agg #[.int .u64 x.f0,.string x.f1,.bool x.f2,.int .i64 x.f3]] w (VPost (layV 1 l x).1 (layV 1 l x).2 w):=by
 unfold layV
 rw [if_pos rfl]
 cases h0 : (x.f0 == 0)
 ·rw [if_neg (by simp)]
  cases h1 : l.any (geB x.f0)
  ·rw [if_neg (by simp)];exact ahead_ok.walk A c l x w hr hn h0 h1
  ·rw [if_pos rfl];exact ahead_no.walk A c l x w hr 9 (Or.inr ⟨h0,h1,rfl⟩)
 ·rw [if_pos rfl];exact ahead_no.walk A c l x w hr 1 (Or.inl ⟨h0,rfl⟩)
end
section
open Go.WideMaps Go.Maps
section
variable {P : Program} {W : World} {ops : Array Oper} {rest : List Oper} {o : Oper} {a : Act} {Q : Exit → Act → World → Prop}
theorem lit_event (hgd : o.guard = none) {N : Tmp} (_hd : o.dst = some N) {cs : Array Value} {t : TypeId} (n : Nat)
  (hrun : (execOp a.eval o).run P W = .ok (.value (.slice (some ⟨W.heap.size,0,none⟩) n n)) (W.alloc (.cells cs t (0,0))))
  (h : ∀ g,g = W.heap.size → ∀ w1,w1.heap[g]? = some (.cells cs t (0,0)) → Below W.heap.size W w1 → wpList P ops Q rest (a.put o.dst (.slice (some ⟨g,0,none⟩) n n)) w1) : wpList P ops Q (o :: rest) a W :=
 Kd.event_run hgd hrun (h _ rfl _ (blk_new W _) (below_alloc (Below.refl _ _) _))
end
theorem chain_le {l : List S47} (h : chainB l = true) : l.length ≤ 20:=by
 unfold chainB at h
 simp only [Bool.and_eq_true,decide_eq_true_eq] at h
 exact h.1
def eqK (key : ByteArray) (x : S56) : Bool:=x.f0.toList == key.toList
def ltK (key : ByteArray) (x : S56) : Bool:=Op.bytesLess x.f0.toList key.toList
def lessN (l : List S56) (key : ByteArray) : Nat:=(l.filter (ltK key)).length
def getE (l : List S56) (key : ByteArray) : List S47:=match l.findIdx? (eqK key) with | some i=>(l.getD i z56).f1 | none=>[]
theorem bless_irr : ∀ l : List UInt8,Op.bytesLess l l = false
 | []=>rfl
 | a :: l=>by unfold Op.bytesLess;simp [bless_irr l]
theorem less_le (l : List S56) (key : ByteArray) : lessN l key ≤ l.length:=List.length_filter_le _ _
theorem less_lt (l : List S56) (key : ByteArray) (h : l.any (eqK key) = true) : lessN l key < l.length:=by
 obtain ⟨x,hx,he⟩:=List.any_eq_true.1 h
 unfold lessN
 rcases Nat.eq_or_lt_of_le (List.length_filter_le (ltK key) l) with h1 | h1
 ·have:=(List.length_filter_eq_length_iff.1 h1) x hx
  unfold eqK at he
  unfold ltK at this
  rw [beq_iff_eq.1 he,bless_irr] at this
  cases this
 ·exact h1
theorem idx_e.walk (f : Nat) (cb : Array Value) (A : Option Addr) (c : Nat) (l : List S56) (p : S56 → Bool) (w : World) (eg : ∀ args w,(callFunc f args).run Tryz.prog w = .ok (.enter f args) w) (hr : Kd.C k56 w A l.length l) (HC : ∀ (k : Nat) (hk : k < l.length) (W : World) (A1 : Option Addr) (c1 : Nat),Below w.heap.size w W → l[k].f1.length ≤ c1 → Kd.C k47 W A1 l[k].f1.length l[k].f1 → Calls Tryz.prog f (#[.agg #[.string l[k].f0,.slice A1 l[k].f1.length c1]] ++ cb) W fun e w'=>e = .returned (.bool (p l[k])) ∧ Below W.heap.size W w') :
  Calls Tryz.prog 145 #[.slice A l.length c,.func (.func f) #[] cb] w fun e w'=>e = .returned (.int .i64 (posI (l.findIdx? p))) ∧ Below w.heap.size w w':=by
 have HR:=zh hr
 have hlen : (l.length : Int) ≤ 9223372036854775807:=by have:=hr.2.1;omega
 have HC:=zh HC
 clear hr
 have HB0 : Hid (Below w.heap.size w w):=Below.refl _ _
 go_enter Tryz.func145,Tryz.ntmps145
 go_wp2
 go_loopw [5,8] (fun _ i wr=>∃ (k : Nat),i = .int .i64 k ∧ k ≤ l.length ∧ Hid (∀ j (hj : j < k) (hl : j < l.length),p l[j] = false) ∧ Hid (Below w.heap.size w wr)) (fun _ i _=>l.length - (intOf i).toNat)
 case atStart=>exact ⟨0,rfl,Nat.zero_le _,fun j hj=>absurd hj (Nat.not_lt_zero _),HB0⟩
 case round =>
  obtain ⟨k,rfl,hk,hall,hb⟩:=hrel
  by_cases hlt : k < l.length
  ·obtain ⟨ad,A1,c1,e',hc0,hc1,hl1,hC1⟩:=atEntry HR.out hb.out k hlt
   subst e'
   have HX:=zh (HC.out k hlt wr A1 c1 hb.out hl1 hC1)
   have HCC1:=zh hC1;clear hC1
   cases hp : p l[k]
   ·have hn : Hid (∀ j (hj : j < k + 1) (hl : j < l.length),p l[j] = false):=fun j hj hl=>by
     rcases Nat.eq_or_lt_of_le (Nat.le_of_lt_succ hj) with rfl | h
     ·exact hp
     ·exact hall.out j h hl
    rw [hp] at HX
    clear hp
    go_wp2_with (refine HX.out.mono ?_;rintro e w1 ⟨rfl,hb1⟩;have HB1:=zh hb1;clear hb1)
    go_roundw
    case rel=>exact ⟨k + 1,by go_num,by omega,hn,keepB hb HB1.out⟩
    case measure=>simp [intOf];omega
   ·have hn : Hid (l.findIdx? p = some k):=by
     unfold Hid
     rw [List.findIdx?_eq_some_iff_getElem]
     exact ⟨hlt,hp,fun j hj=>by rw [hall.out j hj (by omega)];simp⟩
    rw [hp] at HX
    clear hp
    go_wp2_with (refine HX.out.mono ?_;rintro e w1 ⟨rfl,hb1⟩;have HB1:=zh hb1;clear hb1)
    go_ret
    exact ⟨by rw [hn.out];rfl,keepB hb HB1.out⟩
  ·have hn : Hid (l.findIdx? p = none):=by
    unfold Hid
    rw [List.findIdx?_eq_none_iff]
    intro u hu
    obtain ⟨j,hj,rfl⟩:=List.getElem_of_mem hu
    exact hall.out j (by omega) hj
   go_wp2
   go_ret
   exact ⟨by rw [hn.out];rfl,hb.out⟩
theorem findE1.walk (x : S56) (A1 : Option Addr) (c1 : Nat) (key : ByteArray) (b : Nat) (w : World) (h0 : w.cell? ⟨b,0,none⟩ = some (.string key)) :
  Calls Tryz.prog 146 #[.agg #[.string x.f0,.slice A1 x.f1.length c1],.pointer (some ⟨b,0,none⟩)] w fun e w'=>e = .returned (.bool (eqK key x)) ∧ Below w.heap.size w w':=by
 have HB0 : Hid (Below w.heap.size w w):=Below.refl _ _
 have e0:=World.new_ne w _ h0
 have hlt:=World.block_lt_of_cell? w _ h0
 go_enter Tryz.func146,Tryz.ntmps146
 go_wp2
 go_ret
 exact ⟨rfl,HB0.out.alloc (Nat.le_refl _) _⟩
theorem findE.walk (A : Option Addr) (c : Nat) (l : List S56) (key : ByteArray) (w : World) (hr : Kd.C k56 w A l.length l) :
  Calls Tryz.prog 104 #[.slice A l.length c,.string key] w fun e w'=>e = .returned (.int .i64 (posI (l.findIdx? (eqK key)))) ∧ Below w.heap.size w w':=by
 have HA:=zh ((Below.refl w.heap.size w).alloc (Nat.le_refl _) (.cells #[.string key] 9))
 have hnew:=blk_new w (.cells #[.string key] 9)
 have HI:=zh (idx_e.walk 146 #[.pointer (some ⟨w.heap.size,0,none⟩)] A c l (eqK key) (w.alloc (.cells #[.string key] 9)) (enters Tryz.func146 (by kernel_rfl) (by kernel_rfl)) (Kd.C_below hr HA.out)
  (fun k hk W A1 c1 hW _ _=>findE1.walk l[k] A1 c1 key w.heap.size W (keepc hW ((blk_cell hnew 0).trans rfl))))
 clear hr hnew
 generalize posI (l.findIdx? (eqK key)) = r at HI ⊢
 go_enter Tryz.func104,Tryz.ntmps104
 go_wp2_with (go_at_call 145;refine HI.out.mono ?_;rintro e w1 ⟨rfl,hb⟩;have HB:=zh hb;clear hb)
 go_ret
 exact ⟨rfl,keepB HA HB.out⟩
theorem lessE.walk (A : Option Addr) (c : Nat) (l : List S56) (key : ByteArray) (w : World) (hr : Kd.C k56 w A l.length l) :
  Calls Tryz.prog 161 #[.slice A l.length c,.string key] w fun e w'=>e = .returned (.int .i64 (lessN l key)) ∧ Below w.heap.size w w':=by
 have HR:=zh hr
 have hlen : (l.length : Int) ≤ 9223372036854775807:=by have:=hr.2.1;omega
 clear hr
 have HB0 : Hid (Below w.heap.size w w):=Below.refl _ _
 go_enter Tryz.func161,Tryz.ntmps161
 go_wp2
 go_loopw [5,7,10] (fun n _ i wr=>∃ (k m : Nat),i = .int .i64 k ∧ n = .int .i64 m ∧ k ≤ l.length ∧ m ≤ k ∧ Hid (((l.take k).filter (ltK key)).length = m) ∧ Hid (Below w.heap.size w wr)) (fun _ _ i _=>l.length - (intOf i).toNat)
 case atStart=>exact ⟨0,0,rfl,rfl,Nat.zero_le _,Nat.le_refl _,rfl,HB0⟩
 case round =>
  obtain ⟨k,m,rfl,rfl,hk,hm,hf,hb⟩:=hrel
  by_cases hlt : k < l.length
  ·obtain ⟨ad,A1,c1,e',hc0,hc1,_,_⟩:=atEntry HR.out hb.out k hlt
   subst e'
   have HFS:=zh (filter_step l (ltK key) k hlt)
   have HL : Hid (Op.bytesLess l[k].f0.toList key.toList = ltK key l[k]):=rfl
   have hlw:=World.block_lt_of_cell? wr _ hc0
   cases hp : ltK key l[k]
   ·have hn : Hid (((l.take (k + 1)).filter (ltK key)).length = m):=by unfold Hid;rw [HFS.out,hp,List.length_append,hf.out];rfl
    rw [hp] at HL
    have hl:=HL.out
    clear hp HFS
    generalize l[k] = x at *
    go_wp2
    go_roundw
    case rel=>exact ⟨k + 1,m,by go_num,rfl,by omega,by omega,hn,hb.out.alloc hb.out.size _⟩
    case measure=>simp [intOf];omega
   ·have hn : Hid (((l.take (k + 1)).filter (ltK key)).length = m + 1):=by unfold Hid;rw [HFS.out,hp,List.length_append,hf.out];rfl
    rw [hp] at HL
    have hl:=HL.out
    clear hp HFS
    generalize l[k] = x at *
    go_wp2
    go_roundw
    case rel=>exact ⟨k + 1,m + 1,by go_num,by go_num,by omega,by omega,hn,hb.out.alloc hb.out.size _⟩
    case measure=>simp [intOf];omega
  ·obtain rfl : k = l.length:=by omega
   have hn : Hid (lessN l key = m):=by have:=hf.out;rw [List.take_length] at this;exact this
   go_wp2
   go_ret
   exact ⟨by rw [hn.out];rfl,hb.out⟩
theorem getE.walk (A : Option Addr) (c : Nat) (l : List S56) (key : ByteArray) (w : World) (hr : Kd.C k56 w A l.length l) (hn : ∀ x ∈ l,x.f1.length ≤ 1000000) :
  Calls Tryz.prog 49 #[.slice A l.length c,.string key] w fun e w'=>∃ A' c',e = .returned (.slice A' (getE l key).length c') ∧ (getE l key).length ≤ c' ∧ Hid (Kd.C k47 w' A' (getE l key).length (getE l key)) ∧ Below w.heap.size w w':=by
 have HFD:=zh (findE.walk A c l key w hr)
 cases hf : l.findIdx? (eqK key) with
 | none =>
  have e : getE l key = []:=by unfold getE;rw [hf]
  rw [e]
  rw [hf,show posI none = -1 from rfl] at HFD
  clear hr hf e
  go_enter Tryz.func49,Tryz.ntmps49
  go_wp2_with (go_at_call 104;refine HFD.out.mono ?_;rintro e w1 ⟨rfl,hb⟩;have HB1:=zh hb;clear hb)
  go_ret
  exact ⟨none,0,rfl,Nat.le_refl _,C_mt _ _ _,HB1.out⟩
 | some k =>
  obtain ⟨hk,_⟩:=filter_start l _ k hf
  have e : getE l key = l[k].f1:=by unfold getE;rw [hf];simp [List.getD_eq_getElem?_getD,hk]
  rw [e]
  rw [hf,show posI (some k) = k from rfl] at HFD
  obtain ⟨ad,A1,c1,e',g0,g1,gl,gC⟩:=atEntry hr (Below.refl _ _) k hk
  subst e'
  have G1:=zh g1
  have HCL:=zh (fun (W : World) (h : Below w.heap.size w W)=>clone_v.calls A1 c1 l[k].f1 W (Kd.C_below gC h) (hn _ (List.getElem_mem hk)))
  generalize l[k].f1 = x at *
  have d0 : (k : Int) < (l.length : Int):=by omega
  have d1 : ¬ ((k : Int) < 0):=by omega
  clear hr hf e g0 g1 gC hn
  go_enter Tryz.func49,Tryz.ntmps49
  go_wp2_with (first | (go_at_call 104;go_must (refine HFD.out.mono ?_;rintro e w1 ⟨rfl,hb⟩;have HB1:=zh hb;have a1:=keepc hb G1.out;clear hb)) | (go_at_call 105;go_must (refine (HCL.out _ HB1.out).mono ?_;rintro e w2 ⟨A2,c2,rfl,hc2,hC2,hb⟩;have HC2:=hC2;have HB2:=keepB HB1 hb;clear hb hC2)))
  go_ret
  exact ⟨A2,c2,rfl,hc2,HC2,HB2.out⟩
end
section
open Go.WideMaps Go.Maps
attribute [local go_sem] Oper.semAt_some
def putL (l : List S56) (key : ByteArray) (ch : List S47) : List S56 :=
 l.take (lessN l key) ++ (if ch.length = 0 then [] else [⟨key,ch⟩]) ++ l.drop (lessN l key + (if l.any (eqK key) = true then 1 else 0))
def putE (l : List S56) (key : ByteArray) (ch : List S47) : List S56 × Int :=
 if indexB l = false ∨ keyB key = false ∨ chainB ch = false then ([],1)
 else if 60 < (putL l key ch).length then ([],6) else (putL l key ch,0)
/-- a slice of entries and an error's number -/
def EPost (l : List S56) (er : Int) (w : World) (e : Ending) (w' : World) : Prop:=∃ A c,e = .returned (.tuple #[.slice A l.length c,.int .i64 er]) ∧ l.length ≤ c ∧ Hid (Kd.C k56 w' A l.length l) ∧ Below w.heap.size w w'
theorem EPost.nil {er : Int} {w w' : World} (hb : Below w.heap.size w w') : EPost [] er w (.returned (.tuple #[.slice none 0 0,.int .i64 er])) w':=⟨none,0,rfl,Nat.le_refl _,C_mt _ _ _,hb⟩
theorem putE_no (A A2 : Option Addr) (c c2 : Nat) (l : List S56) (key : ByteArray) (ch : List S47) (w : World) (hr : Kd.C k56 w A l.length l) (h2 : Kd.C k47 w A2 ch.length ch) (hb : indexB l = false ∨ keyB key = false ∨ chainB ch = false) :
  Calls Tryz.prog 132 #[.slice A l.length c,.string key,.slice A2 ch.length c2] w (EPost [] 1 w):=by
 have HIX:=zh (index.walk A c l w hr)
 have HKY:=zh (fun (W : World)=>name_Key.calls key _ W rfl)
 have HCH:=zh (fun (W : World) (h : Below w.heap.size w W)=>chain.walk A2 c2 ch W (Kd.C_below h2 h))
 clear hr h2
 cases q1 : indexB l
 ·rw [q1] at HIX
  rw [show errB false = 1 from rfl] at HIX
  clear q1 hb
  go_enter Tryz.func132,Tryz.ntmps132
  go_wp2_with (go_at_call 67;refine HIX.out.mono ?_;rintro e w1 ⟨rfl,hb⟩;have HB1:=zh hb;clear hb)
  go_ret2
  exact EPost.nil HB1.out
 ·rw [q1] at HIX
  rw [show errB true = 0 from rfl] at HIX
  cases q2 : keyB key
  ·rw [q2] at HKY
   clear q1 q2 hb
   go_enter Tryz.func132,Tryz.ntmps132
   go_wp2_with (first | (go_at_call 67;refine HIX.out.mono ?_;rintro e w1 ⟨rfl,hb⟩;have HB1:=zh hb;clear hb) | (go_at_call 77;refine (HKY.out _).mono ?_;rintro e w2 ⟨rfl,hb⟩;have HB2:=keepB HB1 hb;clear hb))
   go_ret2
   exact EPost.nil HB2.out
  ·rw [q2] at HKY
   have q3 : chainB ch = false:=by
    rcases hb with h | h | h
    ·rw [q1] at h;cases h
    ·rw [q2] at h;cases h
    ·exact h
   rw [q3] at HCH
   rw [show errB false = 1 from rfl] at HCH
   clear q1 q2 q3 hb
   go_enter Tryz.func132,Tryz.ntmps132
   go_wp2_with (first | (go_at_call 67;refine HIX.out.mono ?_;rintro e w1 ⟨rfl,hb⟩;have HB1:=zh hb;clear hb) | (go_at_call 77;refine (HKY.out _).mono ?_;rintro e w2 ⟨rfl,hb⟩;have HB2:=keepB HB1 hb;clear hb) | (go_at_call 109;refine (HCH.out _ HB2.out).mono ?_;rintro e w3 ⟨rfl,hb⟩;have HB3:=keepB HB2 hb;clear hb))
   go_ret2
   exact EPost.nil HB3.out
theorem drop_A {w : World} {A : Option Addr} {l : List S56} (h : Kd.C k56 w A l.length l) (k c : Nat) (hk : k ≤ l.length) (hc : l.length ≤ c) {B : Option Addr} (hB : c ≠ k → ∀ ad,A = some ad → B = some (ad.add (k * 2))) : Kd.C k56 w B (l.length - k) (l.drop k):=by
 rcases Nat.eq_or_lt_of_le hk with rfl | hlt
 ·rw [Nat.sub_self,List.drop_length];exact C_mt _ _ _
 ·obtain ⟨ad,rfl⟩:=C_addr h (by omega)
  rw [hB (by omega) ad rfl]
  exact C_drop h k hk
theorem one_C {w : World} {x : S56} {c : List Value} {g : Nat} (h : k56.K w x c) (hr : RawAt w ⟨g,0,none⟩ c) : Kd.C k56 w (some ⟨g,0,none⟩) 1 [x]:=by
 have:=rows_C (RowsOf.one_ x c h) (by simpa using hr) (by simp)
 simpa using this
theorem blkRaw {w : World} {g : Nat} {cs : List Value} {t : TypeId} (h : w.heap[g]? = some (.cells cs.toArray t (0,0))) : RawAt w ⟨g,0,none⟩ cs:=by
 intro j u hu
 rw [add_at,Nat.zero_add,blk_cell h]
 simpa using hu
theorem putE_tt (ad : Addr) (A2 : Option Addr) (c c2 : Nat) (l : List S56) (key : ByteArray) (ch : List S47) (w : World) (hr : Kd.C k56 w (some ad) l.length l) (hc : l.length ≤ c) (h2 : Kd.C k47 w A2 ch.length ch) (hc2 : ch.length ≤ c2)
  (q1 : indexB l = true) (q2 : keyB key = true) (q3 : chainB ch = true) (q4 : l.any (eqK key) = true) (q5 : 0 < ch.length) (i : Nat) (hi : i = lessN l key) (hil : i ≤ l.length) (hbh : (i + 1) ≤ l.length) (res : List S56 × Int) (hres : 60 < ((l.take i ++ [(⟨key,ch⟩ : S56)]) ++ l.drop (i + 1)).length ∧ res = (([] : List S56),(6 : Int)) ∨ ¬ 60 < ((l.take i ++ [(⟨key,ch⟩ : S56)]) ++ l.drop (i + 1)).length ∧ res = (((l.take i ++ [(⟨key,ch⟩ : S56)]) ++ l.drop (i + 1)),0)) :
  Calls Tryz.prog 132 #[.slice (some ad) l.length c,.string key,.slice A2 ch.length c2] w (EPost res.1 res.2 w):=by
 have HIX:=zh (index.walk (some ad) c l w hr)
 have HKY:=zh (fun (W : World)=>name_Key.calls key _ W rfl)
 have HCH:=zh (fun (W : World) (h : Below w.heap.size w W)=>chain.walk A2 c2 ch W (Kd.C_below h2 h))
 have HAT:=zh (fun (W : World) (h : Below w.heap.size w W)=>lessE.walk (some ad) c l key W (Kd.C_below hr h))
 have HFD:=zh (fun (W : World) (h : Below w.heap.size w W)=>findE.walk (some ad) c l key W (Kd.C_below hr h))
 have HCL:=zh (fun (W : World) (h : Below w.heap.size w W)=>clone_v.calls A2 c2 ch W (Kd.C_below h2 h) (by have:=chain_le q3;omega))
 have HR:=zh hr
 have HNI : Hid (((some ad) : Option Addr) = none → i = 0):=fun h=>(by cases h)
 have hl60:=(index_at q1).1
 have dth:=pos_any l (eqK key)
 rw [q4] at dth
 rw [q1,show errB true = 0 from rfl] at HIX
 rw [q2] at HKY
 rw [q3,show errB true = 0 from rfl] at HCH
 rw [← hi] at HAT
 generalize posI (l.findIdx? (eqK key)) = r at *
 clear q1 q2 q3 q4 hr h2 hi
 have e0 : (i : Int) ≤ (l.length : Int):=by omega
 have e1 : (i : Int) ≤ (c : Int):=by omega
 have e2 : (0 : Int) ≤ (i : Int):=by omega
 have e3 : IntKind.i64.wrap ((i : Int) + 1) = (i : Int) + 1:=by rw [IntKind.wrap_i64];omega
 have e4 : ((l.length : Nat) : Int) ≤ (c : Int):=by omega
 have e6 : (0 : Int) ≤ (i : Int) + 1:=by omega
 have e7 : ((i : Int) + 1).toNat = i + 1:=by omega
 have dch : decide ((0 : Int) < (ch.length : Int)) = true:=decide_eq_true (by omega)
 have dcn : decide (0 < ch.length) = true:=decide_eq_true (by omega)
 have dcp : 0 < ch.length:=by omega
 clear q5
 have e5 : (i : Int) + 1 ≤ (l.length : Int):=by omega
 go_enter Tryz.func132,Tryz.ntmps132
 go_wp2_with (first
  | (go_at_call 67;go_must (refine HIX.out.mono ?_;rintro e w1 ⟨rfl,hb⟩;have HB1:=zh hb;clear hb))
  | (go_at_call 77;go_must (refine (HKY.out _).mono ?_;rintro e w2 ⟨rfl,hb⟩;have HB2:=keepB HB1 hb;clear hb))
  | (go_at_call 109;go_must (refine (HCH.out _ HB2.out).mono ?_;rintro e w3 ⟨rfl,hb⟩;have HB3:=keepB HB2 hb;clear hb))
  | (go_at_call 161;go_must (refine (HAT.out _ HB3.out).mono ?_;rintro e w4 ⟨rfl,hb⟩;have HB4:=keepB HB3 hb;clear hb))
  | (go_at_call 104;go_must (refine (HFD.out _ HB4.out).mono ?_;rintro e w5 ⟨rfl,hb⟩;have HB5:=keepB HB4 hb;clear hb))
  | (go_at_call 105;go_must (refine (HCL.out _ HB5.out).mono ?_;rintro e w6 ⟨A6,c6,rfl,hc6,hC6,hb⟩;have HC6:=hC6;have HB6:=keepB HB5 hb;clear hb hC6))
  | ((with_reducible refine gate_dst (N:=48) rfl ?_);go_must (refine lit_event ?hg (N:=48) ?hd (cs:=#[.string key,.slice A6 ch.length c6]) (t:=56) 1 ?hr ?_;(case hd=>rfl);(case hg=>rfl);(case hr=>first | (go_simp;done) | (go_simp;rfl));intro gb hgb w7 hb7 hbel7;have HB7:=keepB HB6 hbel7;have HE7:=zh (one_C (k56_mk w7 (⟨key,ch⟩ : S56) hc6 (Kd.C_below HC6.out hbel7)) (blkRaw (cs:=[.string key,.slice A6 ch.length c6]) hb7));clear hgb hb7 hbel7))
  | ((with_reducible refine gate_builtin (b:=.append) (xs:=#[.tmp 43,.tmp 48]) rfl ?_);go_must (obtain ⟨iz,hi,hy0,hy1,hy2⟩:=info_parts info56;refine wpList_append_C (d:=k56) rfl (.tmp 43) (.tmp 48) 22 rfl 56 iz _ 40 Tryz.underlying22 hi hy0 hy1 hy2 rfl (by decide) (some ad) i i (l.take i) rfl (C_take (Kd.C_below HR.out HB7.out) i (by omega)) (fun h=>HNI.out (by first | exact h | trivial)) (some ⟨gb,0,none⟩) 1 1 [(⟨key,ch⟩ : S56)] rfl HE7.out (Nat.le_refl _) (Or.inl (by omega)) (by omega) (by decide) ?_;intro AX cX wX hCX hcX hnX hbX;obtain ⟨ax,rfl⟩:=C_addr hCX.out (by omega);have HCX:=hCX;have HBX:=keepB HB7 hbX.out;have x1 : ((i + 1 : Nat) : Int) ≤ (cX : Int):=(by omega);have x2 : (i : Int) + 1 ≤ (cX : Int):=(by omega);clear hCX hnX hbX)))
 have HXX:=zc HCX (below_drew (Below.refl _ wX))
 have HBZ:=zh HBX.out.drew
 refine wp_region_held_drew (S:=fun W=>Kd.C k56 W (some ax) (i + 1) (l.take i ++ [(⟨key,ch⟩ : S56)]) ∧ Below w.heap.size w W) (by kernel_rfl) ?_ (fun hHeld=>?_)
 ·exact ⟨HXX.out,HBZ.out⟩
 clear HXX HBZ
 generalize wX.drew = wz at hHeld ⊢
 refine zt 0 (v:=?v0g1) ?y0g1 ?r0g1
 case y0g1=>(rintro w ⟨s0,s1⟩;go_simp;try with_reducible rfl)
 try simp only [zA,zB,zC,Act.put,zD,zE,zF]
 refine zt 1 (v:=?v1g1) ?y1g1 ?r1g1
 case y1g1=>(rintro w ⟨s0,s1⟩;go_simp;try with_reducible rfl)
 try simp only [zA,zB,zC,Act.put,zD,zE,zF]
 refine zt 2 (v:=?v2g1) ?y2g1 ?r2g1
 case y2g1=>(rintro w ⟨s0,s1⟩;go_simp;try with_reducible rfl)
 try simp only [zA,zB,zC,Act.put,zD,zE,zF]
 refine zt 3 (v:=?v3g1) ?y3g1 ?r3g1
 case y3g1=>(rintro w ⟨s0,s1⟩;go_simp;try with_reducible rfl)
 try simp only [zA,zB,zC,Act.put,zD,zE,zF]
 refine zt 4 (v:=?v4g1) ?y4g1 ?r4g1
 case y4g1=>(rintro w ⟨s0,s1⟩;go_simp;try with_reducible rfl)
 try simp only [zA,zB,zC,Act.put,zD,zE,zF]
 refine zt 5 (v:=?v5g1) ?y5g1 ?r5g1
 case y5g1=>(rintro w ⟨s0,s1⟩;go_simp;try with_reducible rfl)
 try simp only [zA,zB,zC,Act.put,zD,zE,zF]
 refine zt 6 (v:=?v6g1) ?y6g1 ?r6g1
 case y6g1=>(rintro w ⟨s0,s1⟩;go_simp;try with_reducible rfl)
 try simp only [zA,zB,zC,Act.put,zD,zE,zF]
 refine zt 7 (v:=?v7g1) ?y7g1 ?r7g1
 case y7g1=>(rintro w ⟨s0,s1⟩;go_simp;try with_reducible rfl)
 try simp only [zA,zB,zC,Act.put,zD,zE,zF]
 refine zt 8 (v:=?v8g1) ?y8g1 ?r8g1
 case y8g1=>(rintro w ⟨s0,s1⟩;go_simp;try with_reducible rfl)
 try simp only [zA,zB,zC,Act.put,zD,zE,zF]
 refine wpAnyH_ready (rs:=[9]) (by kernel_rfl) (by simp) ?_
 refine AllReadyH.cons (o:=_) rfl (fun K hK=>?_) AllReadyH.nil
 rw [if_pos (by rfl)]
 obtain ⟨s0,s1⟩:=hHeld
 obtain ⟨iz,hi,hy0,hy1,hy2⟩:=info_parts info56
 refine wp_append_C (d:=k56) (.tmp 55) (.tmp 58) 22 rfl 56 iz _ 40 Tryz.underlying22 hi hy0 hy1 hy2 rfl (by decide) (some ax) (i + 1) (i + 1) (l.take i ++ [(⟨key,ch⟩ : S56)]) rfl s0 (fun h=>by cases h) _ (l.length - (i + 1)) (c - (i + 1)) (l.drop (i + 1)) rfl (drop_A (Kd.C_below HR.out s1) (i + 1) c (by omega) hc (by intro hne ad e;injection e with e;subst e;simp [hne])) (Nat.le_refl _) (by omega) (by omega) (by decide) ?_
 intro AY cY wY hCY hcY hnY hbY
 obtain ⟨ln,hln⟩ : ∃ ln,ln = (i + 1) + (l.length - (i + 1)):=⟨_,rfl⟩
 rw [← hln] at hCY hcY ⊢
 have HCY:=hCY
 have HBY:=zh (s1.trans (hbY.out.mono s1.size))
 clear hln
 refine hK.out _ _ ⟨Kd.C_below s0 hbY.out,HBY.out⟩ (fun hHeld=>?_)
 clear hK K s0 s1 hCY hnY hbY
 try simp only [zA,zB,zC,Act.put,zD,zE,zF]
 refine zt 10 (v:=?v10g1) ?y10g1 ?r10g1
 case y10g1=>(rintro w ⟨s0,s1⟩;go_simp;try with_reducible rfl)
 try simp only [zA,zB,zC,Act.put,zD,zE,zF]
 refine wpAnyH_done (by kernel_rfl) ?_ _
 have hly:=zh (C_len HCY.out)
 clear hHeld
 by_cases h60 : 60 < ln
 ·have d60 : decide ((60 : Int) < (ln : Int)) = true:=by simp;omega
  go_wp2
  all_goals go_ret2
  all_goals (rcases hres with ⟨hr1,hr2⟩ | ⟨hr1,hr2⟩)
  all_goals first | exact absurd (by rw [← hly.out];exact h60) hr1 | (rw [hr2];exact EPost.nil HBY.out)
 ·have d60 : decide ((60 : Int) < (ln : Int)) = false:=by simp;omega
  go_wp2
  all_goals go_ret2
  all_goals (rcases hres with ⟨hr1,hr2⟩ | ⟨hr1,hr2⟩)
  all_goals first
   | exact absurd (by rw [hly.out];exact hr1) h60
   | (rw [hr2];have hly:=hly.out;subst hly;exact ⟨AY,cY,rfl,hcY,HCY,HBY.out⟩)
theorem putE_tn (ad : Addr) (A2 : Option Addr) (c c2 : Nat) (l : List S56) (key : ByteArray) (ch : List S47) (w : World) (hr : Kd.C k56 w (some ad) l.length l) (hc : l.length ≤ c) (h2 : Kd.C k47 w A2 ch.length ch) (hc2 : ch.length ≤ c2)
  (q1 : indexB l = true) (q2 : keyB key = true) (q3 : chainB ch = true) (q4 : l.any (eqK key) = true) (q5 : ch.length = 0) (i : Nat) (hi : i = lessN l key) (hil : i ≤ l.length) (hbh : (i + 1) ≤ l.length) (res : List S56 × Int) (hres : 60 < ((l.take i) ++ l.drop (i + 1)).length ∧ res = (([] : List S56),(6 : Int)) ∨ ¬ 60 < ((l.take i) ++ l.drop (i + 1)).length ∧ res = (((l.take i) ++ l.drop (i + 1)),0)) :
  Calls Tryz.prog 132 #[.slice (some ad) l.length c,.string key,.slice A2 ch.length c2] w (EPost res.1 res.2 w):=by
 have HIX:=zh (index.walk (some ad) c l w hr)
 have HKY:=zh (fun (W : World)=>name_Key.calls key _ W rfl)
 have HCH:=zh (fun (W : World) (h : Below w.heap.size w W)=>chain.walk A2 c2 ch W (Kd.C_below h2 h))
 have HAT:=zh (fun (W : World) (h : Below w.heap.size w W)=>lessE.walk (some ad) c l key W (Kd.C_below hr h))
 have HFD:=zh (fun (W : World) (h : Below w.heap.size w W)=>findE.walk (some ad) c l key W (Kd.C_below hr h))
 have HCL:=zh (fun (W : World) (h : Below w.heap.size w W)=>clone_v.calls A2 c2 ch W (Kd.C_below h2 h) (by have:=chain_le q3;omega))
 have HR:=zh hr
 have HNI : Hid (((some ad) : Option Addr) = none → i = 0):=fun h=>(by cases h)
 have hl60:=(index_at q1).1
 have dth:=pos_any l (eqK key)
 rw [q4] at dth
 rw [q1,show errB true = 0 from rfl] at HIX
 rw [q2] at HKY
 rw [q3,show errB true = 0 from rfl] at HCH
 rw [← hi] at HAT
 generalize posI (l.findIdx? (eqK key)) = r at *
 clear q1 q2 q3 q4 hr h2 hi
 have e0 : (i : Int) ≤ (l.length : Int):=by omega
 have e1 : (i : Int) ≤ (c : Int):=by omega
 have e2 : (0 : Int) ≤ (i : Int):=by omega
 have e3 : IntKind.i64.wrap ((i : Int) + 1) = (i : Int) + 1:=by rw [IntKind.wrap_i64];omega
 have e4 : ((l.length : Nat) : Int) ≤ (c : Int):=by omega
 have e6 : (0 : Int) ≤ (i : Int) + 1:=by omega
 have e7 : ((i : Int) + 1).toNat = i + 1:=by omega
 have dch : decide ((0 : Int) < (ch.length : Int)) = false:=decide_eq_false (by omega)
 have dcn : decide (0 < ch.length) = false:=decide_eq_false (by omega)
 have dcp : ¬ 0 < ch.length:=by omega
 clear q5
 have e5 : (i : Int) + 1 ≤ (l.length : Int):=by omega
 go_enter Tryz.func132,Tryz.ntmps132
 go_wp2_with (first
  | (go_at_call 67;go_must (refine HIX.out.mono ?_;rintro e w1 ⟨rfl,hb⟩;have HB1:=zh hb;clear hb))
  | (go_at_call 77;go_must (refine (HKY.out _).mono ?_;rintro e w2 ⟨rfl,hb⟩;have HB2:=keepB HB1 hb;clear hb))
  | (go_at_call 109;go_must (refine (HCH.out _ HB2.out).mono ?_;rintro e w3 ⟨rfl,hb⟩;have HB3:=keepB HB2 hb;clear hb))
  | (go_at_call 161;go_must (refine (HAT.out _ HB3.out).mono ?_;rintro e w4 ⟨rfl,hb⟩;have HB4:=keepB HB3 hb;clear hb))
  | (go_at_call 104;go_must (refine (HFD.out _ HB4.out).mono ?_;rintro e w5 ⟨rfl,hb⟩;have HB5:=keepB HB4 hb;clear hb)))
 have HXX:=zh (C_take (Kd.C_below HR.out HB5.out.drew) i (by omega))
 have HBZ:=zh HB5.out.drew
 refine wp_region_held_drew (S:=fun W=>Kd.C k56 W (some ad) i (l.take i) ∧ Below w.heap.size w W) (by kernel_rfl) ?_ (fun hHeld=>?_)
 ·exact ⟨HXX.out,HBZ.out⟩
 clear HXX HBZ
 generalize w5.drew = wz at hHeld ⊢
 refine zt 0 (v:=?v0g2) ?y0g2 ?r0g2
 case y0g2=>(rintro w ⟨s0,s1⟩;go_simp;try with_reducible rfl)
 try simp only [zA,zB,zC,Act.put,zD,zE,zF]
 refine zt 1 (v:=?v1g2) ?y1g2 ?r1g2
 case y1g2=>(rintro w ⟨s0,s1⟩;go_simp;try with_reducible rfl)
 try simp only [zA,zB,zC,Act.put,zD,zE,zF]
 refine zt 2 (v:=?v2g2) ?y2g2 ?r2g2
 case y2g2=>(rintro w ⟨s0,s1⟩;go_simp;try with_reducible rfl)
 try simp only [zA,zB,zC,Act.put,zD,zE,zF]
 refine zt 3 (v:=?v3g2) ?y3g2 ?r3g2
 case y3g2=>(rintro w ⟨s0,s1⟩;go_simp;try with_reducible rfl)
 try simp only [zA,zB,zC,Act.put,zD,zE,zF]
 refine zt 4 (v:=?v4g2) ?y4g2 ?r4g2
 case y4g2=>(rintro w ⟨s0,s1⟩;go_simp;try with_reducible rfl)
 try simp only [zA,zB,zC,Act.put,zD,zE,zF]
 refine zt 5 (v:=?v5g2) ?y5g2 ?r5g2
 case y5g2=>(rintro w ⟨s0,s1⟩;go_simp;try with_reducible rfl)
 try simp only [zA,zB,zC,Act.put,zD,zE,zF]
 refine zt 6 (v:=?v6g2) ?y6g2 ?r6g2
 case y6g2=>(rintro w ⟨s0,s1⟩;go_simp;try with_reducible rfl)
 try simp only [zA,zB,zC,Act.put,zD,zE,zF]
 refine zt 7 (v:=?v7g2) ?y7g2 ?r7g2
 case y7g2=>(rintro w ⟨s0,s1⟩;go_simp;try with_reducible rfl)
 try simp only [zA,zB,zC,Act.put,zD,zE,zF]
 refine zt 8 (v:=?v8g2) ?y8g2 ?r8g2
 case y8g2=>(rintro w ⟨s0,s1⟩;go_simp;try with_reducible rfl)
 try simp only [zA,zB,zC,Act.put,zD,zE,zF]
 refine wpAnyH_ready (rs:=[9]) (by kernel_rfl) (by simp) ?_
 refine AllReadyH.cons (o:=_) rfl (fun K hK=>?_) AllReadyH.nil
 rw [if_pos (by rfl)]
 obtain ⟨s0,s1⟩:=hHeld
 obtain ⟨iz,hi,hy0,hy1,hy2⟩:=info_parts info56
 refine wp_append_C (d:=k56) (.tmp 55) (.tmp 58) 22 rfl 56 iz _ 40 Tryz.underlying22 hi hy0 hy1 hy2 rfl (by decide) (some ad) i i (l.take i) rfl s0 (fun h=>HNI.out (by first | exact h | trivial)) _ (l.length - (i + 1)) (c - (i + 1)) (l.drop (i + 1)) rfl (drop_A (Kd.C_below HR.out s1) (i + 1) c (by omega) hc (by intro hne ad e;injection e with e;subst e;simp [hne])) (Nat.le_refl _) (by omega) (by omega) (by decide) ?_
 intro AY cY wY hCY hcY hnY hbY
 obtain ⟨ln,hln⟩ : ∃ ln,ln = i + (l.length - (i + 1)):=⟨_,rfl⟩
 rw [← hln] at hCY hcY ⊢
 have HCY:=hCY
 have HBY:=zh (s1.trans (hbY.out.mono s1.size))
 clear hln
 refine hK.out _ _ ⟨Kd.C_below s0 hbY.out,HBY.out⟩ (fun hHeld=>?_)
 clear hK K s0 s1 hCY hnY hbY
 try simp only [zA,zB,zC,Act.put,zD,zE,zF]
 refine zt 10 (v:=?v10g2) ?y10g2 ?r10g2
 case y10g2=>(rintro w ⟨s0,s1⟩;go_simp;try with_reducible rfl)
 try simp only [zA,zB,zC,Act.put,zD,zE,zF]
 refine wpAnyH_done (by kernel_rfl) ?_ _
 have hly:=zh (C_len HCY.out)
 clear hHeld
 by_cases h60 : 60 < ln
 ·have d60 : decide ((60 : Int) < (ln : Int)) = true:=by simp;omega
  go_wp2
  all_goals go_ret2
  all_goals (rcases hres with ⟨hr1,hr2⟩ | ⟨hr1,hr2⟩)
  all_goals first | exact absurd (by rw [← hly.out];exact h60) hr1 | (rw [hr2];exact EPost.nil HBY.out)
 ·have d60 : decide ((60 : Int) < (ln : Int)) = false:=by simp;omega
  go_wp2
  all_goals go_ret2
  all_goals (rcases hres with ⟨hr1,hr2⟩ | ⟨hr1,hr2⟩)
  all_goals first
   | exact absurd (by rw [hly.out];exact hr1) h60
   | (rw [hr2];have hly:=hly.out;subst hly;exact ⟨AY,cY,rfl,hcY,HCY,HBY.out⟩)
theorem putE_ft (ad : Addr) (A2 : Option Addr) (c c2 : Nat) (l : List S56) (key : ByteArray) (ch : List S47) (w : World) (hr : Kd.C k56 w (some ad) l.length l) (hc : l.length ≤ c) (h2 : Kd.C k47 w A2 ch.length ch) (hc2 : ch.length ≤ c2)
  (q1 : indexB l = true) (q2 : keyB key = true) (q3 : chainB ch = true) (q4 : l.any (eqK key) = false) (q5 : 0 < ch.length) (i : Nat) (hi : i = lessN l key) (hil : i ≤ l.length) (hbh : i ≤ l.length) (res : List S56 × Int) (hres : 60 < ((l.take i ++ [(⟨key,ch⟩ : S56)]) ++ l.drop i).length ∧ res = (([] : List S56),(6 : Int)) ∨ ¬ 60 < ((l.take i ++ [(⟨key,ch⟩ : S56)]) ++ l.drop i).length ∧ res = (((l.take i ++ [(⟨key,ch⟩ : S56)]) ++ l.drop i),0)) :
  Calls Tryz.prog 132 #[.slice (some ad) l.length c,.string key,.slice A2 ch.length c2] w (EPost res.1 res.2 w):=by
 have HIX:=zh (index.walk (some ad) c l w hr)
 have HKY:=zh (fun (W : World)=>name_Key.calls key _ W rfl)
 have HCH:=zh (fun (W : World) (h : Below w.heap.size w W)=>chain.walk A2 c2 ch W (Kd.C_below h2 h))
 have HAT:=zh (fun (W : World) (h : Below w.heap.size w W)=>lessE.walk (some ad) c l key W (Kd.C_below hr h))
 have HFD:=zh (fun (W : World) (h : Below w.heap.size w W)=>findE.walk (some ad) c l key W (Kd.C_below hr h))
 have HCL:=zh (fun (W : World) (h : Below w.heap.size w W)=>clone_v.calls A2 c2 ch W (Kd.C_below h2 h) (by have:=chain_le q3;omega))
 have HR:=zh hr
 have HNI : Hid (((some ad) : Option Addr) = none → i = 0):=fun h=>(by cases h)
 have hl60:=(index_at q1).1
 have dth:=pos_any l (eqK key)
 rw [q4] at dth
 rw [q1,show errB true = 0 from rfl] at HIX
 rw [q2] at HKY
 rw [q3,show errB true = 0 from rfl] at HCH
 rw [← hi] at HAT
 generalize posI (l.findIdx? (eqK key)) = r at *
 clear q1 q2 q3 q4 hr h2 hi
 have e0 : (i : Int) ≤ (l.length : Int):=by omega
 have e1 : (i : Int) ≤ (c : Int):=by omega
 have e2 : (0 : Int) ≤ (i : Int):=by omega
 have e3 : IntKind.i64.wrap ((i : Int) + 1) = (i : Int) + 1:=by rw [IntKind.wrap_i64];omega
 have e4 : ((l.length : Nat) : Int) ≤ (c : Int):=by omega
 have e6 : (0 : Int) ≤ (i : Int) + 1:=by omega
 have e7 : ((i : Int) + 1).toNat = i + 1:=by omega
 have dch : decide ((0 : Int) < (ch.length : Int)) = true:=decide_eq_true (by omega)
 have dcn : decide (0 < ch.length) = true:=decide_eq_true (by omega)
 have dcp : 0 < ch.length:=by omega
 clear q5
 go_enter Tryz.func132,Tryz.ntmps132
 go_wp2_with (first
  | (go_at_call 67;go_must (refine HIX.out.mono ?_;rintro e w1 ⟨rfl,hb⟩;have HB1:=zh hb;clear hb))
  | (go_at_call 77;go_must (refine (HKY.out _).mono ?_;rintro e w2 ⟨rfl,hb⟩;have HB2:=keepB HB1 hb;clear hb))
  | (go_at_call 109;go_must (refine (HCH.out _ HB2.out).mono ?_;rintro e w3 ⟨rfl,hb⟩;have HB3:=keepB HB2 hb;clear hb))
  | (go_at_call 161;go_must (refine (HAT.out _ HB3.out).mono ?_;rintro e w4 ⟨rfl,hb⟩;have HB4:=keepB HB3 hb;clear hb))
  | (go_at_call 104;go_must (refine (HFD.out _ HB4.out).mono ?_;rintro e w5 ⟨rfl,hb⟩;have HB5:=keepB HB4 hb;clear hb))
  | (go_at_call 105;go_must (refine (HCL.out _ HB5.out).mono ?_;rintro e w6 ⟨A6,c6,rfl,hc6,hC6,hb⟩;have HC6:=hC6;have HB6:=keepB HB5 hb;clear hb hC6))
  | ((with_reducible refine gate_dst (N:=48) rfl ?_);go_must (refine lit_event ?hg (N:=48) ?hd (cs:=#[.string key,.slice A6 ch.length c6]) (t:=56) 1 ?hr ?_;(case hd=>rfl);(case hg=>rfl);(case hr=>first | (go_simp;done) | (go_simp;rfl));intro gb hgb w7 hb7 hbel7;have HB7:=keepB HB6 hbel7;have HE7:=zh (one_C (k56_mk w7 (⟨key,ch⟩ : S56) hc6 (Kd.C_below HC6.out hbel7)) (blkRaw (cs:=[.string key,.slice A6 ch.length c6]) hb7));clear hgb hb7 hbel7))
  | ((with_reducible refine gate_builtin (b:=.append) (xs:=#[.tmp 43,.tmp 48]) rfl ?_);go_must (obtain ⟨iz,hi,hy0,hy1,hy2⟩:=info_parts info56;refine wpList_append_C (d:=k56) rfl (.tmp 43) (.tmp 48) 22 rfl 56 iz _ 40 Tryz.underlying22 hi hy0 hy1 hy2 rfl (by decide) (some ad) i i (l.take i) rfl (C_take (Kd.C_below HR.out HB7.out) i (by omega)) (fun h=>HNI.out (by first | exact h | trivial)) (some ⟨gb,0,none⟩) 1 1 [(⟨key,ch⟩ : S56)] rfl HE7.out (Nat.le_refl _) (Or.inl (by omega)) (by omega) (by decide) ?_;intro AX cX wX hCX hcX hnX hbX;obtain ⟨ax,rfl⟩:=C_addr hCX.out (by omega);have HCX:=hCX;have HBX:=keepB HB7 hbX.out;have x1 : ((i + 1 : Nat) : Int) ≤ (cX : Int):=(by omega);have x2 : (i : Int) + 1 ≤ (cX : Int):=(by omega);clear hCX hnX hbX)))
 have HXX:=zc HCX (below_drew (Below.refl _ wX))
 have HBZ:=zh HBX.out.drew
 refine wp_region_held_drew (S:=fun W=>Kd.C k56 W (some ax) (i + 1) (l.take i ++ [(⟨key,ch⟩ : S56)]) ∧ Below w.heap.size w W) (by kernel_rfl) ?_ (fun hHeld=>?_)
 ·exact ⟨HXX.out,HBZ.out⟩
 clear HXX HBZ
 generalize wX.drew = wz at hHeld ⊢
 refine zt 0 (v:=?v0g3) ?y0g3 ?r0g3
 case y0g3=>(rintro w ⟨s0,s1⟩;go_simp;try with_reducible rfl)
 try simp only [zA,zB,zC,Act.put,zD,zE,zF]
 refine zt 1 (v:=?v1g3) ?y1g3 ?r1g3
 case y1g3=>(rintro w ⟨s0,s1⟩;go_simp;try with_reducible rfl)
 try simp only [zA,zB,zC,Act.put,zD,zE,zF]
 refine zt 2 (v:=?v2g3) ?y2g3 ?r2g3
 case y2g3=>(rintro w ⟨s0,s1⟩;go_simp;try with_reducible rfl)
 try simp only [zA,zB,zC,Act.put,zD,zE,zF]
 refine zt 3 (v:=?v3g3) ?y3g3 ?r3g3
 case y3g3=>(rintro w ⟨s0,s1⟩;go_simp;try with_reducible rfl)
 try simp only [zA,zB,zC,Act.put,zD,zE,zF]
 refine zt 4 (v:=?v4g3) ?y4g3 ?r4g3
 case y4g3=>(rintro w ⟨s0,s1⟩;go_simp;try with_reducible rfl)
 try simp only [zA,zB,zC,Act.put,zD,zE,zF]
 refine zt 5 (v:=?v5g3) ?y5g3 ?r5g3
 case y5g3=>(rintro w ⟨s0,s1⟩;go_simp;try with_reducible rfl)
 try simp only [zA,zB,zC,Act.put,zD,zE,zF]
 refine zt 6 (v:=?v6g3) ?y6g3 ?r6g3
 case y6g3=>(rintro w ⟨s0,s1⟩;go_simp;try with_reducible rfl)
 try simp only [zA,zB,zC,Act.put,zD,zE,zF]
 refine zt 7 (v:=?v7g3) ?y7g3 ?r7g3
 case y7g3=>(rintro w ⟨s0,s1⟩;go_simp;try with_reducible rfl)
 try simp only [zA,zB,zC,Act.put,zD,zE,zF]
 refine zt 8 (v:=?v8g3) ?y8g3 ?r8g3
 case y8g3=>(rintro w ⟨s0,s1⟩;go_simp;try with_reducible rfl)
 try simp only [zA,zB,zC,Act.put,zD,zE,zF]
 refine wpAnyH_ready (rs:=[9]) (by kernel_rfl) (by simp) ?_
 refine AllReadyH.cons (o:=_) rfl (fun K hK=>?_) AllReadyH.nil
 rw [if_pos (by rfl)]
 obtain ⟨s0,s1⟩:=hHeld
 obtain ⟨iz,hi,hy0,hy1,hy2⟩:=info_parts info56
 refine wp_append_C (d:=k56) (.tmp 55) (.tmp 58) 22 rfl 56 iz _ 40 Tryz.underlying22 hi hy0 hy1 hy2 rfl (by decide) (some ax) (i + 1) (i + 1) (l.take i ++ [(⟨key,ch⟩ : S56)]) rfl s0 (fun h=>by cases h) _ (l.length - i) (c - i) (l.drop i) rfl (drop_A (Kd.C_below HR.out s1) i c (by omega) hc (by intro hne ad e;injection e with e;subst e;simp [hne])) (Nat.le_refl _) (by omega) (by omega) (by decide) ?_
 intro AY cY wY hCY hcY hnY hbY
 obtain ⟨ln,hln⟩ : ∃ ln,ln = (i + 1) + (l.length - i):=⟨_,rfl⟩
 rw [← hln] at hCY hcY ⊢
 have HCY:=hCY
 have HBY:=zh (s1.trans (hbY.out.mono s1.size))
 clear hln
 refine hK.out _ _ ⟨Kd.C_below s0 hbY.out,HBY.out⟩ (fun hHeld=>?_)
 clear hK K s0 s1 hCY hnY hbY
 try simp only [zA,zB,zC,Act.put,zD,zE,zF]
 refine zt 10 (v:=?v10g3) ?y10g3 ?r10g3
 case y10g3=>(rintro w ⟨s0,s1⟩;go_simp;try with_reducible rfl)
 try simp only [zA,zB,zC,Act.put,zD,zE,zF]
 refine wpAnyH_done (by kernel_rfl) ?_ _
 have hly:=zh (C_len HCY.out)
 clear hHeld
 by_cases h60 : 60 < ln
 ·have d60 : decide ((60 : Int) < (ln : Int)) = true:=by simp;omega
  go_wp2
  all_goals go_ret2
  all_goals (rcases hres with ⟨hr1,hr2⟩ | ⟨hr1,hr2⟩)
  all_goals first | exact absurd (by rw [← hly.out];exact h60) hr1 | (rw [hr2];exact EPost.nil HBY.out)
 ·have d60 : decide ((60 : Int) < (ln : Int)) = false:=by simp;omega
  go_wp2
  all_goals go_ret2
  all_goals (rcases hres with ⟨hr1,hr2⟩ | ⟨hr1,hr2⟩)
  all_goals first
   | exact absurd (by rw [hly.out];exact hr1) h60
   | (rw [hr2];have hly:=hly.out;subst hly;exact ⟨AY,cY,rfl,hcY,HCY,HBY.out⟩)
theorem putE_fn (ad : Addr) (A2 : Option Addr) (c c2 : Nat) (l : List S56) (key : ByteArray) (ch : List S47) (w : World) (hr : Kd.C k56 w (some ad) l.length l) (hc : l.length ≤ c) (h2 : Kd.C k47 w A2 ch.length ch) (hc2 : ch.length ≤ c2)
  (q1 : indexB l = true) (q2 : keyB key = true) (q3 : chainB ch = true) (q4 : l.any (eqK key) = false) (q5 : ch.length = 0) (i : Nat) (hi : i = lessN l key) (hil : i ≤ l.length) (hbh : i ≤ l.length) (res : List S56 × Int) (hres : 60 < ((l.take i) ++ l.drop i).length ∧ res = (([] : List S56),(6 : Int)) ∨ ¬ 60 < ((l.take i) ++ l.drop i).length ∧ res = (((l.take i) ++ l.drop i),0)) :
  Calls Tryz.prog 132 #[.slice (some ad) l.length c,.string key,.slice A2 ch.length c2] w (EPost res.1 res.2 w):=by
 have HIX:=zh (index.walk (some ad) c l w hr)
 have HKY:=zh (fun (W : World)=>name_Key.calls key _ W rfl)
 have HCH:=zh (fun (W : World) (h : Below w.heap.size w W)=>chain.walk A2 c2 ch W (Kd.C_below h2 h))
 have HAT:=zh (fun (W : World) (h : Below w.heap.size w W)=>lessE.walk (some ad) c l key W (Kd.C_below hr h))
 have HFD:=zh (fun (W : World) (h : Below w.heap.size w W)=>findE.walk (some ad) c l key W (Kd.C_below hr h))
 have HCL:=zh (fun (W : World) (h : Below w.heap.size w W)=>clone_v.calls A2 c2 ch W (Kd.C_below h2 h) (by have:=chain_le q3;omega))
 have HR:=zh hr
 have HNI : Hid (((some ad) : Option Addr) = none → i = 0):=fun h=>(by cases h)
 have hl60:=(index_at q1).1
 have dth:=pos_any l (eqK key)
 rw [q4] at dth
 rw [q1,show errB true = 0 from rfl] at HIX
 rw [q2] at HKY
 rw [q3,show errB true = 0 from rfl] at HCH
 rw [← hi] at HAT
 generalize posI (l.findIdx? (eqK key)) = r at *
 clear q1 q2 q3 q4 hr h2 hi
 have e0 : (i : Int) ≤ (l.length : Int):=by omega
 have e1 : (i : Int) ≤ (c : Int):=by omega
 have e2 : (0 : Int) ≤ (i : Int):=by omega
 have e3 : IntKind.i64.wrap ((i : Int) + 1) = (i : Int) + 1:=by rw [IntKind.wrap_i64];omega
 have e4 : ((l.length : Nat) : Int) ≤ (c : Int):=by omega
 have e6 : (0 : Int) ≤ (i : Int) + 1:=by omega
 have e7 : ((i : Int) + 1).toNat = i + 1:=by omega
 have dch : decide ((0 : Int) < (ch.length : Int)) = false:=decide_eq_false (by omega)
 have dcn : decide (0 < ch.length) = false:=decide_eq_false (by omega)
 have dcp : ¬ 0 < ch.length:=by omega
 clear q5
 go_enter Tryz.func132,Tryz.ntmps132
 go_wp2_with (first
  | (go_at_call 67;go_must (refine HIX.out.mono ?_;rintro e w1 ⟨rfl,hb⟩;have HB1:=zh hb;clear hb))
  | (go_at_call 77;go_must (refine (HKY.out _).mono ?_;rintro e w2 ⟨rfl,hb⟩;have HB2:=keepB HB1 hb;clear hb))
  | (go_at_call 109;go_must (refine (HCH.out _ HB2.out).mono ?_;rintro e w3 ⟨rfl,hb⟩;have HB3:=keepB HB2 hb;clear hb))
  | (go_at_call 161;go_must (refine (HAT.out _ HB3.out).mono ?_;rintro e w4 ⟨rfl,hb⟩;have HB4:=keepB HB3 hb;clear hb))
  | (go_at_call 104;go_must (refine (HFD.out _ HB4.out).mono ?_;rintro e w5 ⟨rfl,hb⟩;have HB5:=keepB HB4 hb;clear hb)))
 have HXX:=zh (C_take (Kd.C_below HR.out HB5.out.drew) i (by omega))
 have HBZ:=zh HB5.out.drew
 refine wp_region_held_drew (S:=fun W=>Kd.C k56 W (some ad) i (l.take i) ∧ Below w.heap.size w W) (by kernel_rfl) ?_ (fun hHeld=>?_)
 ·exact ⟨HXX.out,HBZ.out⟩
 clear HXX HBZ
 generalize w5.drew = wz at hHeld ⊢
 refine zt 0 (v:=?v0g4) ?y0g4 ?r0g4
 case y0g4=>(rintro w ⟨s0,s1⟩;go_simp;try with_reducible rfl)
 try simp only [zA,zB,zC,Act.put,zD,zE,zF]
 refine zt 1 (v:=?v1g4) ?y1g4 ?r1g4
 case y1g4=>(rintro w ⟨s0,s1⟩;go_simp;try with_reducible rfl)
 try simp only [zA,zB,zC,Act.put,zD,zE,zF]
 refine zt 2 (v:=?v2g4) ?y2g4 ?r2g4
 case y2g4=>(rintro w ⟨s0,s1⟩;go_simp;try with_reducible rfl)
 try simp only [zA,zB,zC,Act.put,zD,zE,zF]
 refine zt 3 (v:=?v3g4) ?y3g4 ?r3g4
 case y3g4=>(rintro w ⟨s0,s1⟩;go_simp;try with_reducible rfl)
 try simp only [zA,zB,zC,Act.put,zD,zE,zF]
 refine zt 4 (v:=?v4g4) ?y4g4 ?r4g4
 case y4g4=>(rintro w ⟨s0,s1⟩;go_simp;try with_reducible rfl)
 try simp only [zA,zB,zC,Act.put,zD,zE,zF]
 refine zt 5 (v:=?v5g4) ?y5g4 ?r5g4
 case y5g4=>(rintro w ⟨s0,s1⟩;go_simp;try with_reducible rfl)
 try simp only [zA,zB,zC,Act.put,zD,zE,zF]
 refine zt 6 (v:=?v6g4) ?y6g4 ?r6g4
 case y6g4=>(rintro w ⟨s0,s1⟩;go_simp;try with_reducible rfl)
 try simp only [zA,zB,zC,Act.put,zD,zE,zF]
 refine zt 7 (v:=?v7g4) ?y7g4 ?r7g4
 case y7g4=>(rintro w ⟨s0,s1⟩;go_simp;try with_reducible rfl)
 try simp only [zA,zB,zC,Act.put,zD,zE,zF]
 refine zt 8 (v:=?v8g4) ?y8g4 ?r8g4
 case y8g4=>(rintro w ⟨s0,s1⟩;go_simp;try with_reducible rfl)
 try simp only [zA,zB,zC,Act.put,zD,zE,zF]
 refine wpAnyH_ready (rs:=[9]) (by kernel_rfl) (by simp) ?_
 refine AllReadyH.cons (o:=_) rfl (fun K hK=>?_) AllReadyH.nil
 rw [if_pos (by rfl)]
 obtain ⟨s0,s1⟩:=hHeld
 obtain ⟨iz,hi,hy0,hy1,hy2⟩:=info_parts info56
 refine wp_append_C (d:=k56) (.tmp 55) (.tmp 58) 22 rfl 56 iz _ 40 Tryz.underlying22 hi hy0 hy1 hy2 rfl (by decide) (some ad) i i (l.take i) rfl s0 (fun h=>HNI.out (by first | exact h | trivial)) _ (l.length - i) (c - i) (l.drop i) rfl (drop_A (Kd.C_below HR.out s1) i c (by omega) hc (by intro hne ad e;injection e with e;subst e;simp [hne])) (Nat.le_refl _) (by omega) (by omega) (by decide) ?_
 intro AY cY wY hCY hcY hnY hbY
 obtain ⟨ln,hln⟩ : ∃ ln,ln = i + (l.length - i):=⟨_,rfl⟩
 rw [← hln] at hCY hcY ⊢
 have HCY:=hCY
 have HBY:=zh (s1.trans (hbY.out.mono s1.size))
 clear hln
 refine hK.out _ _ ⟨Kd.C_below s0 hbY.out,HBY.out⟩ (fun hHeld=>?_)
 clear hK K s0 s1 hCY hnY hbY
 try simp only [zA,zB,zC,Act.put,zD,zE,zF]
 refine zt 10 (v:=?v10g4) ?y10g4 ?r10g4
 case y10g4=>(rintro w ⟨s0,s1⟩;go_simp;try with_reducible rfl)
 try simp only [zA,zB,zC,Act.put,zD,zE,zF]
 refine wpAnyH_done (by kernel_rfl) ?_ _
 have hly:=zh (C_len HCY.out)
 clear hHeld
 by_cases h60 : 60 < ln
 ·have d60 : decide ((60 : Int) < (ln : Int)) = true:=by simp;omega
  go_wp2
  all_goals go_ret2
  all_goals (rcases hres with ⟨hr1,hr2⟩ | ⟨hr1,hr2⟩)
  all_goals first | exact absurd (by rw [← hly.out];exact h60) hr1 | (rw [hr2];exact EPost.nil HBY.out)
 ·have d60 : decide ((60 : Int) < (ln : Int)) = false:=by simp;omega
  go_wp2
  all_goals go_ret2
  all_goals (rcases hres with ⟨hr1,hr2⟩ | ⟨hr1,hr2⟩)
  all_goals first
   | exact absurd (by rw [hly.out];exact hr1) h60
   | (rw [hr2];have hly:=hly.out;subst hly;exact ⟨AY,cY,rfl,hcY,HCY,HBY.out⟩)
theorem putE_zt (A2 : Option Addr) (c c2 : Nat) (key : ByteArray) (ch : List S47) (w : World) (h2 : Kd.C k47 w A2 ch.length ch) (hc2 : ch.length ≤ c2) (q2 : keyB key = true) (q3 : chainB ch = true) (q5 : 0 < ch.length) :
  Calls Tryz.prog 132 #[.slice none 0 c,.string key,.slice A2 ch.length c2] w (EPost [(⟨key,ch⟩ : S56)] 0 w):=by
 have hr : Kd.C k56 w none ([] : List S56).length []:=C_mt _ _ _
 have HIX : Hid (Calls Tryz.prog 67 #[.slice none 0 c] w fun e w'=>e = .returned (.int .i64 0) ∧ Below w.heap.size w w'):=index.walk none c [] w hr
 have HKY:=zh (fun (W : World)=>name_Key.calls key _ W rfl)
 have HCH:=zh (fun (W : World) (h : Below w.heap.size w W)=>chain.walk A2 c2 ch W (Kd.C_below h2 h))
 have HAT : Hid (∀ (W : World) (h : Below w.heap.size w W),Calls Tryz.prog 161 #[.slice none 0 c,.string key] W fun e w'=>e = .returned (.int .i64 0) ∧ Below W.heap.size W w'):=fun W h=>lessE.walk none c [] key W (Kd.C_below hr h)
 have HFD : Hid (∀ (W : World) (h : Below w.heap.size w W),Calls Tryz.prog 104 #[.slice none 0 c,.string key] W fun e w'=>e = .returned (.int .i64 (-1)) ∧ Below W.heap.size W w'):=fun W h=>findE.walk none c [] key W (Kd.C_below hr h)
 have HCL:=zh (fun (W : World) (h : Below w.heap.size w W)=>clone_v.calls A2 c2 ch W (Kd.C_below h2 h) (by have:=chain_le q3;omega))
 rw [q2] at HKY
 rw [q3,show errB true = 0 from rfl] at HCH
 clear q2 q3 hr h2
 have dch : decide ((0 : Int) < (ch.length : Int)) = true:=decide_eq_true (by omega)
 have dcn : decide (0 < ch.length) = true:=decide_eq_true (by omega)
 have dcp : 0 < ch.length:=by omega
 have d0 : (0 : Int) ≤ (c : Int):=by omega
 clear q5
 go_enter Tryz.func132,Tryz.ntmps132
 go_wp2_with (first
  | (go_at_call 67;go_must (refine HIX.out.mono ?_;rintro e w1 ⟨rfl,hb⟩;have HB1:=zh hb;clear hb))
  | (go_at_call 77;go_must (refine (HKY.out _).mono ?_;rintro e w2 ⟨rfl,hb⟩;have HB2:=keepB HB1 hb;clear hb))
  | (go_at_call 109;go_must (refine (HCH.out _ HB2.out).mono ?_;rintro e w3 ⟨rfl,hb⟩;have HB3:=keepB HB2 hb;clear hb))
  | (go_at_call 161;go_must (refine (HAT.out _ HB3.out).mono ?_;rintro e w4 ⟨rfl,hb⟩;have HB4:=keepB HB3 hb;clear hb))
  | (go_at_call 104;go_must (refine (HFD.out _ HB4.out).mono ?_;rintro e w5 ⟨rfl,hb⟩;have HB5:=keepB HB4 hb;clear hb))
  | (go_at_call 105;go_must (refine (HCL.out _ HB5.out).mono ?_;rintro e w6 ⟨A6,c6,rfl,hc6,hC6,hb⟩;have HC6:=hC6;have HB6:=keepB HB5 hb;clear hb hC6))
  | ((with_reducible refine gate_dst (N:=48) rfl ?_);go_must (refine lit_event ?hg (N:=48) ?hd (cs:=#[.string key,.slice A6 ch.length c6]) (t:=56) 1 ?hr ?_;(case hd=>rfl);(case hg=>rfl);(case hr=>first | (go_simp;done) | (go_simp;rfl));intro gb hgb w7 hb7 hbel7;have HB7:=keepB HB6 hbel7;have HE7:=zh (one_C (k56_mk w7 (⟨key,ch⟩ : S56) hc6 (Kd.C_below HC6.out hbel7)) (blkRaw (cs:=[.string key,.slice A6 ch.length c6]) hb7));clear hgb hb7 hbel7))
  | ((with_reducible refine gate_builtin (b:=.append) (xs:=#[.tmp 43,.tmp 48]) rfl ?_);go_must (obtain ⟨iz,hi,hy0,hy1,hy2⟩:=info_parts info56;refine wpList_append_C (d:=k56) rfl (.tmp 43) (.tmp 48) 22 rfl 56 iz _ 40 Tryz.underlying22 hi hy0 hy1 hy2 rfl (by decide) none 0 0 ([] : List S56) rfl (C_mt _ _ _) (fun _=>rfl) (some ⟨gb,0,none⟩) 1 1 [(⟨key,ch⟩ : S56)] rfl HE7.out (Nat.le_refl _) (Or.inl (by omega)) (by omega) (by decide) ?_;intro AX cX wX hCX hcX hnX hbX;obtain ⟨ax,rfl⟩:=C_addr hCX.out (by omega);have HCX:=hCX;have HBX:=keepB HB7 hbX.out;have x1 : (1 : Int) ≤ (cX : Int):=(by omega);have x2 : 1 ≤ cX:=(by omega);clear hCX hnX hbX)))
 have HXX:=zc HCX (below_drew (Below.refl _ wX))
 have HBZ:=zh HBX.out.drew
 refine wp_region_held_drew (S:=fun W=>Kd.C k56 W (some ax) (0 + 1) [(⟨key,ch⟩ : S56)] ∧ Below w.heap.size w W) (by kernel_rfl) ?_ (fun hHeld=>?_)
 ·exact ⟨HXX.out,HBZ.out⟩
 clear HXX HBZ
 generalize wX.drew = wz at hHeld ⊢
 refine zt 0 (v:=?v0g5) ?y0g5 ?r0g5
 case y0g5=>(rintro w ⟨s0,s1⟩;go_simp;try with_reducible rfl)
 try simp only [zA,zB,zC,Act.put,zD,zE,zF]
 refine zt 1 (v:=?v1g5) ?y1g5 ?r1g5
 case y1g5=>(rintro w ⟨s0,s1⟩;go_simp;try with_reducible rfl)
 try simp only [zA,zB,zC,Act.put,zD,zE,zF]
 refine zt 2 (v:=?v2g5) ?y2g5 ?r2g5
 case y2g5=>(rintro w ⟨s0,s1⟩;go_simp;try with_reducible rfl)
 try simp only [zA,zB,zC,Act.put,zD,zE,zF]
 refine zt 3 (v:=?v3g5) ?y3g5 ?r3g5
 case y3g5=>(rintro w ⟨s0,s1⟩;go_simp;try with_reducible rfl)
 try simp only [zA,zB,zC,Act.put,zD,zE,zF]
 refine zt 4 (v:=?v4g5) ?y4g5 ?r4g5
 case y4g5=>(rintro w ⟨s0,s1⟩;go_simp;try with_reducible rfl)
 try simp only [zA,zB,zC,Act.put,zD,zE,zF]
 refine zt 5 (v:=?v5g5) ?y5g5 ?r5g5
 case y5g5=>(rintro w ⟨s0,s1⟩;go_simp;try with_reducible rfl)
 try simp only [zA,zB,zC,Act.put,zD,zE,zF]
 refine zt 6 (v:=?v6g5) ?y6g5 ?r6g5
 case y6g5=>(rintro w ⟨s0,s1⟩;go_simp;try with_reducible rfl)
 try simp only [zA,zB,zC,Act.put,zD,zE,zF]
 refine zt 7 (v:=?v7g5) ?y7g5 ?r7g5
 case y7g5=>(rintro w ⟨s0,s1⟩;go_simp;try with_reducible rfl)
 try simp only [zA,zB,zC,Act.put,zD,zE,zF]
 refine zt 8 (v:=?v8g5) ?y8g5 ?r8g5
 case y8g5=>(rintro w ⟨s0,s1⟩;go_simp;try with_reducible rfl)
 try simp only [zA,zB,zC,Act.put,zD,zE,zF]
 refine wpAnyH_ready (rs:=[9]) (by kernel_rfl) (by simp) ?_
 refine AllReadyH.cons (o:=_) rfl (fun K hK=>?_) AllReadyH.nil
 rw [if_pos (by rfl)]
 obtain ⟨s0,s1⟩:=hHeld
 obtain ⟨iz,hi,hy0,hy1,hy2⟩:=info_parts info56
 refine wp_append_C (d:=k56) (.tmp 55) (.tmp 58) 22 rfl 56 iz _ 40 Tryz.underlying22 hi hy0 hy1 hy2 rfl (by decide) (some ax) (0 + 1) (0 + 1) [(⟨key,ch⟩ : S56)] rfl s0 (fun h=>by first | rfl | cases h) _ 0 _ ([] : List S56) rfl (C_mt _ _ _) (Nat.le_refl _) (Or.inr rfl) (by omega) (by decide) ?_
 intro AY cY wY hCY hcY hnY hbY
 have HCY:=hCY
 have HBY:=zh (s1.trans (hbY.out.mono s1.size))
 refine hK.out _ _ ⟨Kd.C_below s0 hbY.out,HBY.out⟩ (fun hHeld=>?_)
 clear hK K s0 s1 hCY hnY hbY
 try simp only [zA,zB,zC,Act.put,zD,zE,zF]
 refine zt 10 (v:=?v10g5) ?y10g5 ?r10g5
 case y10g5=>(rintro w ⟨s0,s1⟩;go_simp;try with_reducible rfl)
 try simp only [zA,zB,zC,Act.put,zD,zE,zF]
 refine wpAnyH_done (by kernel_rfl) ?_ _
 go_wp2
 all_goals go_ret2
 all_goals exact ⟨AY,cY,rfl,hcY,HCY,HBY.out⟩
theorem putE_zn (A2 : Option Addr) (c c2 : Nat) (key : ByteArray) (ch : List S47) (w : World) (h2 : Kd.C k47 w A2 ch.length ch) (hc2 : ch.length ≤ c2) (q2 : keyB key = true) (q3 : chainB ch = true) (q5 : ch.length = 0) :
  Calls Tryz.prog 132 #[.slice none 0 c,.string key,.slice A2 ch.length c2] w (EPost ([] : List S56) 0 w):=by
 have hr : Kd.C k56 w none ([] : List S56).length []:=C_mt _ _ _
 have HIX : Hid (Calls Tryz.prog 67 #[.slice none 0 c] w fun e w'=>e = .returned (.int .i64 0) ∧ Below w.heap.size w w'):=index.walk none c [] w hr
 have HKY:=zh (fun (W : World)=>name_Key.calls key _ W rfl)
 have HCH:=zh (fun (W : World) (h : Below w.heap.size w W)=>chain.walk A2 c2 ch W (Kd.C_below h2 h))
 have HAT : Hid (∀ (W : World) (h : Below w.heap.size w W),Calls Tryz.prog 161 #[.slice none 0 c,.string key] W fun e w'=>e = .returned (.int .i64 0) ∧ Below W.heap.size W w'):=fun W h=>lessE.walk none c [] key W (Kd.C_below hr h)
 have HFD : Hid (∀ (W : World) (h : Below w.heap.size w W),Calls Tryz.prog 104 #[.slice none 0 c,.string key] W fun e w'=>e = .returned (.int .i64 (-1)) ∧ Below W.heap.size W w'):=fun W h=>findE.walk none c [] key W (Kd.C_below hr h)
 have HCL:=zh (fun (W : World) (h : Below w.heap.size w W)=>clone_v.calls A2 c2 ch W (Kd.C_below h2 h) (by have:=chain_le q3;omega))
 rw [q2] at HKY
 rw [q3,show errB true = 0 from rfl] at HCH
 clear q2 q3 hr h2
 have dch : decide ((0 : Int) < (ch.length : Int)) = false:=decide_eq_false (by omega)
 have dcn : decide (0 < ch.length) = false:=decide_eq_false (by omega)
 have dcp : ¬ 0 < ch.length:=by omega
 have d0 : (0 : Int) ≤ (c : Int):=by omega
 clear q5
 go_enter Tryz.func132,Tryz.ntmps132
 go_wp2_with (first
  | (go_at_call 67;go_must (refine HIX.out.mono ?_;rintro e w1 ⟨rfl,hb⟩;have HB1:=zh hb;clear hb))
  | (go_at_call 77;go_must (refine (HKY.out _).mono ?_;rintro e w2 ⟨rfl,hb⟩;have HB2:=keepB HB1 hb;clear hb))
  | (go_at_call 109;go_must (refine (HCH.out _ HB2.out).mono ?_;rintro e w3 ⟨rfl,hb⟩;have HB3:=keepB HB2 hb;clear hb))
  | (go_at_call 161;go_must (refine (HAT.out _ HB3.out).mono ?_;rintro e w4 ⟨rfl,hb⟩;have HB4:=keepB HB3 hb;clear hb))
  | (go_at_call 104;go_must (refine (HFD.out _ HB4.out).mono ?_;rintro e w5 ⟨rfl,hb⟩;have HB5:=keepB HB4 hb;clear hb)))
 have HXX : Hid (Kd.C k56 w5.drew none 0 []):=C_mt _ _ _
 have HBZ:=zh HB5.out.drew
 refine wp_region_held_drew (S:=fun W=>Kd.C k56 W none 0 ([] : List S56) ∧ Below w.heap.size w W) (by kernel_rfl) ?_ (fun hHeld=>?_)
 ·exact ⟨HXX.out,HBZ.out⟩
 clear HXX HBZ
 generalize w5.drew = wz at hHeld ⊢
 refine zt 0 (v:=?v0g6) ?y0g6 ?r0g6
 case y0g6=>(rintro w ⟨s0,s1⟩;go_simp;try with_reducible rfl)
 try simp only [zA,zB,zC,Act.put,zD,zE,zF]
 refine zt 1 (v:=?v1g6) ?y1g6 ?r1g6
 case y1g6=>(rintro w ⟨s0,s1⟩;go_simp;try with_reducible rfl)
 try simp only [zA,zB,zC,Act.put,zD,zE,zF]
 refine zt 2 (v:=?v2g6) ?y2g6 ?r2g6
 case y2g6=>(rintro w ⟨s0,s1⟩;go_simp;try with_reducible rfl)
 try simp only [zA,zB,zC,Act.put,zD,zE,zF]
 refine zt 3 (v:=?v3g6) ?y3g6 ?r3g6
 case y3g6=>(rintro w ⟨s0,s1⟩;go_simp;try with_reducible rfl)
 try simp only [zA,zB,zC,Act.put,zD,zE,zF]
 refine zt 4 (v:=?v4g6) ?y4g6 ?r4g6
 case y4g6=>(rintro w ⟨s0,s1⟩;go_simp;try with_reducible rfl)
 try simp only [zA,zB,zC,Act.put,zD,zE,zF]
 refine zt 5 (v:=?v5g6) ?y5g6 ?r5g6
 case y5g6=>(rintro w ⟨s0,s1⟩;go_simp;try with_reducible rfl)
 try simp only [zA,zB,zC,Act.put,zD,zE,zF]
 refine zt 6 (v:=?v6g6) ?y6g6 ?r6g6
 case y6g6=>(rintro w ⟨s0,s1⟩;go_simp;try with_reducible rfl)
 try simp only [zA,zB,zC,Act.put,zD,zE,zF]
 refine zt 7 (v:=?v7g6) ?y7g6 ?r7g6
 case y7g6=>(rintro w ⟨s0,s1⟩;go_simp;try with_reducible rfl)
 try simp only [zA,zB,zC,Act.put,zD,zE,zF]
 refine zt 8 (v:=?v8g6) ?y8g6 ?r8g6
 case y8g6=>(rintro w ⟨s0,s1⟩;go_simp;try with_reducible rfl)
 try simp only [zA,zB,zC,Act.put,zD,zE,zF]
 refine wpAnyH_ready (rs:=[9]) (by kernel_rfl) (by simp) ?_
 refine AllReadyH.cons (o:=_) rfl (fun K hK=>?_) AllReadyH.nil
 rw [if_pos (by rfl)]
 obtain ⟨s0,s1⟩:=hHeld
 obtain ⟨iz,hi,hy0,hy1,hy2⟩:=info_parts info56
 refine wp_append_C (d:=k56) (.tmp 55) (.tmp 58) 22 rfl 56 iz _ 40 Tryz.underlying22 hi hy0 hy1 hy2 rfl (by decide) none 0 0 ([] : List S56) rfl s0 (fun h=>by first | rfl | cases h) _ 0 _ ([] : List S56) rfl (C_mt _ _ _) (Nat.le_refl _) (Or.inr rfl) (by omega) (by decide) ?_
 intro AY cY wY hCY hcY hnY hbY
 have HCY:=hCY
 have HBY:=zh (s1.trans (hbY.out.mono s1.size))
 refine hK.out _ _ ⟨Kd.C_below s0 hbY.out,HBY.out⟩ (fun hHeld=>?_)
 clear hK K s0 s1 hCY hnY hbY
 try simp only [zA,zB,zC,Act.put,zD,zE,zF]
 refine zt 10 (v:=?v10g6) ?y10g6 ?r10g6
 case y10g6=>(rintro w ⟨s0,s1⟩;go_simp;try with_reducible rfl)
 try simp only [zA,zB,zC,Act.put,zD,zE,zF]
 refine wpAnyH_done (by kernel_rfl) ?_ _
 go_wp2
 all_goals go_ret2
 all_goals exact ⟨AY,cY,rfl,hcY,HCY,HBY.out⟩
theorem putE.walk (A A2 : Option Addr) (c c2 : Nat) (l : List S56) (key : ByteArray) (ch : List S47) (w : World) (hr : Kd.C k56 w A l.length l) (hc : l.length ≤ c) (h2 : Kd.C k47 w A2 ch.length ch) (hc2 : ch.length ≤ c2) :
  Calls Tryz.prog 132 #[.slice A l.length c,.string key,.slice A2 ch.length c2] w (EPost (putE l key ch).1 (putE l key ch).2 w):=by
 by_cases hb : indexB l = false ∨ keyB key = false ∨ chainB ch = false
 ·have e : putE l key ch = ([],1):=by unfold putE;rw [if_pos hb]
  rw [e]
  exact putE_no A A2 c c2 l key ch w hr h2 hb
 ·have q1 : indexB l = true:=by cases h : indexB l;exact absurd (Or.inl h) hb;rfl
  have q2 : keyB key = true:=by cases h : keyB key;exact absurd (Or.inr (Or.inl h)) hb;rfl
  have q3 : chainB ch = true:=by cases h : chainB ch;exact absurd (Or.inr (Or.inr h)) hb;rfl
  have hil:=less_le l key
  have hres : 60 < (putL l key ch).length ∧ putE l key ch = (([] : List S56),(6 : Int)) ∨ ¬ 60 < (putL l key ch).length ∧ putE l key ch = (putL l key ch,0):=by
   unfold putE
   rw [if_neg hb]
   by_cases h : 60 < (putL l key ch).length
   ·exact Or.inl ⟨h,by rw [if_pos h]⟩
   ·exact Or.inr ⟨h,by rw [if_neg h]⟩
  cases q4 : l.any (eqK key)
  ·rcases Nat.eq_zero_or_pos ch.length with q5 | q5
   ·have e : putL l key ch = l.take (lessN l key) ++ l.drop (lessN l key):=by unfold putL;rw [q4,if_pos q5,if_neg (by simp),List.append_nil,Nat.add_zero]
    rw [e] at hres
    cases A with
    | none =>
     obtain ⟨_,rfl⟩:=C_none hr
     have e2 : putE [] key ch = ([],0):=by rcases hres with ⟨h,_⟩ | ⟨_,h⟩;simp at h;exact h
     rw [e2]
     exact putE_zn A2 c c2 key ch w h2 hc2 q2 q3 q5
    | some ad=>exact putE_fn ad A2 c c2 l key ch w hr hc h2 hc2 q1 q2 q3 q4 q5 _ rfl hil hil _ hres
   ·have e : putL l key ch = (l.take (lessN l key) ++ [⟨key,ch⟩]) ++ l.drop (lessN l key):=by unfold putL;rw [q4,if_neg (by omega),if_neg (by simp),Nat.add_zero]
    rw [e] at hres
    cases A with
    | none =>
     obtain ⟨_,rfl⟩:=C_none hr
     have e2 : putE [] key ch = ([⟨key,ch⟩],0):=by rcases hres with ⟨h,_⟩ | ⟨_,h⟩;simp at h;exact h
     rw [e2]
     exact putE_zt A2 c c2 key ch w h2 hc2 q2 q3 q5
    | some ad=>exact putE_ft ad A2 c c2 l key ch w hr hc h2 hc2 q1 q2 q3 q4 q5 _ rfl hil hil _ hres
  ·have hlt:=less_lt l key q4
   obtain ⟨ad,rfl⟩:=C_addr hr (by omega)
   rcases Nat.eq_zero_or_pos ch.length with q5 | q5
   ·have e : putL l key ch = l.take (lessN l key) ++ l.drop (lessN l key + 1):=by unfold putL;rw [q4,if_pos q5,if_pos rfl,List.append_nil]
    rw [e] at hres
    exact putE_tn ad A2 c c2 l key ch w hr hc h2 hc2 q1 q2 q3 q4 q5 _ rfl hil (by omega) _ hres
   ·have e : putL l key ch = (l.take (lessN l key) ++ [⟨key,ch⟩]) ++ l.drop (lessN l key + 1):=by unfold putL;rw [q4,if_neg (by omega),if_pos rfl]
    rw [e] at hres
    exact putE_tt ad A2 c c2 l key ch w hr hc h2 hc2 q1 q2 q3 q4 q5 _ rfl hil (by omega) _ hres
end
section
open Go.WideMaps Go.Maps
theorem cell_in {w : World} {p : Addr} {u : Value} {cs : Array Value} {t : TypeId} {fr : Nat × Nat} (h : w.cell? p = some u) (hb : w.heap[p.block]? = some (.cells cs t fr)) : cs[p.off]? = some u:=by
 have : p.spot = none ∧ cs[p.off]? = some u:=by simpa [World.cell?,hb] using h
 exact this.2
theorem add_blk (a : Addr) (n : Nat) : (a.add n).block = a.block ∧ (a.add n).off = a.off + n:=by
 unfold Addr.add;split <;> simp_all
theorem C_sep {α : Type} {d : Kd α} {w w1 : World} {g : Nat} {cs : Array Value} {t : TypeId} {fr : Nat × Nat} {A : Option Addr} {n : Nat} {l : List α} (h : Kd.C d w A n l) (hg : w.heap[g]? = some (.cells cs t fr)) (ho : Only g w w1)
  (hsep : ∀ (x : α) (c : List Value) (o : Nat),d.K w x c → (∀ (i : Nat) (u : Value),c[i]? = some u → cs[o + i]? = some u) → False) (hK : ∀ (x : α) (c : List Value),d.K w x c → d.K w1 x c) : Kd.C d w1 A n l:=by
 obtain ⟨h1,h2,h3⟩:=h
 refine ⟨h1,h2,fun h0=>?_⟩
 obtain ⟨ad,e,hc⟩:=h3 h0
 refine ⟨ad,e,fun j x hx=>?_⟩
 obtain ⟨c,h4,h5,h6⟩:=hc j x hx
 refine ⟨c,h4,hK x c h5,fun i u hu=>?_⟩
 have hb : ad.block ≠ g:=fun e=>hsep x c (ad.off + j * d.sz) h5 (fun i u hu=>by
  have:=cell_in (h6 i u hu) (by rw [(add_blk _ _).1,e];exact hg)
  rwa [(add_blk _ _).2,← Nat.add_assoc] at this)
 exact ho.cell (by rw [(add_blk _ _).1];exact hb) (h6 i u hu)
/-- cells among which there is a string in the first place alone, no bool anywhere, and no slice behind the first -/
def WorkLike (cs : Array Value) : Prop:=(∀ (k : Nat) (s : ByteArray),cs[k]? = some (Value.string s) → k = 0) ∧ (∀ (k : Nat) (b : Bool),cs[k]? ≠ some (Value.bool b)) ∧ (∀ (A : Option Addr) (n c : Nat),cs[1]? ≠ some (Value.slice A n c))
theorem work_like (s : ByteArray) (i : Int) (A2 : Option Addr) (n2 c2 : Nat) (A3 : Option Addr) (n3 c3 : Nat) (l e : Int) : WorkLike #[.string s,.int .i64 i,.slice A2 n2 c2,.slice A3 n3 c3,.int .u64 l,.int .i64 e]:=by
 refine ⟨fun k s h=>?_,fun k b h=>?_,fun A n c h=>?_⟩
 ·rcases k with _ | _ | _ | _ | _ | _ | k <;> simp at h ⊢
 ·rcases k with _ | _ | _ | _ | _ | _ | k <;> simp at h
 ·simp at h
section
variable {w w1 : World} {g : Nat} {cs : Array Value} {t : TypeId} {fr : Nat × Nat} {A : Option Addr} {n : Nat}
theorem keepV {l : List S47} (h : Kd.C k47 w A n l) (hg : w.heap[g]? = some (.cells cs t fr)) (hw : WorkLike cs) (ho : Only g w w1) : Kd.C k47 w1 A n l :=
 C_sep h hg ho (fun x c o hk hc=>by obtain rfl:=k47_open hk;exact hw.2.1 _ _ (hc 2 _ rfl)) (fun x c hk=>by obtain rfl:=k47_open hk;exact k47_mk w1 x)
theorem keepPt {l : List S40} (h : Kd.C k40 w A n l) (hg : w.heap[g]? = some (.cells cs t fr)) (hw : WorkLike cs) (ho : Only g w w1) : Kd.C k40 w1 A n l :=
 C_sep h hg ho (fun x c o hk hc=>by obtain rfl:=k40_open hk;exact absurd (hw.1 _ _ (hc 1 _ rfl)) (by omega)) (fun x c hk=>by obtain rfl:=k40_open hk;exact k40_mk w1 x)
theorem keepE {l : List S56} (h : Kd.C k56 w A n l) (hg : w.heap[g]? = some (.cells cs t fr)) (hw : WorkLike cs) (ho : Only g w w1) : Kd.C k56 w1 A n l :=
 C_sep h hg ho (fun x c o hk hc=>by
  obtain ⟨A1,c1,rfl,_,_⟩:=k56_open hk
  have h0:=hw.1 _ _ (hc 0 _ rfl)
  have h1:=hc 1 _ rfl
  rw [show o + 1 = 1 by omega] at h1
  exact hw.2.2 _ _ _ h1) (fun x c hk=>by obtain ⟨A1,c1,rfl,h1,h2⟩:=k56_open hk;exact k56_mk w1 x h1 (keepV h2 hg hw ho))
theorem keepU {l : List S101} (h : Kd.C k101 w A n l) (hg : w.heap[g]? = some (.cells cs t fr)) (hw : WorkLike cs) (ho : Only g w w1) : Kd.C k101 w1 A n l :=
 C_sep h hg ho (fun x c o hk hc=>by
  obtain ⟨A1,c1,rfl,_,_⟩:=k101_open hk
  exact absurd (hw.1 _ _ (hc 1 _ rfl)) (by omega)) (fun x c hk=>by obtain ⟨A1,c1,rfl,h1,h2⟩:=k101_open hk;exact k101_mk w1 x h1 (keepPt h2 hg hw ho))
end
end
section
open Go.WideMaps Go.Maps
attribute [local go_sem] Oper.semAt_some
theorem versions_no (fv : Value) (g : Nat) (c0 c1 c2 c3 c4 : Value) (e : Int) (key : ByteArray) (w : World) (he : e ≠ 0) (h : w.heap[g]? = some (.cells #[c0,c1,c2,c3,c4,.int .i64 e] 87 (0,0))) :
  Calls Tryz.prog 84 #[.pointer (some ⟨g,0,none⟩),.string key,fv] w fun x w'=>x = .returned (.tuple #[]) ∧ w' = w:=by
 have d5:=zb h 5 (.int .i64 e)
 have q0 : (e == 0) = false:=beq_eq_false_iff_ne.2 he
 have q1 : (e != 0) = true:=by rw [bne,q0];rfl
 clear h he
 go_enter Tryz.func84,Tryz.ntmps84
 go_wp2
 first | go_end0 | (simp only [Exit.inBlock,Exit.then];refine bodyPost_ret (results_none rfl _ _ _) rfl ?_) | refine bodyPost_ret (results_none rfl _ _ _) rfl ?_
 exact ⟨rfl,rfl⟩
/-- a bucket and the error behind 'versions' -/
def versR (b : S26) (key : ByteArray) (r : List S47 × Int) : S26 × Int :=
 if r.2 = 0 then (⟨b.f0,b.f1,(putE b.f2 key r.1).1,b.f3,b.f4⟩,(putE b.f2 key r.1).2) else (b,r.2)
def VersPost (g : Nat) (b : S26) (A3 : Option Addr) (c3 : Nat) (er : Int) (w : World) (x : Ending) (w' : World) : Prop :=
 ∃ A2 c2,x = .returned (.tuple #[]) ∧ b.f2.length ≤ c2 ∧ Hid (Kd.C k56 w' A2 b.f2.length b.f2) ∧ Hid (w'.heap[g]? = some (.cells #[.string b.f0,.int .i64 b.f1,.slice A2 b.f2.length c2,.slice A3 b.f3.length c3,.int .u64 b.f4,.int .i64 er] 87 (0,0))) ∧ Hid (Only g w w')
theorem only_below {g : Nat} {w w1 w2 : World} (h : Hid (Only g w w1)) (hb : Below w1.heap.size w1 w2) : Hid (Only g w w2) :=
 ⟨hb.os.trans h.out.os,hb.tape.trans h.out.tape,hb.output.trans h.out.output,Nat.le_trans h.out.size hb.size,fun k hk hg=>(hb.block k (Nat.lt_of_lt_of_le hk h.out.size)).trans (h.out.block k hk hg)⟩
theorem versions_go (f : Nat) (cb : Array Value) (g : Nat) (b : S26) (A2 A3 : Option Addr) (c2 c3 : Nat) (key : ByteArray) (r : List S47 × Int) (w : World) (h : w.heap[g]? = some (.cells #[.string b.f0,.int .i64 b.f1,.slice A2 b.f2.length c2,.slice A3 b.f3.length c3,.int .u64 b.f4,.int .i64 0] 87 (0,0))) (h2 : Kd.C k56 w A2 b.f2.length b.f2) (g2 : b.f2.length ≤ c2)
  (hn : ∀ x ∈ b.f2,x.f1.length ≤ 1000000) (eg : ∀ args w,(callFunc f args).run Tryz.prog w = .ok (.enter f args) w)
  (hd : ∀ A' c' W,Below w.heap.size w W → (getE b.f2 key).length ≤ c' → Kd.C k47 W A' (getE b.f2 key).length (getE b.f2 key) → Calls Tryz.prog f (#[.slice A' (getE b.f2 key).length c'] ++ cb) W (VPost r.1 r.2 W)) :
  Calls Tryz.prog 84 #[.pointer (some ⟨g,0,none⟩),.string key,.func (.func f) #[] cb] w (VersPost g (versR b key r).1 A3 c3 (versR b key r).2 w):=by
 have H:=zh h
 have a2:=zb h 2 (.slice A2 b.f2.length c2)
 have a5:=zb h 5 (.int .i64 0)
 have HGT:=zh (getE.walk A2 c2 b.f2 key w h2 hn)
 have HD:=zh hd;clear hd
 have HWL:=zh (work_like b.f0 b.f1 A2 b.f2.length c2 A3 b.f3.length c3 b.f4 0)
 have H2:=zh (fun (W : World) (ho : Only g w W)=>keepE h2 h HWL.out ho)
 generalize getE b.f2 key = old at *
 obtain ⟨rl,er⟩:=r
 by_cases he : er = 0
 ·subst he
  have e : versR b key (rl,0) = (⟨b.f0,b.f1,(putE b.f2 key rl).1,b.f3,b.f4⟩,(putE b.f2 key rl).2):=by unfold versR;rw [if_pos rfl]
  rw [e]
  have HNO:=zh (fun (W : World) hW=>no.walk g (.string b.f0) (.int .i64 b.f1) (.slice A2 b.f2.length c2) (.slice A3 b.f3.length c3) (.int .u64 b.f4) 0 0 false W hW)
  rw [noR_f] at HNO
  have HPU:=zh (fun (W : World) (A4 : Option Addr) (c4 : Nat) (hW : Kd.C k56 W A2 b.f2.length b.f2) (h4 : Kd.C k47 W A4 rl.length rl) (g4 : rl.length ≤ c4)=>putE.walk A2 A4 c2 c4 b.f2 key rl W hW g2 h4 g4)
  generalize putE b.f2 key rl = p at *
  obtain ⟨pl,pe⟩:=p
  clear h h2 hn e
  go_enter Tryz.func84,Tryz.ntmps84
  go_wp2_with (first
   | (go_at_call 49;go_must (refine HGT.out.mono ?_;rintro e w1 ⟨A1,c1,rfl,hc1,hC1,hb⟩;have HB1:=zh hb;have HC1:=hC1;have K1:=zk H hb;have a5:=zb K1.out 5 (.int .i64 0);clear hb hC1))
   | (go_at_fn f;go_must (refine (HD.out A1 c1 _ HB1.out hc1 HC1.out).mono ?_;rintro e w3 ⟨A4,c4,rfl,hc4,hC4,hb⟩;have HB3:=keepB HB1 hb;have HC4:=hC4;have K3:=zk K1 hb;clear hb hC4))
   | (go_at_call 45;go_must (refine (HNO.out _ K3.out).mono ?_;rintro e w5 ⟨rfl,hk5,ho5⟩;have K5:=hk5;have HO5:=only_trans (only_below (zh (Only.refl g w)) HB3.out) ho5;have HC5:=zh (keepV HC4.out K3.out HWL.out ho5.out);have b5:=zb K5.out 5 (.int .i64 0);have b2:=zb K5.out 2 (.slice A2 b.f2.length c2);clear hk5 ho5))
   | (go_at_call 132;go_must (refine (HPU.out _ A4 c4 (H2.out _ HO5.out) HC5.out hc4).mono ?_;rintro e w6 ⟨A6,c6,rfl,hc6,hC6,hb⟩;have HC6:=hC6;have HO6:=only_below HO5 hb;have K6:=zk K5 hb;clear hb hC6))
   | ((with_reducible refine gate_store (t:=22) (p:=50) (v:=.tmp 46) rfl ?_);go_must (refine zq 22 (.tmp 50) (.tmp 46) g 2 87 (.slice A6 pl.length c6) K6 (by kernel_rfl) ?_;intro w7 hk7 ho7))
   | ((with_reducible refine gate_store (t:=30) (p:=52) (v:=.tmp 47) rfl ?_);go_must (refine zq 30 (.tmp 52) (.tmp 47) g 5 87 (.int .i64 pe) hk7 (by kernel_rfl) ?_;intro w8 hk8 ho8)))
  go_end0
  have HLW:=work_like b.f0 b.f1 A2 b.f2.length c2 A3 b.f3.length c3 b.f4 0
  have HCF : Kd.C k56 w8 A6 pl.length pl:=keepE (keepE HC6.out K6.out HLW ho7.out) hk7.out (work_like b.f0 b.f1 A6 pl.length c6 A3 b.f3.length c3 b.f4 0) ho8.out
  exact ⟨A6,c6,rfl,hc6,HCF,hk8.out,only_trans (only_trans HO6 ho7) ho8⟩
 ·have e : versR b key (rl,er) = (b,er):=by unfold versR;rw [if_neg he]
  rw [e]
  have HNO:=zh (fun (W : World) hW=>no.walk g (.string b.f0) (.int .i64 b.f1) (.slice A2 b.f2.length c2) (.slice A3 b.f3.length c3) (.int .u64 b.f4) 0 er true W hW)
  rw [noR_0] at HNO
  have q0 : (er == 0) = false:=beq_eq_false_iff_ne.2 he
  have q1 : (er != 0) = true:=by rw [bne,q0];rfl
  clear h h2 hn e he
  go_enter Tryz.func84,Tryz.ntmps84
  go_wp2_with (first
   | (go_at_call 49;go_must (refine HGT.out.mono ?_;rintro e w1 ⟨A1,c1,rfl,hc1,hC1,hb⟩;have HB1:=zh hb;have HC1:=hC1;have K1:=zk H hb;have a5:=zb K1.out 5 (.int .i64 0);clear hb hC1))
   | (go_at_fn f;go_must (refine (HD.out A1 c1 _ HB1.out hc1 HC1.out).mono ?_;rintro e w3 ⟨A4,c4,rfl,hc4,hC4,hb⟩;have HB3:=keepB HB1 hb;have HC4:=hC4;have K3:=zk K1 hb;clear hb hC4))
   | (go_at_call 45;go_must (refine (HNO.out _ K3.out).mono ?_;rintro e w5 ⟨rfl,hk5,ho5⟩;have K5:=hk5;have HO5:=only_trans (only_below (zh (Only.refl g w)) HB3.out) ho5;have b5:=zb K5.out 5 (.int .i64 er);clear hk5 ho5)))
  go_end0
  exact ⟨A2,c2,rfl,g2,H2.out _ HO5.out,K5,HO5⟩
end
section
open Go.WideMaps Go.Maps
attribute [local go_sem] Oper.semAt_some
theorem close1_ok (b x : S26) (A2 A3 B2 B3 : Option Addr) (c2 c3 d2 d3 : Nat) (ge gw gb : Nat) (er : Int) (u : FrameMode) (w : World) (he : w.heap[ge]? = some (.cells #[.int .i64 er] 30 (0,0))) (hw : w.heap[gw]? = some (.cells #[.string x.f0,.int .i64 x.f1,.slice B2 x.f2.length d2,.slice B3 x.f3.length d3,.int .u64 x.f4] 26 (0,0))) (hb : w.heap[gb]? = some (.cells #[.string b.f0,.int .i64 b.f1,.slice A2 b.f2.length c2,.slice A3 b.f3.length c3,.int .u64 b.f4] 26 (0,0))) (hz : er = 0) :
  CallsD Tryz.prog 80 #[.pointer (some ⟨ge,0,none⟩),.pointer (some ⟨gw,0,none⟩),.pointer (some ⟨gb,0,none⟩)] u w fun e u' w'=>u' = u ∧ (e = .returned (.tuple #[]) ∧ (Hid (w'.heap[gb]? = some (.cells #[.string b.f0,.int .i64 b.f1,.slice A2 b.f2.length c2,.slice A3 b.f3.length c3,.int .u64 b.f4] 26 (0,0))) ∧ Hid (Only gb w w'))):=by
 have HB:=zh hb
 have e0:=zb he 0 (.int .i64 er)
 have x0:=zb hw 0 (.string x.f0)
 have x1:=zb hw 1 (.int .i64 x.f1)
 have x2:=zb hw 2 (.slice B2 x.f2.length d2)
 have x3:=zb hw 3 (.slice B3 x.f3.length d3)
 have x4:=zb hw 4 (.int .u64 x.f4)
 have q0 : (er == 0) = true:=beq_iff_eq.2 hz
 have q1 : (er != 0) = false:=by rw [bne,q0];rfl
 clear he hw hb hz
 go_enter_d Tryz.func80,Tryz.ntmps80
 go_wp2
 go_end0
 first | exact ⟨rfl,rfl,HB,Only.refl _ _⟩ | exact ⟨rfl,HB,Only.refl _ _⟩ | exact ⟨HB,Only.refl _ _⟩
theorem close1_err (b x : S26) (A2 A3 B2 B3 : Option Addr) (c2 c3 d2 d3 : Nat) (ge gw gb : Nat) (er : Int) (u : FrameMode) (w : World) (he : w.heap[ge]? = some (.cells #[.int .i64 er] 30 (0,0))) (hw : w.heap[gw]? = some (.cells #[.string x.f0,.int .i64 x.f1,.slice B2 x.f2.length d2,.slice B3 x.f3.length d3,.int .u64 x.f4] 26 (0,0))) (hb : w.heap[gb]? = some (.cells #[.string b.f0,.int .i64 b.f1,.slice A2 b.f2.length c2,.slice A3 b.f3.length c3,.int .u64 b.f4] 26 (0,0))) (hz : er ≠ 0) :
  CallsD Tryz.prog 80 #[.pointer (some ⟨ge,0,none⟩),.pointer (some ⟨gw,0,none⟩),.pointer (some ⟨gb,0,none⟩)] u w fun e u' w'=>u' = u ∧ (e = .returned (.tuple #[]) ∧ (Hid (w'.heap[gb]? = some (.cells #[.string x.f0,.int .i64 x.f1,.slice B2 x.f2.length d2,.slice B3 x.f3.length d3,.int .u64 x.f4] 26 (0,0))) ∧ Hid (Only gb w w'))):=by
 have HB:=zh hb
 have e0:=zb he 0 (.int .i64 er)
 have x0:=zb hw 0 (.string x.f0)
 have x1:=zb hw 1 (.int .i64 x.f1)
 have x2:=zb hw 2 (.slice B2 x.f2.length d2)
 have x3:=zb hw 3 (.slice B3 x.f3.length d3)
 have x4:=zb hw 4 (.int .u64 x.f4)
 have q0 : (er == 0) = false:=beq_eq_false_iff_ne.2 hz
 have q1 : (er != 0) = true:=by rw [bne,q0];rfl
 clear he hw hb hz
 go_enter_d Tryz.func80,Tryz.ntmps80
 go_wp2_with ((with_reducible refine gate_store (t:=26) (p:=2) (v:=.tmp 5) rfl ?_);go_must (refine zs 26 (.tmp 2) (.tmp 5) gb 0 26 [.string x.f0,.int .i64 x.f1,.slice B2 x.f2.length d2,.slice B3 x.f3.length d3,.int .u64 x.f4] HB isz_bucket ?_;intro w1 hk1 ho1))
 go_end0
 first | exact ⟨rfl,rfl,hk1,ho1⟩ | exact ⟨rfl,hk1,ho1⟩ | exact ⟨hk1,ho1⟩
theorem hidOnly {g k : Nat} {w w1 w2 : World} (h : Only g w w1) (ho : Only k w1 w2) (hk : w.heap.size ≤ k) : Only g w w2 :=
 ⟨ho.os.trans h.os,ho.tape.trans h.tape,ho.output.trans h.output,Nat.le_trans h.size ho.size,fun i hi hg=>(ho.block i (Nat.lt_of_lt_of_le hi h.size) (by omega)).trans (h.block i hi hg)⟩
theorem leaves_tmps {P : Program} {fn : Func} {tm tm' : Array Value} {R : Ending → World → Prop} (h : ∀ w,(results fn tm').run P w = (results fn tm).run P w) : ∀ (ds : List Deferred) (u : FrameMode) (w : World),Leaves P fn tm R ds u w → Leaves P fn tm' R ds u w:=by
 intro ds
 induction ds with
 | nil =>
  intro u w hl
  cases u with
  | run=>exact hl
  | returning=>obtain ⟨v,h1,h2⟩:=hl;exact ⟨v,(h w).trans h1,h2⟩
  | panicking chain=>exact hl
 | cons d ds ih =>
  intro u w hl
  obtain ⟨hu,fv,cap,f,args,ht,hi,hc⟩:=hl
  refine ⟨hu,fv,cap,f,args,ht,hi,hc.mono fun e u' w' he=>?_⟩
  cases e with
  | returned v=>exact ih _ _ he
  | panicked chain=>exact ih _ _ he
  | outgrown=>exact he
theorem closeQ {R : Ending → World → Prop} {c : List PanicEntry} {a : Act} {w : World} {k : Tmp} {v : Value} (h4 : k ≠ 4) (h5 : k ≠ 5) (h : bodyPostD Tryz.prog Tryz.f36 R (.panic c) (a.put (some k) v) w) : bodyPostD Tryz.prog Tryz.f36 R (.panic c) a w:=by
 refine leaves_tmps (fun w=>?_) _ _ _ h
 have e4 : (a.put (some k) v).tmps[4]? = a.tmps[4]?:=by simp [Act.put,Array.getElem?_setIfInBounds,h4]
 have e5 : (a.put (some k) v).tmps[5]? = a.tmps[5]?:=by simp [Act.put,Array.getElem?_setIfInBounds,h5]
 simp only [results,Tryz.results36]
 simp [e4,e5]
theorem close_ok (b x : S26) (A2 A3 B2 B3 : Option Addr) (c2 c3 d2 d3 : Nat) (g : Nat) (w : World) (h : w.heap[g]? = some (.cells #[.string b.f0,.int .i64 b.f1,.slice A2 b.f2.length c2,.slice A3 b.f3.length c3,.int .u64 b.f4,.int .i64 0] 87 (0,0))) (h2 : Kd.C k56 w A2 b.f2.length b.f2) (g2 : b.f2.length ≤ c2) (h3 : Kd.C k101 w A3 b.f3.length b.f3) (g3 : b.f3.length ≤ c3) (q2 : indexB b.f2 = true) (q3 : checkB b.f3 = true) (q4 : octB b.f2 b.f3 ≤ 20000) :
  Calls Tryz.prog 36 #[.pointer (some ⟨g,0,none⟩),.agg #[.string x.f0,.int .i64 x.f1,.slice B2 x.f2.length d2,.slice B3 x.f3.length d3,.int .u64 x.f4]] w fun y w'=>y = .returned (.tuple #[.agg #[.string b.f0,.int .i64 b.f1,.slice A2 b.f2.length c2,.slice A3 b.f3.length c3,.int .u64 b.f4],.int .i64 0]) ∧ Hid (Only g w w'):=by
 have H:=zh h
 have HOC:=zh (fun (W : World) (hW : Below w.heap.size w W)=>octets_calls (w:=W) b.f0 b.f1 b.f2 b.f3 b.f4 (Kd.C_below h2 hW) g2 (Kd.C_below h3 hW) g3 q2 q3)
 have HNO:=zh (fun (W : World) hW=>no.walk g (.string b.f0) (.int .i64 b.f1) (.slice A2 b.f2.length c2) (.slice A3 b.f3.length c3) (.int .u64 b.f4) 0 6 false W hW)
 rw [noR_f] at HNO
 have dq : decide (20000 < octB b.f2 b.f3) = false:=decide_eq_false (by omega)
 generalize octB b.f2 b.f3 = oc at *
 have hgl:=blk_lt h
 clear h h2 h3 q4
 go_enter_defers Tryz.func36,Tryz.ntmps36
 go_wp2_with (first
  | ((with_reducible refine gate_dst (N:=3) rfl ?_);go_must (refine box_event ?hg (N:=3) ?hd (cs:=#[.string x.f0,.int .i64 x.f1,.slice B2 x.f2.length d2,.slice B3 x.f3.length d3,.int .u64 x.f4]) (t:=26) ?hr ?_;(case hd=>rfl);(case hg=>rfl);(case hr=>first | (go_simp;done) | (go_simp;rfl));intro gw hgw w1 hb1 hbel1;have KW1:=zh hb1;have HB1:=zh hbel1;have GW:=zh (show w.heap.size ≤ gw by rw [hgw];exact Nat.le_refl _);have LW:=zh (blk_lt hb1);clear hb1 hbel1 hgw))
  | ((with_reducible refine gate_dst (N:=4) rfl ?_);go_must (refine box_event ?hg (N:=4) ?hd (cs:=#[.string ⟨#[]⟩,.int .i64 0,.slice none 0 0,.slice none 0 0,.int .u64 0]) (t:=26) ?hr ?_;(case hd=>rfl);(case hg=>rfl);(case hr=>first | (go_simp;done) | (go_simp;rfl));intro gb hgb w2 hb2 hbel2;have KB2:=zh hb2;have HB2:=keepB HB1 hbel2;have GB:=zh (show gw < gb by rw [hgb];exact LW.out);have KW2:=zk KW1 hbel2;have LB:=zh (blk_lt hb2);clear hb2 hbel2 hgb))
  | ((with_reducible refine gate_dst (N:=5) rfl ?_);go_must (refine box_event ?hg (N:=5) ?hd (cs:=#[.int .i64 0]) (t:=30) ?hr ?_;(case hd=>rfl);(case hg=>rfl);(case hr=>first | (go_simp;done) | (go_simp;rfl));intro ge hge w3 hb3 hbel3;have KE3:=zh hb3;have HB3:=keepB HB2 hbel3;have GE:=zh (show gb < ge by rw [hge];exact LB.out);have KW3:=zk KW2 hbel3;have KB3:=zk KB2 hbel3;have K3:=zk H HB3.out;obtain ⟨a0,a1,a2,a3,a4,a5⟩:=zz6 K3.out;clear hb3 hbel3 hge))
  | (go_at_call 69;go_must (refine (HOC.out _ HB3.out).mono ?_;rintro y w4 ⟨rfl,hb⟩;have HB4:=keepB HB3 hb;have K4:=zk K3 hb;have KW4:=zk KW3 hb;have KB4:=zk KB3 hb;have KE4:=zk KE3 hb;clear hb))
  | (go_at_call 45;go_must (refine (HNO.out _ K4.out).mono ?_;rintro y w5 ⟨rfl,hk5,ho5⟩;have K5:=hk5;have HO5:=ho5;obtain ⟨b0,b1,b2,b3,b4,b5⟩:=zz6 hk5.out;clear hk5 ho5)))
 have nw : Hid (gw ≠ g):=by have:=GW.out;unfold Hid;omega
 have nb : Hid (gb ≠ g):=by have:=GW.out;have:=GB.out;unfold Hid;omega
 have ne : Hid (ge ≠ g):=by have:=GW.out;have:=GB.out;have:=GE.out;unfold Hid;omega
 have KW5:=zh (blk_drew (HO5.out.blk KW4.out nw.out))
 have KB5:=zh (blk_drew (HO5.out.blk KB4.out nb.out))
 have KE5:=zh (blk_drew (HO5.out.blk KE4.out ne.out))
 have K6:=zh (blk_drew K5.out)
 have HO6:=zh ((only_trans (only_below (zh (Only.refl g w)) HB4.out) HO5).out.drewN 1)
 clear K3 KW1 KW2 KW3 KB2 KB3 KE3 KW4 KB4 KE4 HB1 HB2 HB3 HB4 HO5 H HNO
 refine wp_region_held_drew (S:=fun W=>W.cell? ⟨g,0,none⟩ = some (.string b.f0) ∧ W.cell? ⟨g,1,none⟩ = some (.int .i64 b.f1) ∧ W.cell? ⟨g,2,none⟩ = some (.slice A2 b.f2.length c2) ∧ W.cell? ⟨g,3,none⟩ = some (.slice A3 b.f3.length c3) ∧ W.cell? ⟨g,4,none⟩ = some (.int .u64 b.f4) ∧ W.cell? ⟨g,5,none⟩ = some (.int .i64 0) ∧ W.heap[gw]? = some (.cells #[.string x.f0,.int .i64 x.f1,.slice B2 x.f2.length d2,.slice B3 x.f3.length d3,.int .u64 x.f4] 26 (0,0)) ∧ (∃ q0 q1 q2 q3 q4,W.heap[gb]? = some (.cells #[q0,q1,q2,q3,q4] 26 (0,0))) ∧ (∃ q0,W.heap[ge]? = some (.cells #[q0] 30 (0,0))) ∧ Only g w W) (by kernel_rfl) ?_ (fun hHeld=>?_)
 ·exact ⟨zj K6 0,zj K6 1,zj K6 2,zj K6 3,zj K6 4,zj K6 5,KW5.out,⟨_,_,_,_,_,KB5.out⟩,⟨_,KE5.out⟩,HO6.out⟩
 have GWB:=zh (show w.heap.size ≤ gb by have:=GW.out;have:=GB.out;omega)
 have GWE:=zh (show w.heap.size ≤ ge by have:=GWB.out;have:=GE.out;omega)
 clear KW5 KB5 KE5 K6 HO6
 generalize w5.drew = w6 at hHeld ⊢
 refine tk (i:=0) (v:=?v0g1) rfl hHeld (Or.inl ⟨rfl,?y0g1⟩) ?r0g1 (hQ:=fun _ _ _ h=>closeQ (by decide) (by decide) h)
 case y0g1=>(rintro w ⟨s0,s1,s2,s3,s4,s5,s6,s7,s8,s9⟩;go_simp;try with_reducible rfl)
 try simp only [zA,zB,zC,Act.put,zD,zE,zF]
 refine tk (i:=1) (v:=?v1g1) rfl hHeld (Or.inl ⟨rfl,?y1g1⟩) ?r1g1 (hQ:=fun _ _ _ h=>closeQ (by decide) (by decide) h)
 case y1g1=>(rintro w ⟨s0,s1,s2,s3,s4,s5,s6,s7,s8,s9⟩;go_simp;try with_reducible rfl)
 try simp only [zA,zB,zC,Act.put,zD,zE,zF]
 refine tk (i:=2) (v:=?v2g1) rfl hHeld (Or.inl ⟨rfl,?y2g1⟩) ?r2g1 (hQ:=fun _ _ _ h=>closeQ (by decide) (by decide) h)
 case y2g1=>(rintro w ⟨s0,s1,s2,s3,s4,s5,s6,s7,s8,s9⟩;go_simp;try with_reducible rfl)
 try simp only [zA,zB,zC,Act.put,zD,zE,zF]
 refine tk (i:=3) (v:=?v3g1) rfl hHeld (Or.inl ⟨rfl,?y3g1⟩) ?r3g1 (hQ:=fun _ _ _ h=>closeQ (by decide) (by decide) h)
 case y3g1=>(rintro w ⟨s0,s1,s2,s3,s4,s5,s6,s7,s8,s9⟩;go_simp;try with_reducible rfl)
 try simp only [zA,zB,zC,Act.put,zD,zE,zF]
 refine tk (i:=4) (v:=?v4g1) rfl hHeld (Or.inl ⟨rfl,?y4g1⟩) ?r4g1 (hQ:=fun _ _ _ h=>closeQ (by decide) (by decide) h)
 case y4g1=>(rintro w ⟨s0,s1,s2,s3,s4,s5,s6,s7,s8,s9⟩;go_simp;try with_reducible rfl)
 try simp only [zA,zB,zC,Act.put,zD,zE,zF]
 refine tk (i:=5) (v:=?v5g1) rfl hHeld (Or.inl ⟨rfl,?y5g1⟩) ?r5g1 (hQ:=fun _ _ _ h=>closeQ (by decide) (by decide) h)
 case y5g1=>(rintro w ⟨s0,s1,s2,s3,s4,s5,s6,s7,s8,s9⟩;go_simp;try with_reducible rfl)
 try simp only [zA,zB,zC,Act.put,zD,zE,zF]
 refine tk (i:=6) (v:=?v6g1) rfl hHeld (Or.inl ⟨rfl,?y6g1⟩) ?r6g1 (hQ:=fun _ _ _ h=>closeQ (by decide) (by decide) h)
 case y6g1=>(rintro w ⟨s0,s1,s2,s3,s4,s5,s6,s7,s8,s9⟩;go_simp;try with_reducible rfl)
 try simp only [zA,zB,zC,Act.put,zD,zE,zF]
 refine tk (i:=7) (v:=?v7g1) rfl hHeld (Or.inl ⟨rfl,?y7g1⟩) ?r7g1 (hQ:=fun _ _ _ h=>closeQ (by decide) (by decide) h)
 case y7g1=>(rintro w ⟨s0,s1,s2,s3,s4,s5,s6,s7,s8,s9⟩;go_simp;try with_reducible rfl)
 try simp only [zA,zB,zC,Act.put,zD,zE,zF]
 refine wpAnyH_ready (rs:=[8]) (by kernel_rfl) (by simp) ?_
 refine AllReadyH.cons (o:=_) rfl (fun K hK=>?_) AllReadyH.nil
 rw [if_pos (by rfl)]
 obtain ⟨s0,s1,s2,s3,s4,s5,s6,s7,s8,s9⟩:=hHeld
 obtain ⟨q0,q1,q2,q3,q4,s7⟩:=s7
 refine wp_store_row rfl 26 (.tmp 4) (.tmp 25) rfl gb 0 _ 26 (.agg #[.string b.f0,.int .i64 b.f1,.slice A2 b.f2.length c2,.slice A3 b.f3.length c3,.int .u64 b.f4]) [.string b.f0,.int .i64 b.f1,.slice A2 b.f2.length c2,.slice A3 b.f3.length c3,.int .u64 b.f4] rfl rfl s7 rfl isz_bucket (by show 0 + 5 ≤ 5;decide) (by simp [Value.oneCell']) ?_
 intro w7 hk7 ho7
 have KB7:=hk7
 have HO7:=zh (hidOnly s9 ho7.out GWB.out)
 refine hK.out _ _ ⟨Only.cell ho7.out (p:=⟨g,0,none⟩) (Ne.symm nb.out) s0,Only.cell ho7.out (p:=⟨g,1,none⟩) (Ne.symm nb.out) s1,Only.cell ho7.out (p:=⟨g,2,none⟩) (Ne.symm nb.out) s2,Only.cell ho7.out (p:=⟨g,3,none⟩) (Ne.symm nb.out) s3,Only.cell ho7.out (p:=⟨g,4,none⟩) (Ne.symm nb.out) s4,Only.cell ho7.out (p:=⟨g,5,none⟩) (Ne.symm nb.out) s5,ho7.out.blk s6 (Nat.ne_of_lt GB.out),⟨_,_,_,_,_,hk7.out⟩,(by obtain ⟨z,s8⟩:=s8;exact ⟨z,ho7.out.blk s8 (Nat.ne_of_gt GE.out)⟩),HO7.out⟩ (fun hHeld=>?_)
 clear hK K s7 hk7 ho7 HO7 s0 s1 s2 s3 s4 s5 s6 s8 s9
 try simp only [zA,zB,zC,Act.put,zD,zE,zF]
 refine wpAnyH_ready (rs:=[9]) (by kernel_rfl) (by simp) ?_
 refine AllReadyH.cons (o:=_) rfl (fun K hK=>?_) AllReadyH.nil
 rw [if_pos (by rfl)]
 obtain ⟨s0,s1,s2,s3,s4,s5,s6,s7,s8,s9⟩:=hHeld
 obtain ⟨q0,s8⟩:=s8
 refine wp_store_row rfl 30 (.tmp 5) (.tmp 29) rfl ge 0 _ 30 (.int .i64 0) [.int .i64 0] rfl rfl s8 rfl (by kernel_rfl) (by show 0 + 1 ≤ 1;decide) (by simp [Value.oneCell']) ?_
 intro w8 hk8 ho8
 have KB8:=zl ho8 KB7 (Nat.ne_of_lt GE.out)
 have KE8:=hk8
 have HO8:=zh (hidOnly s9 ho8.out GWE.out)
 have KW8:=zh (ho8.out.blk s6 (Nat.ne_of_lt (Nat.lt_trans GB.out GE.out)))
 refine hK.out _ _ ⟨Only.cell ho8.out (p:=⟨g,0,none⟩) (Ne.symm ne.out) s0,Only.cell ho8.out (p:=⟨g,1,none⟩) (Ne.symm ne.out) s1,Only.cell ho8.out (p:=⟨g,2,none⟩) (Ne.symm ne.out) s2,Only.cell ho8.out (p:=⟨g,3,none⟩) (Ne.symm ne.out) s3,Only.cell ho8.out (p:=⟨g,4,none⟩) (Ne.symm ne.out) s4,Only.cell ho8.out (p:=⟨g,5,none⟩) (Ne.symm ne.out) s5,KW8.out,⟨_,_,_,_,_,KB8.out⟩,⟨_,hk8.out⟩,HO8.out⟩ (fun hHeld=>?_)
 clear hK K s7 s8 hHeld hk8 ho8 s0 s1 s2 s3 s4 s5 s6 s9
 try simp only [zA,zB,zC,Act.put,zD,zE,zF]
 refine wpAnyH_done (by kernel_rfl) ?_ _
 go_wp2
 refine leaves_cons (f:=80) (args:=#[.pointer (some ⟨ge,0,none⟩),.pointer (some ⟨gw,0,none⟩),.pointer (some ⟨gb,0,none⟩)]) (by simp) (by simp [go_sem]) ?_
 refine (close1_ok b x A2 A3 B2 B3 c2 c3 d2 d3 ge gw gb 0 .returning _ KE8.out KW8.out KB8.out rfl).mono ?_
 rintro y u' w9 ⟨rfl,rfl,hk9,ho9⟩
 have KE9:=zl ho9 KE8 (Nat.ne_of_gt GE.out)
 have z0:=zb hk9.out 0 (.string b.f0)
 have z1:=zb hk9.out 1 (.int .i64 b.f1)
 have z2:=zb hk9.out 2 (.slice A2 b.f2.length c2)
 have z3:=zb hk9.out 3 (.slice A3 b.f3.length c3)
 have z4:=zb hk9.out 4 (.int .u64 b.f4)
 have z5:=zb KE9.out 0 (.int .i64 0)
 simp only [Leaves,settle]
 refine ⟨.tuple #[.agg #[.string b.f0,.int .i64 b.f1,.slice A2 b.f2.length c2,.slice A3 b.f3.length c3,.int .u64 b.f4],.int .i64 0],?_,rfl,zh (hidOnly HO8.out ho9.out GWB.out)⟩
 simp [results,Tryz.results36,go_sem,z0,z1,z2,z3,z4,z5]
theorem close_big (b x : S26) (A2 A3 B2 B3 : Option Addr) (c2 c3 d2 d3 : Nat) (g : Nat) (w : World) (h : w.heap[g]? = some (.cells #[.string b.f0,.int .i64 b.f1,.slice A2 b.f2.length c2,.slice A3 b.f3.length c3,.int .u64 b.f4,.int .i64 0] 87 (0,0))) (h2 : Kd.C k56 w A2 b.f2.length b.f2) (g2 : b.f2.length ≤ c2) (h3 : Kd.C k101 w A3 b.f3.length b.f3) (g3 : b.f3.length ≤ c3) (q2 : indexB b.f2 = true) (q3 : checkB b.f3 = true) (q4 : ¬ octB b.f2 b.f3 ≤ 20000) :
  Calls Tryz.prog 36 #[.pointer (some ⟨g,0,none⟩),.agg #[.string x.f0,.int .i64 x.f1,.slice B2 x.f2.length d2,.slice B3 x.f3.length d3,.int .u64 x.f4]] w fun y w'=>y = .returned (.tuple #[.agg #[.string x.f0,.int .i64 x.f1,.slice B2 x.f2.length d2,.slice B3 x.f3.length d3,.int .u64 x.f4],.int .i64 6]) ∧ Hid (Only g w w'):=by
 have H:=zh h
 have HOC:=zh (fun (W : World) (hW : Below w.heap.size w W)=>octets_calls (w:=W) b.f0 b.f1 b.f2 b.f3 b.f4 (Kd.C_below h2 hW) g2 (Kd.C_below h3 hW) g3 q2 q3)
 have HNO:=zh (fun (W : World) hW=>no.walk g (.string b.f0) (.int .i64 b.f1) (.slice A2 b.f2.length c2) (.slice A3 b.f3.length c3) (.int .u64 b.f4) 0 6 true W hW)
 rw [noR_0] at HNO
 have dq : decide (20000 < octB b.f2 b.f3) = true:=decide_eq_true (by omega)
 generalize octB b.f2 b.f3 = oc at *
 have hgl:=blk_lt h
 clear h h2 h3 q4
 go_enter_defers Tryz.func36,Tryz.ntmps36
 go_wp2_with (first
  | ((with_reducible refine gate_dst (N:=3) rfl ?_);go_must (refine box_event ?hg (N:=3) ?hd (cs:=#[.string x.f0,.int .i64 x.f1,.slice B2 x.f2.length d2,.slice B3 x.f3.length d3,.int .u64 x.f4]) (t:=26) ?hr ?_;(case hd=>rfl);(case hg=>rfl);(case hr=>first | (go_simp;done) | (go_simp;rfl));intro gw hgw w1 hb1 hbel1;have KW1:=zh hb1;have HB1:=zh hbel1;have GW:=zh (show w.heap.size ≤ gw by rw [hgw];exact Nat.le_refl _);have LW:=zh (blk_lt hb1);clear hb1 hbel1 hgw))
  | ((with_reducible refine gate_dst (N:=4) rfl ?_);go_must (refine box_event ?hg (N:=4) ?hd (cs:=#[.string ⟨#[]⟩,.int .i64 0,.slice none 0 0,.slice none 0 0,.int .u64 0]) (t:=26) ?hr ?_;(case hd=>rfl);(case hg=>rfl);(case hr=>first | (go_simp;done) | (go_simp;rfl));intro gb hgb w2 hb2 hbel2;have KB2:=zh hb2;have HB2:=keepB HB1 hbel2;have GB:=zh (show gw < gb by rw [hgb];exact LW.out);have KW2:=zk KW1 hbel2;have LB:=zh (blk_lt hb2);clear hb2 hbel2 hgb))
  | ((with_reducible refine gate_dst (N:=5) rfl ?_);go_must (refine box_event ?hg (N:=5) ?hd (cs:=#[.int .i64 0]) (t:=30) ?hr ?_;(case hd=>rfl);(case hg=>rfl);(case hr=>first | (go_simp;done) | (go_simp;rfl));intro ge hge w3 hb3 hbel3;have KE3:=zh hb3;have HB3:=keepB HB2 hbel3;have GE:=zh (show gb < ge by rw [hge];exact LB.out);have KW3:=zk KW2 hbel3;have KB3:=zk KB2 hbel3;have K3:=zk H HB3.out;obtain ⟨a0,a1,a2,a3,a4,a5⟩:=zz6 K3.out;clear hb3 hbel3 hge))
  | (go_at_call 69;go_must (refine (HOC.out _ HB3.out).mono ?_;rintro y w4 ⟨rfl,hb⟩;have HB4:=keepB HB3 hb;have K4:=zk K3 hb;have KW4:=zk KW3 hb;have KB4:=zk KB3 hb;have KE4:=zk KE3 hb;clear hb))
  | (go_at_call 45;go_must (refine (HNO.out _ K4.out).mono ?_;rintro y w5 ⟨rfl,hk5,ho5⟩;have K5:=hk5;have HO5:=ho5;obtain ⟨b0,b1,b2,b3,b4,b5⟩:=zz6 hk5.out;clear hk5 ho5)))
 have nw : Hid (gw ≠ g):=by have:=GW.out;unfold Hid;omega
 have nb : Hid (gb ≠ g):=by have:=GW.out;have:=GB.out;unfold Hid;omega
 have ne : Hid (ge ≠ g):=by have:=GW.out;have:=GB.out;have:=GE.out;unfold Hid;omega
 have KW5:=zh (blk_drew (HO5.out.blk KW4.out nw.out))
 have KB5:=zh (blk_drew (HO5.out.blk KB4.out nb.out))
 have KE5:=zh (blk_drew (HO5.out.blk KE4.out ne.out))
 have K6:=zh (blk_drew K5.out)
 have HO6:=zh ((only_trans (only_below (zh (Only.refl g w)) HB4.out) HO5).out.drewN 1)
 clear K3 KW1 KW2 KW3 KB2 KB3 KE3 KW4 KB4 KE4 HB1 HB2 HB3 HB4 HO5 H HNO
 refine wp_region_held_drew (S:=fun W=>W.cell? ⟨g,0,none⟩ = some (.string b.f0) ∧ W.cell? ⟨g,1,none⟩ = some (.int .i64 b.f1) ∧ W.cell? ⟨g,2,none⟩ = some (.slice A2 b.f2.length c2) ∧ W.cell? ⟨g,3,none⟩ = some (.slice A3 b.f3.length c3) ∧ W.cell? ⟨g,4,none⟩ = some (.int .u64 b.f4) ∧ W.cell? ⟨g,5,none⟩ = some (.int .i64 6) ∧ W.heap[gw]? = some (.cells #[.string x.f0,.int .i64 x.f1,.slice B2 x.f2.length d2,.slice B3 x.f3.length d3,.int .u64 x.f4] 26 (0,0)) ∧ (∃ q0 q1 q2 q3 q4,W.heap[gb]? = some (.cells #[q0,q1,q2,q3,q4] 26 (0,0))) ∧ (∃ q0,W.heap[ge]? = some (.cells #[q0] 30 (0,0))) ∧ Only g w W) (by kernel_rfl) ?_ (fun hHeld=>?_)
 ·exact ⟨zj K6 0,zj K6 1,zj K6 2,zj K6 3,zj K6 4,zj K6 5,KW5.out,⟨_,_,_,_,_,KB5.out⟩,⟨_,KE5.out⟩,HO6.out⟩
 have GWB:=zh (show w.heap.size ≤ gb by have:=GW.out;have:=GB.out;omega)
 have GWE:=zh (show w.heap.size ≤ ge by have:=GWB.out;have:=GE.out;omega)
 clear KW5 KB5 KE5 K6 HO6
 generalize w5.drew = w6 at hHeld ⊢
 refine tk (i:=0) (v:=?v0g2) rfl hHeld (Or.inl ⟨rfl,?y0g2⟩) ?r0g2 (hQ:=fun _ _ _ h=>closeQ (by decide) (by decide) h)
 case y0g2=>(rintro w ⟨s0,s1,s2,s3,s4,s5,s6,s7,s8,s9⟩;go_simp;try with_reducible rfl)
 try simp only [zA,zB,zC,Act.put,zD,zE,zF]
 refine tk (i:=1) (v:=?v1g2) rfl hHeld (Or.inl ⟨rfl,?y1g2⟩) ?r1g2 (hQ:=fun _ _ _ h=>closeQ (by decide) (by decide) h)
 case y1g2=>(rintro w ⟨s0,s1,s2,s3,s4,s5,s6,s7,s8,s9⟩;go_simp;try with_reducible rfl)
 try simp only [zA,zB,zC,Act.put,zD,zE,zF]
 refine tk (i:=2) (v:=?v2g2) rfl hHeld (Or.inl ⟨rfl,?y2g2⟩) ?r2g2 (hQ:=fun _ _ _ h=>closeQ (by decide) (by decide) h)
 case y2g2=>(rintro w ⟨s0,s1,s2,s3,s4,s5,s6,s7,s8,s9⟩;go_simp;try with_reducible rfl)
 try simp only [zA,zB,zC,Act.put,zD,zE,zF]
 refine tk (i:=3) (v:=?v3g2) rfl hHeld (Or.inl ⟨rfl,?y3g2⟩) ?r3g2 (hQ:=fun _ _ _ h=>closeQ (by decide) (by decide) h)
 case y3g2=>(rintro w ⟨s0,s1,s2,s3,s4,s5,s6,s7,s8,s9⟩;go_simp;try with_reducible rfl)
 try simp only [zA,zB,zC,Act.put,zD,zE,zF]
 refine tk (i:=4) (v:=?v4g2) rfl hHeld (Or.inl ⟨rfl,?y4g2⟩) ?r4g2 (hQ:=fun _ _ _ h=>closeQ (by decide) (by decide) h)
 case y4g2=>(rintro w ⟨s0,s1,s2,s3,s4,s5,s6,s7,s8,s9⟩;go_simp;try with_reducible rfl)
 try simp only [zA,zB,zC,Act.put,zD,zE,zF]
 refine tk (i:=5) (v:=?v5g2) rfl hHeld (Or.inl ⟨rfl,?y5g2⟩) ?r5g2 (hQ:=fun _ _ _ h=>closeQ (by decide) (by decide) h)
 case y5g2=>(rintro w ⟨s0,s1,s2,s3,s4,s5,s6,s7,s8,s9⟩;go_simp;try with_reducible rfl)
 try simp only [zA,zB,zC,Act.put,zD,zE,zF]
 refine tk (i:=6) (v:=?v6g2) rfl hHeld (Or.inl ⟨rfl,?y6g2⟩) ?r6g2 (hQ:=fun _ _ _ h=>closeQ (by decide) (by decide) h)
 case y6g2=>(rintro w ⟨s0,s1,s2,s3,s4,s5,s6,s7,s8,s9⟩;go_simp;try with_reducible rfl)
 try simp only [zA,zB,zC,Act.put,zD,zE,zF]
 refine tk (i:=7) (v:=?v7g2) rfl hHeld (Or.inl ⟨rfl,?y7g2⟩) ?r7g2 (hQ:=fun _ _ _ h=>closeQ (by decide) (by decide) h)
 case y7g2=>(rintro w ⟨s0,s1,s2,s3,s4,s5,s6,s7,s8,s9⟩;go_simp;try with_reducible rfl)
 try simp only [zA,zB,zC,Act.put,zD,zE,zF]
 refine wpAnyH_ready (rs:=[8]) (by kernel_rfl) (by simp) ?_
 refine AllReadyH.cons (o:=_) rfl (fun K hK=>?_) AllReadyH.nil
 rw [if_pos (by rfl)]
 obtain ⟨s0,s1,s2,s3,s4,s5,s6,s7,s8,s9⟩:=hHeld
 obtain ⟨q0,q1,q2,q3,q4,s7⟩:=s7
 refine wp_store_row rfl 26 (.tmp 4) (.tmp 25) rfl gb 0 _ 26 (.agg #[.string b.f0,.int .i64 b.f1,.slice A2 b.f2.length c2,.slice A3 b.f3.length c3,.int .u64 b.f4]) [.string b.f0,.int .i64 b.f1,.slice A2 b.f2.length c2,.slice A3 b.f3.length c3,.int .u64 b.f4] rfl rfl s7 rfl isz_bucket (by show 0 + 5 ≤ 5;decide) (by simp [Value.oneCell']) ?_
 intro w7 hk7 ho7
 have KB7:=hk7
 have HO7:=zh (hidOnly s9 ho7.out GWB.out)
 refine hK.out _ _ ⟨Only.cell ho7.out (p:=⟨g,0,none⟩) (Ne.symm nb.out) s0,Only.cell ho7.out (p:=⟨g,1,none⟩) (Ne.symm nb.out) s1,Only.cell ho7.out (p:=⟨g,2,none⟩) (Ne.symm nb.out) s2,Only.cell ho7.out (p:=⟨g,3,none⟩) (Ne.symm nb.out) s3,Only.cell ho7.out (p:=⟨g,4,none⟩) (Ne.symm nb.out) s4,Only.cell ho7.out (p:=⟨g,5,none⟩) (Ne.symm nb.out) s5,ho7.out.blk s6 (Nat.ne_of_lt GB.out),⟨_,_,_,_,_,hk7.out⟩,(by obtain ⟨z,s8⟩:=s8;exact ⟨z,ho7.out.blk s8 (Nat.ne_of_gt GE.out)⟩),HO7.out⟩ (fun hHeld=>?_)
 clear hK K s7 hk7 ho7 HO7 s0 s1 s2 s3 s4 s5 s6 s8 s9
 try simp only [zA,zB,zC,Act.put,zD,zE,zF]
 refine wpAnyH_ready (rs:=[9]) (by kernel_rfl) (by simp) ?_
 refine AllReadyH.cons (o:=_) rfl (fun K hK=>?_) AllReadyH.nil
 rw [if_pos (by rfl)]
 obtain ⟨s0,s1,s2,s3,s4,s5,s6,s7,s8,s9⟩:=hHeld
 obtain ⟨q0,s8⟩:=s8
 refine wp_store_row rfl 30 (.tmp 5) (.tmp 29) rfl ge 0 _ 30 (.int .i64 6) [.int .i64 6] rfl rfl s8 rfl (by kernel_rfl) (by show 0 + 1 ≤ 1;decide) (by simp [Value.oneCell']) ?_
 intro w8 hk8 ho8
 have KB8:=zl ho8 KB7 (Nat.ne_of_lt GE.out)
 have KE8:=hk8
 have HO8:=zh (hidOnly s9 ho8.out GWE.out)
 have KW8:=zh (ho8.out.blk s6 (Nat.ne_of_lt (Nat.lt_trans GB.out GE.out)))
 refine hK.out _ _ ⟨Only.cell ho8.out (p:=⟨g,0,none⟩) (Ne.symm ne.out) s0,Only.cell ho8.out (p:=⟨g,1,none⟩) (Ne.symm ne.out) s1,Only.cell ho8.out (p:=⟨g,2,none⟩) (Ne.symm ne.out) s2,Only.cell ho8.out (p:=⟨g,3,none⟩) (Ne.symm ne.out) s3,Only.cell ho8.out (p:=⟨g,4,none⟩) (Ne.symm ne.out) s4,Only.cell ho8.out (p:=⟨g,5,none⟩) (Ne.symm ne.out) s5,KW8.out,⟨_,_,_,_,_,KB8.out⟩,⟨_,hk8.out⟩,HO8.out⟩ (fun hHeld=>?_)
 clear hK K s7 s8 hHeld hk8 ho8 s0 s1 s2 s3 s4 s5 s6 s9
 try simp only [zA,zB,zC,Act.put,zD,zE,zF]
 refine wpAnyH_done (by kernel_rfl) ?_ _
 go_wp2
 refine leaves_cons (f:=80) (args:=#[.pointer (some ⟨ge,0,none⟩),.pointer (some ⟨gw,0,none⟩),.pointer (some ⟨gb,0,none⟩)]) (by simp) (by simp [go_sem]) ?_
 refine (close1_err b x A2 A3 B2 B3 c2 c3 d2 d3 ge gw gb 6 .returning _ KE8.out KW8.out KB8.out (by decide)).mono ?_
 rintro y u' w9 ⟨rfl,rfl,hk9,ho9⟩
 have KE9:=zl ho9 KE8 (Nat.ne_of_gt GE.out)
 have z0:=zb hk9.out 0 (.string x.f0)
 have z1:=zb hk9.out 1 (.int .i64 x.f1)
 have z2:=zb hk9.out 2 (.slice B2 x.f2.length d2)
 have z3:=zb hk9.out 3 (.slice B3 x.f3.length d3)
 have z4:=zb hk9.out 4 (.int .u64 x.f4)
 have z5:=zb KE9.out 0 (.int .i64 6)
 simp only [Leaves,settle]
 refine ⟨.tuple #[.agg #[.string x.f0,.int .i64 x.f1,.slice B2 x.f2.length d2,.slice B3 x.f3.length d3,.int .u64 x.f4],.int .i64 6],?_,rfl,zh (hidOnly HO8.out ho9.out GWB.out)⟩
 simp [results,Tryz.results36,go_sem,z0,z1,z2,z3,z4,z5]
theorem close_err (b x : S26) (A2 A3 B2 B3 : Option Addr) (c2 c3 d2 d3 : Nat) (e : Int) (g : Nat) (w : World) (h : w.heap[g]? = some (.cells #[.string b.f0,.int .i64 b.f1,.slice A2 b.f2.length c2,.slice A3 b.f3.length c3,.int .u64 b.f4,.int .i64 e] 87 (0,0))) (h2 : Kd.C k56 w A2 b.f2.length b.f2) (g2 : b.f2.length ≤ c2) (h3 : Kd.C k101 w A3 b.f3.length b.f3) (g3 : b.f3.length ≤ c3) (q4 : e ≠ 0) :
  Calls Tryz.prog 36 #[.pointer (some ⟨g,0,none⟩),.agg #[.string x.f0,.int .i64 x.f1,.slice B2 x.f2.length d2,.slice B3 x.f3.length d3,.int .u64 x.f4]] w fun y w'=>y = .returned (.tuple #[.agg #[.string x.f0,.int .i64 x.f1,.slice B2 x.f2.length d2,.slice B3 x.f3.length d3,.int .u64 x.f4],.int .i64 e]) ∧ Hid (Only g w w'):=by
 have H:=zh h
 have q0 : (e == 0) = false:=beq_eq_false_iff_ne.2 q4
 have HNO:=zh (fun (W : World) hW=>no.walk g (.string b.f0) (.int .i64 b.f1) (.slice A2 b.f2.length c2) (.slice A3 b.f3.length c3) (.int .u64 b.f4) e 6 false W hW)
 rw [noR_f] at HNO
 have hgl:=blk_lt h
 have QE:=zh q4
 clear h h2 h3 q4
 go_enter_defers Tryz.func36,Tryz.ntmps36
 go_wp2_with (first
  | ((with_reducible refine gate_dst (N:=3) rfl ?_);go_must (refine box_event ?hg (N:=3) ?hd (cs:=#[.string x.f0,.int .i64 x.f1,.slice B2 x.f2.length d2,.slice B3 x.f3.length d3,.int .u64 x.f4]) (t:=26) ?hr ?_;(case hd=>rfl);(case hg=>rfl);(case hr=>first | (go_simp;done) | (go_simp;rfl));intro gw hgw w1 hb1 hbel1;have KW1:=zh hb1;have HB1:=zh hbel1;have GW:=zh (show w.heap.size ≤ gw by rw [hgw];exact Nat.le_refl _);have LW:=zh (blk_lt hb1);clear hb1 hbel1 hgw))
  | ((with_reducible refine gate_dst (N:=4) rfl ?_);go_must (refine box_event ?hg (N:=4) ?hd (cs:=#[.string ⟨#[]⟩,.int .i64 0,.slice none 0 0,.slice none 0 0,.int .u64 0]) (t:=26) ?hr ?_;(case hd=>rfl);(case hg=>rfl);(case hr=>first | (go_simp;done) | (go_simp;rfl));intro gb hgb w2 hb2 hbel2;have KB2:=zh hb2;have HB2:=keepB HB1 hbel2;have GB:=zh (show gw < gb by rw [hgb];exact LW.out);have KW2:=zk KW1 hbel2;have LB:=zh (blk_lt hb2);clear hb2 hbel2 hgb))
  | ((with_reducible refine gate_dst (N:=5) rfl ?_);go_must (refine box_event ?hg (N:=5) ?hd (cs:=#[.int .i64 0]) (t:=30) ?hr ?_;(case hd=>rfl);(case hg=>rfl);(case hr=>first | (go_simp;done) | (go_simp;rfl));intro ge hge w3 hb3 hbel3;have KE3:=zh hb3;have HB3:=keepB HB2 hbel3;have GE:=zh (show gb < ge by rw [hge];exact LB.out);have KW3:=zk KW2 hbel3;have KB3:=zk KB2 hbel3;have K3:=zk H HB3.out;obtain ⟨a0,a1,a2,a3,a4,a5⟩:=zz6 K3.out;clear hb3 hbel3 hge))
  | (go_at_call 45;go_must (refine (HNO.out _ K3.out).mono ?_;rintro y w5 ⟨rfl,hk5,ho5⟩;have HB4:=HB3;have KW4:=KW3;have KB4:=KB3;have KE4:=KE3;have K5:=hk5;have HO5:=ho5;obtain ⟨b0,b1,b2,b3,b4,b5⟩:=zz6 hk5.out;clear hk5 ho5)))
 have nw : Hid (gw ≠ g):=by have:=GW.out;unfold Hid;omega
 have nb : Hid (gb ≠ g):=by have:=GW.out;have:=GB.out;unfold Hid;omega
 have ne : Hid (ge ≠ g):=by have:=GW.out;have:=GB.out;have:=GE.out;unfold Hid;omega
 have KW5:=zh (blk_drew (HO5.out.blk KW4.out nw.out))
 have KB5:=zh (blk_drew (HO5.out.blk KB4.out nb.out))
 have KE5:=zh (blk_drew (HO5.out.blk KE4.out ne.out))
 have K6:=zh (blk_drew K5.out)
 have HO6:=zh ((only_trans (only_below (zh (Only.refl g w)) HB4.out) HO5).out.drewN 1)
 clear K3 KW1 KW2 KW3 KB2 KB3 KE3 KW4 KB4 KE4 HB1 HB2 HB3 HB4 HO5 H HNO
 refine wp_region_held_drew (S:=fun W=>W.cell? ⟨g,0,none⟩ = some (.string b.f0) ∧ W.cell? ⟨g,1,none⟩ = some (.int .i64 b.f1) ∧ W.cell? ⟨g,2,none⟩ = some (.slice A2 b.f2.length c2) ∧ W.cell? ⟨g,3,none⟩ = some (.slice A3 b.f3.length c3) ∧ W.cell? ⟨g,4,none⟩ = some (.int .u64 b.f4) ∧ W.cell? ⟨g,5,none⟩ = some (.int .i64 e) ∧ W.heap[gw]? = some (.cells #[.string x.f0,.int .i64 x.f1,.slice B2 x.f2.length d2,.slice B3 x.f3.length d3,.int .u64 x.f4] 26 (0,0)) ∧ (∃ q0 q1 q2 q3 q4,W.heap[gb]? = some (.cells #[q0,q1,q2,q3,q4] 26 (0,0))) ∧ (∃ q0,W.heap[ge]? = some (.cells #[q0] 30 (0,0))) ∧ Only g w W) (by kernel_rfl) ?_ (fun hHeld=>?_)
 ·exact ⟨zj K6 0,zj K6 1,zj K6 2,zj K6 3,zj K6 4,zj K6 5,KW5.out,⟨_,_,_,_,_,KB5.out⟩,⟨_,KE5.out⟩,HO6.out⟩
 have GWB:=zh (show w.heap.size ≤ gb by have:=GW.out;have:=GB.out;omega)
 have GWE:=zh (show w.heap.size ≤ ge by have:=GWB.out;have:=GE.out;omega)
 clear KW5 KB5 KE5 K6 HO6
 generalize w5.drew = w6 at hHeld ⊢
 refine tk (i:=0) (v:=?v0g3) rfl hHeld (Or.inl ⟨rfl,?y0g3⟩) ?r0g3 (hQ:=fun _ _ _ h=>closeQ (by decide) (by decide) h)
 case y0g3=>(rintro w ⟨s0,s1,s2,s3,s4,s5,s6,s7,s8,s9⟩;go_simp;try with_reducible rfl)
 try simp only [zA,zB,zC,Act.put,zD,zE,zF]
 refine tk (i:=1) (v:=?v1g3) rfl hHeld (Or.inl ⟨rfl,?y1g3⟩) ?r1g3 (hQ:=fun _ _ _ h=>closeQ (by decide) (by decide) h)
 case y1g3=>(rintro w ⟨s0,s1,s2,s3,s4,s5,s6,s7,s8,s9⟩;go_simp;try with_reducible rfl)
 try simp only [zA,zB,zC,Act.put,zD,zE,zF]
 refine tk (i:=2) (v:=?v2g3) rfl hHeld (Or.inl ⟨rfl,?y2g3⟩) ?r2g3 (hQ:=fun _ _ _ h=>closeQ (by decide) (by decide) h)
 case y2g3=>(rintro w ⟨s0,s1,s2,s3,s4,s5,s6,s7,s8,s9⟩;go_simp;try with_reducible rfl)
 try simp only [zA,zB,zC,Act.put,zD,zE,zF]
 refine tk (i:=3) (v:=?v3g3) rfl hHeld (Or.inl ⟨rfl,?y3g3⟩) ?r3g3 (hQ:=fun _ _ _ h=>closeQ (by decide) (by decide) h)
 case y3g3=>(rintro w ⟨s0,s1,s2,s3,s4,s5,s6,s7,s8,s9⟩;go_simp;try with_reducible rfl)
 try simp only [zA,zB,zC,Act.put,zD,zE,zF]
 refine tk (i:=4) (v:=?v4g3) rfl hHeld (Or.inl ⟨rfl,?y4g3⟩) ?r4g3 (hQ:=fun _ _ _ h=>closeQ (by decide) (by decide) h)
 case y4g3=>(rintro w ⟨s0,s1,s2,s3,s4,s5,s6,s7,s8,s9⟩;go_simp;try with_reducible rfl)
 try simp only [zA,zB,zC,Act.put,zD,zE,zF]
 refine tk (i:=5) (v:=?v5g3) rfl hHeld (Or.inl ⟨rfl,?y5g3⟩) ?r5g3 (hQ:=fun _ _ _ h=>closeQ (by decide) (by decide) h)
 case y5g3=>(rintro w ⟨s0,s1,s2,s3,s4,s5,s6,s7,s8,s9⟩;go_simp;try with_reducible rfl)
 try simp only [zA,zB,zC,Act.put,zD,zE,zF]
 refine tk (i:=6) (v:=?v6g3) rfl hHeld (Or.inl ⟨rfl,?y6g3⟩) ?r6g3 (hQ:=fun _ _ _ h=>closeQ (by decide) (by decide) h)
 case y6g3=>(rintro w ⟨s0,s1,s2,s3,s4,s5,s6,s7,s8,s9⟩;go_simp;try with_reducible rfl)
 try simp only [zA,zB,zC,Act.put,zD,zE,zF]
 refine tk (i:=7) (v:=?v7g3) rfl hHeld (Or.inl ⟨rfl,?y7g3⟩) ?r7g3 (hQ:=fun _ _ _ h=>closeQ (by decide) (by decide) h)
 case y7g3=>(rintro w ⟨s0,s1,s2,s3,s4,s5,s6,s7,s8,s9⟩;go_simp;try with_reducible rfl)
 try simp only [zA,zB,zC,Act.put,zD,zE,zF]
 refine wpAnyH_ready (rs:=[8]) (by kernel_rfl) (by simp) ?_
 refine AllReadyH.cons (o:=_) rfl (fun K hK=>?_) AllReadyH.nil
 rw [if_pos (by rfl)]
 obtain ⟨s0,s1,s2,s3,s4,s5,s6,s7,s8,s9⟩:=hHeld
 obtain ⟨q0,q1,q2,q3,q4,s7⟩:=s7
 refine wp_store_row rfl 26 (.tmp 4) (.tmp 25) rfl gb 0 _ 26 (.agg #[.string b.f0,.int .i64 b.f1,.slice A2 b.f2.length c2,.slice A3 b.f3.length c3,.int .u64 b.f4]) [.string b.f0,.int .i64 b.f1,.slice A2 b.f2.length c2,.slice A3 b.f3.length c3,.int .u64 b.f4] rfl rfl s7 rfl isz_bucket (by show 0 + 5 ≤ 5;decide) (by simp [Value.oneCell']) ?_
 intro w7 hk7 ho7
 have KB7:=hk7
 have HO7:=zh (hidOnly s9 ho7.out GWB.out)
 refine hK.out _ _ ⟨Only.cell ho7.out (p:=⟨g,0,none⟩) (Ne.symm nb.out) s0,Only.cell ho7.out (p:=⟨g,1,none⟩) (Ne.symm nb.out) s1,Only.cell ho7.out (p:=⟨g,2,none⟩) (Ne.symm nb.out) s2,Only.cell ho7.out (p:=⟨g,3,none⟩) (Ne.symm nb.out) s3,Only.cell ho7.out (p:=⟨g,4,none⟩) (Ne.symm nb.out) s4,Only.cell ho7.out (p:=⟨g,5,none⟩) (Ne.symm nb.out) s5,ho7.out.blk s6 (Nat.ne_of_lt GB.out),⟨_,_,_,_,_,hk7.out⟩,(by obtain ⟨z,s8⟩:=s8;exact ⟨z,ho7.out.blk s8 (Nat.ne_of_gt GE.out)⟩),HO7.out⟩ (fun hHeld=>?_)
 clear hK K s7 hk7 ho7 HO7 s0 s1 s2 s3 s4 s5 s6 s8 s9
 try simp only [zA,zB,zC,Act.put,zD,zE,zF]
 refine wpAnyH_ready (rs:=[9]) (by kernel_rfl) (by simp) ?_
 refine AllReadyH.cons (o:=_) rfl (fun K hK=>?_) AllReadyH.nil
 rw [if_pos (by rfl)]
 obtain ⟨s0,s1,s2,s3,s4,s5,s6,s7,s8,s9⟩:=hHeld
 obtain ⟨q0,s8⟩:=s8
 refine wp_store_row rfl 30 (.tmp 5) (.tmp 29) rfl ge 0 _ 30 (.int .i64 e) [.int .i64 e] rfl rfl s8 rfl (by kernel_rfl) (by show 0 + 1 ≤ 1;decide) (by simp [Value.oneCell']) ?_
 intro w8 hk8 ho8
 have KB8:=zl ho8 KB7 (Nat.ne_of_lt GE.out)
 have KE8:=hk8
 have HO8:=zh (hidOnly s9 ho8.out GWE.out)
 have KW8:=zh (ho8.out.blk s6 (Nat.ne_of_lt (Nat.lt_trans GB.out GE.out)))
 refine hK.out _ _ ⟨Only.cell ho8.out (p:=⟨g,0,none⟩) (Ne.symm ne.out) s0,Only.cell ho8.out (p:=⟨g,1,none⟩) (Ne.symm ne.out) s1,Only.cell ho8.out (p:=⟨g,2,none⟩) (Ne.symm ne.out) s2,Only.cell ho8.out (p:=⟨g,3,none⟩) (Ne.symm ne.out) s3,Only.cell ho8.out (p:=⟨g,4,none⟩) (Ne.symm ne.out) s4,Only.cell ho8.out (p:=⟨g,5,none⟩) (Ne.symm ne.out) s5,KW8.out,⟨_,_,_,_,_,KB8.out⟩,⟨_,hk8.out⟩,HO8.out⟩ (fun hHeld=>?_)
 clear hK K s7 s8 hHeld hk8 ho8 s0 s1 s2 s3 s4 s5 s6 s9
 try simp only [zA,zB,zC,Act.put,zD,zE,zF]
 refine wpAnyH_done (by kernel_rfl) ?_ _
 go_wp2
 refine leaves_cons (f:=80) (args:=#[.pointer (some ⟨ge,0,none⟩),.pointer (some ⟨gw,0,none⟩),.pointer (some ⟨gb,0,none⟩)]) (by simp) (by simp [go_sem]) ?_
 refine (close1_err b x A2 A3 B2 B3 c2 c3 d2 d3 ge gw gb e .returning _ KE8.out KW8.out KB8.out QE.out).mono ?_
 rintro y u' w9 ⟨rfl,rfl,hk9,ho9⟩
 have KE9:=zl ho9 KE8 (Nat.ne_of_gt GE.out)
 have z0:=zb hk9.out 0 (.string x.f0)
 have z1:=zb hk9.out 1 (.int .i64 x.f1)
 have z2:=zb hk9.out 2 (.slice B2 x.f2.length d2)
 have z3:=zb hk9.out 3 (.slice B3 x.f3.length d3)
 have z4:=zb hk9.out 4 (.int .u64 x.f4)
 have z5:=zb KE9.out 0 (.int .i64 e)
 simp only [Leaves,settle]
 refine ⟨.tuple #[.agg #[.string x.f0,.int .i64 x.f1,.slice B2 x.f2.length d2,.slice B3 x.f3.length d3,.int .u64 x.f4],.int .i64 e],?_,rfl,zh (hidOnly HO8.out ho9.out GWB.out)⟩
 simp [results,Tryz.results36,go_sem,z0,z1,z2,z3,z4,z5]
end
section
open Go.WideMaps Go.Maps
theorem bytes_inj {a b : ByteArray} (h : a.data.toList = b.data.toList) : a = b:=by
 cases a;cases b
 congr 1
 exact Array.ext' h
theorem cb_cons (a b : UInt8) (x y : List UInt8) : Go.Lib.compareBytes (a :: x) (b :: y) = if a < b then -1 else if b < a then 1 else Go.Lib.compareBytes x y:=rfl
theorem u8_cases (a b : UInt8) : a < b ∨ a = b ∨ b < a:=by
 rcases Nat.lt_trichotomy a.toNat b.toNat with h | h | h
 ·exact Or.inl (UInt8.lt_iff_toNat_lt.2 h)
 ·exact Or.inr (Or.inl (UInt8.toNat_inj.1 h))
 ·exact Or.inr (Or.inr (UInt8.lt_iff_toNat_lt.2 h))
theorem u8_irrefl (a : UInt8) : ¬ a < a:=fun h=>Nat.lt_irrefl _ (UInt8.lt_iff_toNat_lt.1 h)
theorem u8_asymm {a b : UInt8} (h : a < b) : ¬ b < a:=fun h'=>by
 have h1:=UInt8.lt_iff_toNat_lt.1 h
 have h2:=UInt8.lt_iff_toNat_lt.1 h'
 omega
theorem u8_trans {a b c : UInt8} (h : a < b) (h' : b < c) : a < c:=UInt8.lt_iff_toNat_lt.2 (Nat.lt_trans (UInt8.lt_iff_toNat_lt.1 h) (UInt8.lt_iff_toNat_lt.1 h'))
theorem cb_refl : ∀ x : List UInt8,Go.Lib.compareBytes x x = 0
 | []=>rfl
 | a :: x=>by rw [cb_cons,if_neg (u8_irrefl a),if_neg (u8_irrefl a)];exact cb_refl x
theorem cb_eq : ∀ {x y : List UInt8},Go.Lib.compareBytes x y = 0 → x = y
 | [],[],_=>rfl
 | [],_ :: _,h=>by exact absurd h (by simp [Go.Lib.compareBytes])
 | _ :: _,[],h=>by exact absurd h (by simp [Go.Lib.compareBytes])
 | a :: x,b :: y,h=>by
  rw [cb_cons] at h
  rcases u8_cases a b with h1 | rfl | h1
  ·rw [if_pos h1] at h;exact absurd h (by decide)
  ·rw [if_neg (u8_irrefl a),if_neg (u8_irrefl a)] at h;rw [cb_eq h]
  ·rw [if_neg (u8_asymm h1),if_pos h1] at h;exact absurd h (by decide)
theorem cb_neg : ∀ x y : List UInt8,Go.Lib.compareBytes y x = - Go.Lib.compareBytes x y
 | [],[]=>rfl
 | [],_ :: _=>rfl
 | _ :: _,[]=>rfl
 | a :: x,b :: y=>by
  rw [cb_cons,cb_cons]
  rcases u8_cases a b with h1 | rfl | h1
  ·rw [if_neg (u8_asymm h1),if_pos h1,if_pos h1];rfl
  ·simp only [if_neg (u8_irrefl a)];exact cb_neg x y
  ·rw [if_pos h1,if_neg (u8_asymm h1),if_pos h1]
theorem cb_trans : ∀ {x y z : List UInt8},Go.Lib.compareBytes x y < 0 → Go.Lib.compareBytes y z < 0 → Go.Lib.compareBytes x z < 0
 | [],[],_,h,_=>by exact absurd h (by decide)
 | [],_ :: _,[],_,h=>by exact absurd h (by simp [Go.Lib.compareBytes])
 | [],_ :: _,_ :: _,_,_=>by simp [Go.Lib.compareBytes]
 | _ :: _,[],_,h,_=>by exact absurd h (by simp [Go.Lib.compareBytes])
 | _ :: _,_ :: _,[],_,h=>by exact absurd h (by simp [Go.Lib.compareBytes])
 | a :: x,b :: y,c :: z,h,h'=>by
  rw [cb_cons] at h h' ⊢
  rcases u8_cases a b with h1 | rfl | h1
  ·rcases u8_cases b c with h2 | rfl | h2
   ·rw [if_pos (u8_trans h1 h2)];decide
   ·rw [if_pos h1];decide
   ·rw [if_neg (u8_asymm h2),if_pos h2] at h';exact absurd h' (by decide)
  ·rcases u8_cases a c with h2 | rfl | h2
   ·rw [if_pos h2];decide
   ·rw [if_neg (u8_irrefl a),if_neg (u8_irrefl a)] at h h' ⊢
    exact cb_trans h h'
   ·rw [if_neg (u8_asymm h2),if_pos h2] at h';exact absurd h' (by decide)
  ·rw [if_neg (u8_asymm h1),if_pos h1] at h;exact absurd h (by decide)
/-- a stands ahead of b. -/
def ltN (a b : ByteArray) : Prop:=Go.Lib.compareBytes a.data.toList b.data.toList < 0
theorem ltN_irrefl (a : ByteArray) : ¬ ltN a a:=by unfold ltN;rw [cb_refl];decide
theorem ltN_trans {a b c : ByteArray} (h : ltN a b) (h' : ltN b c) : ltN a c:=cb_trans h h'
theorem ltN_of {a b : ByteArray} (h : a ≠ b) (h' : ¬ ltN b a) : ltN a b:=by
 unfold ltN at *
 have h1:=cb_neg a.data.toList b.data.toList
 have h2 : Go.Lib.compareBytes a.data.toList b.data.toList ≠ 0:=fun e=>h (bytes_inj (cb_eq e))
 omega
theorem bytes_eq {a b : ByteArray} (h : a.toList = b.toList) : a = b:=by
 rw [Lib.toList_data,Lib.toList_data] at h
 cases a;cases b
 congr 1
 exact Array.toList_inj.1 h
theorem bless_iff : ∀ x y : List UInt8,Op.bytesLess x y = true ↔ Go.Lib.compareBytes x y < 0
 | [],[]=>by simp [Op.bytesLess,Go.Lib.compareBytes]
 | [],b :: y=>by simp [Op.bytesLess,Go.Lib.compareBytes]
 | a :: x,[]=>by simp [Op.bytesLess,Go.Lib.compareBytes]
 | a :: x,b :: y=>by
  have ih:=bless_iff x y
  unfold Op.bytesLess
  rw [cb_cons]
  by_cases h1 : a < b
  ·simp [h1]
  ·by_cases h2 : b < a
   ·have h3 : a ≠ b:=fun e=>by subst e;exact h1 h2
    simp [h1,h2,h3]
   ·have e : a = b:=UInt8.toNat_inj.1 (Nat.le_antisymm (Nat.le_of_not_lt h2) (Nat.le_of_not_lt h1))
    subst e
    simp only [h1,decide_false,Bool.false_or,beq_self_eq_true,Bool.true_and,if_false]
    exact ih
theorem bless_ltN {a b : ByteArray} : Op.bytesLess a.toList b.toList = true ↔ ltN a b:=by
 rw [Lib.toList_data,Lib.toList_data,bless_iff]
 rfl
end
section
open Go.WideMaps Go.Maps
def SE (l : List S56) : Prop:=l.Pairwise (fun a b=>ltN a.f0 b.f0)
def gtK (key : ByteArray) (x : S56) : Bool:=Op.bytesLess key.toList x.f0.toList
theorem ltK_lt {key : ByteArray} {x : S56} : ltK key x = true ↔ ltN x.f0 key:=bless_ltN
theorem gtK_lt {key : ByteArray} {x : S56} : gtK key x = true ↔ ltN key x.f0:=bless_ltN
theorem eqK_eq {key : ByteArray} {x : S56} : eqK key x = true ↔ x.f0 = key:=by
 unfold eqK
 rw [beq_iff_eq]
 exact ⟨bytes_eq,fun h=>by rw [h]⟩
theorem up_pair {l : List S56} (h : ∀ j (hj : j < l.length),upB l j = true) : SE l:=by
 unfold SE
 rw [List.pairwise_iff_getElem]
 intro i j hi hj hij
 induction j with
 | zero=>omega
 | succ j ih =>
  have h1 : ltN l[j].f0 l[j + 1].f0:=by
   have:=h (j + 1) hj
   unfold upB at this
   rw [Nat.add_sub_cancel,getD_at l j _ (by omega),getD_at l (j + 1) _ hj] at this
   simp only [Nat.add_eq_zero_iff,Nat.one_ne_zero,and_false,decide_false,Bool.false_or] at this
   exact bless_ltN.1 this
  rcases Nat.eq_or_lt_of_le (Nat.le_of_lt_succ hij) with rfl | h2
  ·exact h1
  ·exact ltN_trans (ih (by omega) h2) h1
theorem pair_up {l : List S56} (h : SE l) (j : Nat) (hj : j < l.length) : upB l j = true:=by
 unfold upB
 rcases j with _ | j
 ·simp
 ·rw [Nat.add_sub_cancel,getD_at l j _ (by omega),getD_at l (j + 1) _ hj]
  unfold SE at h
  rw [List.pairwise_iff_getElem] at h
  rw [bless_ltN.2 (h j (j + 1) (by omega) hj (by omega))]
  simp
theorem allFrom_of {P : Nat → Bool} : ∀ (d i : Nat),(∀ j,i ≤ j → j < i + d → P j = true) → allFrom P i d = true
 | 0,_,_=>rfl
 | d + 1,i,h=>by
  show (P i && allFrom P (i + 1) d) = true
  rw [h i (Nat.le_refl _) (by omega),allFrom_of d (i + 1) (fun j h1 h2=>h j (by omega) (by omega))]
  rfl
theorem index_iff (l : List S56) : indexB l = true ↔ l.length ≤ 60 ∧ SE l ∧ ∀ x ∈ l,keyB x.f0 = true ∧ x.f1.length ≠ 0 ∧ chainB x.f1 = true:=by
 constructor
 ·intro h
  exact ⟨(index_at h).1,up_pair (fun j hj=>((index_at h).2 j hj).2.1),index_mem h⟩
 ·rintro ⟨h1,h2,h3⟩
  unfold indexB
  rw [decide_eq_true h1,Bool.true_and]
  refine allFrom_of _ _ (fun j _ hj=>?_)
  have hj' : j < l.length:=by omega
  obtain ⟨a,b,c⟩:=h3 _ (List.getElem_mem hj')
  unfold ixAt
  rw [getD_at l j _ hj',a,pair_up h2 j hj',c]
  simp only [Bool.true_and,Bool.and_true,Bool.not_eq_true',beq_eq_false_iff_ne]
  exact b
theorem SE_cons {x : S56} {l : List S56} (h : SE (x :: l)) : (∀ y ∈ l,ltN x.f0 y.f0) ∧ SE l:=List.pairwise_cons.1 h
theorem cut_less : ∀ {l : List S56} (key : ByteArray),SE l → l.take (lessN l key) = l.filter (ltK key)
 | [],_,_=>rfl
 | x :: l,key,h=>by
  obtain ⟨h1,h2⟩:=SE_cons h
  unfold lessN
  cases hx : ltK key x
  ·have : (x :: l).filter (ltK key) = []:=by
    rw [List.filter_eq_nil_iff]
    intro y hy hc
    rcases List.mem_cons.1 hy with rfl | hy
    ·rw [hx] at hc;cases hc
    ·have:=ltK_lt.2 (ltN_trans (h1 y hy) (ltK_lt.1 hc));rw [hx] at this;cases this
   rw [this];rfl
  ·rw [List.filter_cons_of_pos hx,List.length_cons,List.take_succ_cons]
   congr 1
   exact cut_less key h2
theorem cut_more : ∀ {l : List S56} (key : ByteArray),SE l → l.drop (lessN l key + (if l.any (eqK key) = true then 1 else 0)) = l.filter (gtK key)
 | [],_,_=>by simp
 | x :: l,key,h=>by
  obtain ⟨h1,h2⟩:=SE_cons h
  cases hx : ltK key x
  ·have hn : lessN (x :: l) key = 0:=by
    unfold lessN
    rw [List.length_eq_zero_iff,List.filter_eq_nil_iff]
    intro y hy hc
    rcases List.mem_cons.1 hy with rfl | hy
    ·rw [hx] at hc;cases hc
    ·have:=ltK_lt.2 (ltN_trans (h1 y hy) (ltK_lt.1 hc));rw [hx] at this;cases this
   have hxn : ¬ ltN x.f0 key:=fun hc=>by rw [ltK_lt.2 hc] at hx;cases hx
   have hall : ∀ y ∈ l,gtK key y = true:=fun y hy=>by
    by_cases he : x.f0 = key
    ·rw [gtK_lt,← he];exact h1 y hy
    ·rw [gtK_lt];exact ltN_trans (ltN_of (fun e=>he e.symm) hxn) (h1 y hy)
   have hfl : l.filter (gtK key) = l:=List.filter_eq_self.2 hall
   rw [hn]
   by_cases he : x.f0 = key
   ·have ha : (x :: l).any (eqK key) = true:=by rw [List.any_cons,eqK_eq.2 he];rfl
    have hg : gtK key x = false:=by
     cases hc : gtK key x
     ·rfl
     ·have:=gtK_lt.1 hc;rw [he] at this;exact absurd this (ltN_irrefl _)
    rw [ha,if_pos rfl,List.filter_cons_of_neg (by rw [hg];simp),hfl]
    rfl
   ·have hgx : gtK key x = true:=gtK_lt.2 (ltN_of (fun e=>he e.symm) hxn)
    have ha : (x :: l).any (eqK key) = false:=by
     rw [List.any_eq_false]
     intro y hy hc
     rcases List.mem_cons.1 hy with rfl | hy
     ·exact he (eqK_eq.1 hc)
     ·have:=gtK_lt.1 (hall y hy);rw [eqK_eq.1 hc] at this;exact ltN_irrefl _ this
    rw [ha,if_neg (by simp),List.filter_cons_of_pos hgx,hfl]
    rfl
  ·have hg : gtK key x = false:=by
    cases hc : gtK key x
    ·rfl
    ·exact absurd (ltN_trans (gtK_lt.1 hc) (ltK_lt.1 hx)) (ltN_irrefl _)
   have he : eqK key x = false:=by
    cases hc : eqK key x
    ·rfl
    ·have:=ltK_lt.1 hx;rw [eqK_eq.1 hc] at this;exact absurd this (ltN_irrefl _)
   have hn : lessN (x :: l) key = lessN l key + 1:=by unfold lessN;rw [List.filter_cons_of_pos hx];rfl
   rw [hn,List.any_cons,he,Bool.false_or,List.filter_cons_of_neg (by rw [hg];simp),← cut_more key h2,show lessN l key + 1 + (if l.any (eqK key) = true then 1 else 0) = (lessN l key + (if l.any (eqK key) = true then 1 else 0)) + 1 by omega]
   rfl
theorem putL_eq {l : List S56} (key : ByteArray) (ch : List S47) (h : SE l) : putL l key ch = l.filter (ltK key) ++ (if ch.length = 0 then [] else [⟨key,ch⟩]) ++ l.filter (gtK key):=by
 unfold putL
 rw [cut_less key h,cut_more key h]
theorem putL_mem {l : List S56} {key : ByteArray} {ch : List S47} (h : SE l) {x : S56} : x ∈ putL l key ch ↔ (x ∈ l ∧ x.f0 ≠ key) ∨ (ch.length ≠ 0 ∧ x = ⟨key,ch⟩):=by
 rw [putL_eq key ch h]
 simp only [List.mem_append,List.mem_filter,ltK_lt,gtK_lt]
 constructor
 ·rintro ((⟨h1,h2⟩ | h1) | ⟨h1,h2⟩)
  ·exact Or.inl ⟨h1,fun e=>by rw [e] at h2;exact ltN_irrefl _ h2⟩
  ·by_cases hc : ch.length = 0
   ·rw [if_pos hc] at h1;cases h1
   ·rw [if_neg hc] at h1;exact Or.inr ⟨hc,List.mem_singleton.1 h1⟩
  ·exact Or.inl ⟨h1,fun e=>by rw [e] at h2;exact ltN_irrefl _ h2⟩
 ·rintro (⟨h1,h2⟩ | ⟨h1,h2⟩)
  ·by_cases hl : ltN x.f0 key
   ·exact Or.inl (Or.inl ⟨h1,hl⟩)
   ·exact Or.inr ⟨h1,ltN_of (fun e=>h2 e.symm) hl⟩
  ·rw [if_neg h1];exact Or.inl (Or.inr (List.mem_singleton.2 h2))
theorem putL_SE {l : List S56} (key : ByteArray) (ch : List S47) (h : SE l) : SE (putL l key ch):=by
 rw [putL_eq key ch h]
 have f1 : SE (l.filter (ltK key)):=List.Pairwise.filter _ h
 have f2 : SE (l.filter (gtK key)):=List.Pairwise.filter _ h
 unfold SE at *
 rw [List.pairwise_append,List.pairwise_append]
 refine ⟨⟨f1,?_,fun a ha b hb=>?_⟩,f2,fun a ha b hb=>?_⟩
 ·by_cases hc : ch.length = 0
  ·rw [if_pos hc];exact List.Pairwise.nil
  ·rw [if_neg hc];exact List.pairwise_singleton _ _
 ·by_cases hc : ch.length = 0
  ·rw [if_pos hc] at hb;cases hb
  ·rw [if_neg hc] at hb;rw [List.mem_singleton.1 hb];exact ltK_lt.1 (List.mem_filter.1 ha).2
 ·have hb':=gtK_lt.1 (List.mem_filter.1 hb).2
  rcases List.mem_append.1 ha with ha | ha
  ·exact ltN_trans (ltK_lt.1 (List.mem_filter.1 ha).2) hb'
  ·by_cases hc : ch.length = 0
   ·rw [if_pos hc] at ha;cases ha
   ·rw [if_neg hc] at ha;rw [List.mem_singleton.1 ha];exact hb'
theorem putE_index {l : List S56} {key : ByteArray} {ch : List S47} (h : (putE l key ch).2 = 0) : indexB (putE l key ch).1 = true ∧ indexB l = true ∧ keyB key = true ∧ chainB ch = true ∧ (putE l key ch).1 = putL l key ch:=by
 unfold putE at h ⊢
 by_cases hb : indexB l = false ∨ keyB key = false ∨ chainB ch = false
 ·rw [if_pos hb] at h;cases h
 ·rw [if_neg hb] at h ⊢
  have q1 : indexB l = true:=by cases h : indexB l;exact absurd (Or.inl h) hb;rfl
  have q2 : keyB key = true:=by cases h : keyB key;exact absurd (Or.inr (Or.inl h)) hb;rfl
  have q3 : chainB ch = true:=by cases h : chainB ch;exact absurd (Or.inr (Or.inr h)) hb;rfl
  by_cases h60 : 60 < (putL l key ch).length
  ·rw [if_pos h60] at h;cases h
  ·rw [if_neg h60]
   refine ⟨?_,q1,q2,q3,rfl⟩
   obtain ⟨a,b,c⟩:=(index_iff l).1 q1
   refine (index_iff _).2 ⟨Nat.le_of_not_lt h60,putL_SE key ch b,fun x hx=>?_⟩
   rcases (putL_mem b).1 hx with ⟨h1,_⟩ | ⟨h1,rfl⟩
   ·exact c x h1
   ·exact ⟨q2,h1,q3⟩
theorem bucket_at {b : S26} (h : bucketB b = true) : headB b = true ∧ indexB b.f2 = true ∧ checkB b.f3 = true ∧ octB b.f2 b.f3 ≤ 20000 ∧ b.f2.all (nearB b.f4 b.f1) = true ∧ b.f3.any (updB b.f4) = false:=by
 unfold bucketB at h
 simp only [Bool.and_eq_true,decide_eq_true_eq,Bool.not_eq_true'] at h
 exact ⟨h.1,h.2.1,h.2.2.1,h.2.2.2.1,h.2.2.2.2.1,h.2.2.2.2.2⟩
end
section
open Go.WideMaps Go.Maps
attribute [local go_sem] Oper.semAt_some
section
variable {P : Program} {w : World} {ops : Array Oper} {rest : List Oper} {o : Oper} {a : Act} {Q : Exit → Act → World → Prop}
theorem only_setObj (g : Nat) (w : World) (o : Obj) : Only g w { w with heap:=w.heap.setIfInBounds g o } :=
 ⟨rfl,rfl,rfl,by simp,fun k hk hg=>by simp [Array.getElem?_setIfInBounds,Ne.symm hg]⟩
theorem run_insert_int (t kt et : TypeId) (q : IntKind) (ht : P.underlying t = some (.map kt et)) (hk : P.underlying kt = some (.int q)) (r : Nat) (es : Array MapEntry) (clock : Nat) (n : Int) (v : Value) (hr : w.heap[r]? = some (.map es clock))
  (hf : Instr.findNow (.int q) (.int q n) es.toList 0 = some none) :
  (Instr.mapUpdate t (.map (some r)) (.int q n) v).run P w = .ok () { w with heap:=w.heap.setIfInBounds r (.map (es.push ⟨.int q n,v,clock⟩) (clock + 1)) }:=by
 have h1:=MapKept.run_checkKey (P:=P) (w:=w) hk (k:=.int q n) (by simp [MapKept.IsKey]) false 9999
 have h2:=MapKept.run_getObj_map (P:=P) hr
 have h3:=MapKept.run_setObj_map (P:=P) (.map (es.push ⟨.int q n,v,clock⟩) (clock + 1)) hr
 simp [Instr.mapUpdate,run_underlying ht,h1,h2,Instr.findKey,run_underlying hk,hf,h3]
theorem wpList_insert_int (hN : o.dst = none) (hgd : o.guard = none) (t : TypeId) (m k x : Operand) (ho : o.op = .insert t m k x) (kt et : TypeId) (q : IntKind) (ht : P.underlying t = some (.map kt et)) (hk : P.underlying kt = some (.int q))
  (r : Nat) (es : Array MapEntry) (clock : Nat) (n : Int) (v : Value) (hm : a.eval m = .map (some r)) (hkv : a.eval k = .int q n) (hv : a.eval x = v) (hr : w.heap[r]? = some (.map es clock)) (hf : Instr.findNow (.int q) (.int q n) es.toList 0 = some none)
  (h : ∀ w1,Hid (w1.heap[r]? = some (.map (es.push ⟨.int q n,v,clock⟩) (clock + 1))) → Hid (Only r w w1) → wpList P ops Q rest a w1) : wpList P ops Q (o :: rest) a w:=by
 refine wpList_plain hgd fun K hK=>?_
 have hrun:=run_insert_int (P:=P) t kt et q ht hk r es clock n v hr hf
 unfold Oper.wp execOp
 simp only [ho,hm,hkv,hv,Sem.run_bind,Sem.run_pure,Result.andThen_ok,hrun]
 show K (a.put o.dst undef) _
 rw [hN]
 exact hK _ _ (h _ (by unfold Hid;simp [Array.getElem?_setIfInBounds,blk_lt hr]) (only_setObj _ _ _))
def lookOf (z : Value) (fr : Option (Nat × Value)) : Value × Bool:=match fr with | some p=>(p.2,true) | none=>(z,false)
theorem wpList_look_int (hgd : o.guard = none) (t : TypeId) (m k : Operand) (ho : o.op = .lookup t m k true) (kt et : TypeId) (q : IntKind) (ht : P.underlying t = some (.map kt et)) (hk : P.underlying kt = some (.int q))
  (r : Nat) (es : Array MapEntry) (clock : Nat) (n : Int) (hm : a.eval m = .map (some r)) (hkv : a.eval k = .int q n) (hr : w.heap[r]? = some (.map es clock)) (fr : Option (Nat × Value)) (hf : Instr.findNow (.int q) (.int q n) es.toList 0 = some fr)
  (z v : Value) (ok : Bool) (hz : ∀ w,(zeroValue et).run P w = .ok z w) (hv : lookOf z fr = (v,ok))
  (h : wpList P ops Q rest (a.put o.dst (.tuple #[v,.bool ok])) w) : wpList P ops Q (o :: rest) a w:=by
 refine wpList_plain hgd fun K hK=>?_
 have h1:=MapKept.run_checkKey (P:=P) (w:=w) hk (k:=.int q n) (by simp [MapKept.IsKey]) es.isEmpty 9999
 have h2:=MapKept.run_getObj_map (P:=P) hr
 have hrun : (Instr.lookup t (.map (some r)) (.int q n) true).run P w = .ok (.tuple #[v,.bool ok]) w:=by
  cases fr with
  | none =>
   injection hv with e1 e2
   subst e1;subst e2
   simp [Instr.lookup,run_underlying ht,h1,h2,Instr.findKey,run_underlying hk,hf,hz]
  | some p =>
   injection hv with e1 e2
   subst e1;subst e2
   simp [Instr.lookup,run_underlying ht,h1,h2,Instr.findKey,run_underlying hk,hf]
 unfold Oper.wp execOp
 simp only [ho,hm,hkv,Sem.run_bind,Sem.run_pure,Result.andThen_ok,hrun]
 exact hK _ _ h
end
def putV (l : List S47) (st : Int) (x : S47) : List S47 × Int :=
 if chainB l = false ∨ ¬ (0 ≤ st ∧ st ≤ 2) ∨ mayV x = false ∨ (0 < l.length ∧ x.f3 < (l.headD z47).f3) then ([],1)
 else if (layV st l x).2 ≠ 0 then ([],(layV st l x).2) else if 20 < (layV st l x).1.length then ([],6) else ((layV st l x).1,0)
def laysE : Array MapEntry:=#[⟨.int .i64 0,.func (.func 107) #[] #[],0⟩,⟨.int .i64 1,.func (.func 108) #[] #[],1⟩,⟨.int .i64 2,.func (.func 107) #[] #[],2⟩]
theorem chain_len {l : List S47} (h : chainB l = true) : l.length ≤ 20:=by
 unfold chainB at h
 simp only [Bool.and_eq_true,decide_eq_true_eq] at h
 exact h.1
section
variable {P : Program} {w : World} {ops : Array Oper} {rest : List Oper} {o : Oper} {a : Act} {Q : Exit → Act → World → Prop}
theorem makeMap_event {t : TypeId} (hgd : o.guard = none) (ho : o.op = .makeMap t none) (h : ∀ g,g = w.heap.size → ∀ w1,w1.heap[g]? = some (.map #[] 0) → Below w.heap.size w w1 → wpList P ops Q rest (a.put o.dst (.map (some g))) w1) : wpList P ops Q (o :: rest) a w:=by
 refine wpList_plain hgd fun K hK=>?_
 have hrun : (Instr.makeMap t none).run P w = .ok (.map (some w.heap.size)) (w.alloc (.map #[] 0)):=rfl
 unfold Oper.wp execOp
 simp only [ho,Option.map_none,Sem.run_bind,Sem.run_pure,Result.andThen_ok,hrun]
 exact hK _ _ (h _ rfl _ (blk_new w _) ((Below.refl _ _).alloc (Nat.le_refl _) _))
theorem gate_insert {t : TypeId} {m k v : Operand} (_ho : o.op = .insert t m k v) (h : wpList P ops Q (o :: rest) a w) : wpList P ops Q (o :: rest) a w:=h
theorem gate_lookup {t : TypeId} {m k : Operand} {c : Bool} (_ho : o.op = .lookup t m k c) (h : wpList P ops Q (o :: rest) a w) : wpList P ops Q (o :: rest) a w:=h
end
theorem put_no1 (A : Option Addr) (c : Nat) (l : List S47) (st : Int) (x : S47) (w : World) (hr : Kd.C k47 w A l.length l) (fr : Option (Nat × Value)) (lv : Value) (ok : Bool) (hf : Instr.findNow (.int .i64) (.int .i64 st) laysE.toList 0 = some fr) (hlv : lookOf .nilFunc fr = (lv,ok)) (h1 : chainB l = false) :
  Calls Tryz.prog 52 #[.slice A l.length c,.int .i64 st,.agg #[.int .u64 x.f0,.string x.f1,.bool x.f2,.int .i64 x.f3]] w (VPost [] 1 w):=by
 have HCK:=zh (fun (W : World) (h : Below w.heap.size w W)=>chain.walk A c l W (Kd.C_below hr h))
 have HMY:=zh (fun (W : World)=>mayV.walk x W)
 have HF:=zh hf;clear hf
 have HLV:=zh hlv;clear hlv
 rw [h1] at HCK
 rw [show errB false = 1 from rfl] at HCK
 clear h1 hr
 go_enter Tryz.func52,Tryz.ntmps52
 go_wp2_with (first
  | (((with_reducible refine gate_dst (N:=5) rfl ?_);go_must (refine box_event ?hg (N:=5) ?hd (cs:=#[.int .u64 x.f0,.string x.f1,.bool x.f2,.int .i64 x.f3]) (t:=47) ?hr ?_;(case hd=>rfl);(case hg=>rfl);(case hr=>first | (go_simp;done) | (go_simp;rfl));intro gx hgx w1 hb1 hbel1;have KX:=zh hb1;have HB1:=zh hbel1;have GX:=zh (blk_lt hb1);clear hb1 hbel1 hgx));have GB0:=zh HB1.out.size)
  | (((with_reducible refine gate_dst (N:=13) rfl ?_);go_must (refine makeMap_event (t:=176) rfl rfl ?_;intro gm hgm w2 hm2 hbel2;have M2:=zh hm2;have GBX:=zh (show w.heap.size ≤ gm by rw [hgm];exact HB1.out.size);have HB2:=keepB HB1 hbel2;have K2:=zk KX hbel2;have GN:=zh (show gx ≠ gm by have:=GX.out;omega);clear hm2 hbel2 hgm));have GB : Hid (w.heap.size ≤ gm):=GBX)
  | ((with_reducible refine gate_insert (k:=.const (.int .i64 0)) rfl ?_);go_must (refine wpList_insert_int rfl rfl 176 (.tmp 13) _ _ rfl 3 173 .i64 Tryz.underlying176 Tryz.underlying3 gm #[] 0 0 _ rfl rfl rfl M2.out rfl ?_;intro w3 M3 HO3;have HB3:=zo HO3 HB2 GB;have K3:=zl HO3 K2 GN.out))
  | ((with_reducible refine gate_insert (k:=.const (.int .i64 1)) rfl ?_);go_must (refine wpList_insert_int rfl rfl 176 (.tmp 13) _ _ rfl 3 173 .i64 Tryz.underlying176 Tryz.underlying3 gm #[⟨.int .i64 0,.func (.func 107) #[] #[],0⟩] 1 1 _ rfl rfl rfl M3.out rfl ?_;intro w4 M4 HO4;have HB4:=zo HO4 HB3 GB;have K4:=zl HO4 K3 GN.out))
  | ((with_reducible refine gate_insert (k:=.const (.int .i64 2)) rfl ?_);go_must (refine wpList_insert_int rfl rfl 176 (.tmp 13) _ _ rfl 3 173 .i64 Tryz.underlying176 Tryz.underlying3 gm #[⟨.int .i64 0,.func (.func 107) #[] #[],0⟩,⟨.int .i64 1,.func (.func 108) #[] #[],1⟩] 2 2 _ rfl rfl rfl M4.out rfl ?_;intro w5 M5 HO5;have HB5:=zo HO5 HB4 GB;have K5:=zl HO5 K4 GN.out))
  | ((with_reducible refine gate_lookup (t:=176) rfl ?_);go_must (refine wpList_look_int rfl 176 _ _ rfl 3 173 .i64 Tryz.underlying176 Tryz.underlying3 gm laysE 3 st rfl rfl M5.out fr HF.out (.nilFunc) lv ok (fun w=>by kernel_rfl) HLV.out ?_)))
 clear M2 M3 M4 M5 HO3 HO4 HO5 K2 K3 K4 KX HB1 HB2 HB3 HB4 HF
 refine wp_region_held_drew (S:=fun W=>W.cell? ⟨gx,0,none⟩ = some (.int .u64 x.f0) ∧ W.cell? ⟨gx,1,none⟩ = some (.string x.f1) ∧ W.cell? ⟨gx,2,none⟩ = some (.bool x.f2) ∧ W.cell? ⟨gx,3,none⟩ = some (.int .i64 x.f3) ∧ Below w.heap.size w W) (by kernel_rfl) ?_ (fun hHeld=>?_)
 ·exact ⟨blk_cell (blk_drew K5.out) 0,blk_cell (blk_drew K5.out) 1,blk_cell (blk_drew K5.out) 2,blk_cell (blk_drew K5.out) 3,HB5.out.drew⟩
 clear K5 HB5
 refine zt 0 (v:=?v0g1) ?y0g1 ?r0g1
 case y0g1=>(rintro w ⟨s0,s1,s2,s3,s4⟩;go_simp;try with_reducible rfl)
 try simp only [zA,zB,zC,Act.put,zD,zE,zF]
 refine wpAnyH_ready (rs:=[1]) (by kernel_rfl) (by simp) ?_
 refine AllReadyH.cons (o:=_) rfl (fun K hK=>?_) AllReadyH.nil
 rw [if_pos (by rfl)]
 go_simp
 obtain ⟨s0,s1,s2,s3,s4⟩:=hHeld
 refine (HCK.out _ s4).mono ?_
 rintro e8 w8 ⟨rfl,hb8⟩
 refine hK.out _ _ ⟨keepc hb8 s0,keepc hb8 s1,keepc hb8 s2,keepc hb8 s3,s4.trans (hb8.mono s4.size)⟩ (fun hHeld=>?_)
 clear hK K hb8 s0 s1 s2 s3 s4
 try simp only [zA,zB,zC,Act.put,zD,zE,zF]
 refine zt 2 (v:=?v2g1) ?y2g1 ?r2g1
 case y2g1=>(rintro w ⟨s0,s1,s2,s3,s4⟩;go_simp;try with_reducible rfl)
 try simp only [zA,zB,zC,Act.put,zD,zE,zF]
 refine zt 3 (v:=?v3g1) ?y3g1 ?r3g1
 case y3g1=>(rintro w ⟨s0,s1,s2,s3,s4⟩;go_simp;try with_reducible rfl)
 try simp only [zA,zB,zC,Act.put,zD,zE,zF]
 refine tku (i:=4) rfl hHeld rfl ?_
 try simp only [zA,zB,zC,Act.put,zD,zE,zF]
 refine tku (i:=5) rfl hHeld rfl ?_
 try simp only [zA,zB,zC,Act.put,zD,zE,zF]
 refine zt 6 (v:=?v6g1) ?y6g1 ?r6g1
 case y6g1=>(rintro w ⟨s0,s1,s2,s3,s4⟩;go_simp;try with_reducible rfl)
 try simp only [zA,zB,zC,Act.put,zD,zE,zF]
 refine zt 7 (v:=?v7g1) ?y7g1 ?r7g1
 case y7g1=>(rintro w ⟨s0,s1,s2,s3,s4⟩;go_simp;try with_reducible rfl)
 try simp only [zA,zB,zC,Act.put,zD,zE,zF]
 refine tku (i:=8) rfl hHeld rfl ?_
 try simp only [zA,zB,zC,Act.put,zD,zE,zF]
 refine tku (i:=9) rfl hHeld rfl ?_
 try simp only [zA,zB,zC,Act.put,zD,zE,zF]
 refine tku (i:=10) rfl hHeld rfl ?_
 try simp only [zA,zB,zC,Act.put,zD,zE,zF]
 refine zt 11 (v:=?v11g1) ?y11g1 ?r11g1
 case y11g1=>(rintro w ⟨s0,s1,s2,s3,s4⟩;go_simp;try with_reducible rfl)
 try simp only [zA,zB,zC,Act.put,zD,zE,zF]
 refine zt 12 (v:=?v12g1) ?y12g1 ?r12g1
 case y12g1=>(rintro w ⟨s0,s1,s2,s3,s4⟩;go_simp;try with_reducible rfl)
 try simp only [zA,zB,zC,Act.put,zD,zE,zF]
 refine tku (i:=13) rfl hHeld rfl ?_
 try simp only [zA,zB,zC,Act.put,zD,zE,zF]
 refine tku (i:=14) rfl hHeld rfl ?_
 try simp only [zA,zB,zC,Act.put,zD,zE,zF]
 refine tku (i:=15) rfl hHeld rfl ?_
 try simp only [zA,zB,zC,Act.put,zD,zE,zF]
 refine tku (i:=16) rfl hHeld rfl ?_
 try simp only [zA,zB,zC,Act.put,zD,zE,zF]
 refine tku (i:=17) rfl hHeld rfl ?_
 try simp only [zA,zB,zC,Act.put,zD,zE,zF]
 refine tku (i:=18) rfl hHeld rfl ?_
 try simp only [zA,zB,zC,Act.put,zD,zE,zF]
 refine tku (i:=19) rfl hHeld rfl ?_
 try simp only [zA,zB,zC,Act.put,zD,zE,zF]
 refine tku (i:=20) rfl hHeld rfl ?_
 try simp only [zA,zB,zC,Act.put,zD,zE,zF]
 refine tku (i:=21) rfl hHeld rfl ?_
 try simp only [zA,zB,zC,Act.put,zD,zE,zF]
 refine tku (i:=22) rfl hHeld rfl ?_
 try simp only [zA,zB,zC,Act.put,zD,zE,zF]
 refine tku (i:=23) rfl hHeld rfl ?_
 try simp only [zA,zB,zC,Act.put,zD,zE,zF]
 refine tku (i:=24) rfl hHeld rfl ?_
 try simp only [zA,zB,zC,Act.put,zD,zE,zF]
 refine zt 25 (v:=?v25g1) ?y25g1 ?r25g1
 case y25g1=>(rintro w ⟨s0,s1,s2,s3,s4⟩;go_simp;try with_reducible rfl)
 try simp only [zA,zB,zC,Act.put,zD,zE,zF]
 refine wpAnyH_done (by kernel_rfl) ?_ _
 go_wp2
 go_ret2
 exact VPost.nil hHeld.2.2.2.2
theorem put_no2 (A : Option Addr) (c : Nat) (l : List S47) (st : Int) (x : S47) (w : World) (hr : Kd.C k47 w A l.length l) (fr : Option (Nat × Value)) (lv : Value) (hf : Instr.findNow (.int .i64) (.int .i64 st) laysE.toList 0 = some fr) (hlv : lookOf .nilFunc fr = (lv,false)) (h1 : chainB l = true) :
  Calls Tryz.prog 52 #[.slice A l.length c,.int .i64 st,.agg #[.int .u64 x.f0,.string x.f1,.bool x.f2,.int .i64 x.f3]] w (VPost [] 1 w):=by
 have HCK:=zh (fun (W : World) (h : Below w.heap.size w W)=>chain.walk A c l W (Kd.C_below hr h))
 have HMY:=zh (fun (W : World)=>mayV.walk x W)
 have HF:=zh hf;clear hf
 have HLV:=zh hlv;clear hlv
 rw [h1] at HCK
 rw [show errB true = 0 from rfl] at HCK
 clear h1 hr
 go_enter Tryz.func52,Tryz.ntmps52
 go_wp2_with (first
  | (((with_reducible refine gate_dst (N:=5) rfl ?_);go_must (refine box_event ?hg (N:=5) ?hd (cs:=#[.int .u64 x.f0,.string x.f1,.bool x.f2,.int .i64 x.f3]) (t:=47) ?hr ?_;(case hd=>rfl);(case hg=>rfl);(case hr=>first | (go_simp;done) | (go_simp;rfl));intro gx hgx w1 hb1 hbel1;have KX:=zh hb1;have HB1:=zh hbel1;have GX:=zh (blk_lt hb1);clear hb1 hbel1 hgx));have GB0:=zh HB1.out.size)
  | (((with_reducible refine gate_dst (N:=13) rfl ?_);go_must (refine makeMap_event (t:=176) rfl rfl ?_;intro gm hgm w2 hm2 hbel2;have M2:=zh hm2;have GBX:=zh (show w.heap.size ≤ gm by rw [hgm];exact HB1.out.size);have HB2:=keepB HB1 hbel2;have K2:=zk KX hbel2;have GN:=zh (show gx ≠ gm by have:=GX.out;omega);clear hm2 hbel2 hgm));have GB : Hid (w.heap.size ≤ gm):=GBX)
  | ((with_reducible refine gate_insert (k:=.const (.int .i64 0)) rfl ?_);go_must (refine wpList_insert_int rfl rfl 176 (.tmp 13) _ _ rfl 3 173 .i64 Tryz.underlying176 Tryz.underlying3 gm #[] 0 0 _ rfl rfl rfl M2.out rfl ?_;intro w3 M3 HO3;have HB3:=zo HO3 HB2 GB;have K3:=zl HO3 K2 GN.out))
  | ((with_reducible refine gate_insert (k:=.const (.int .i64 1)) rfl ?_);go_must (refine wpList_insert_int rfl rfl 176 (.tmp 13) _ _ rfl 3 173 .i64 Tryz.underlying176 Tryz.underlying3 gm #[⟨.int .i64 0,.func (.func 107) #[] #[],0⟩] 1 1 _ rfl rfl rfl M3.out rfl ?_;intro w4 M4 HO4;have HB4:=zo HO4 HB3 GB;have K4:=zl HO4 K3 GN.out))
  | ((with_reducible refine gate_insert (k:=.const (.int .i64 2)) rfl ?_);go_must (refine wpList_insert_int rfl rfl 176 (.tmp 13) _ _ rfl 3 173 .i64 Tryz.underlying176 Tryz.underlying3 gm #[⟨.int .i64 0,.func (.func 107) #[] #[],0⟩,⟨.int .i64 1,.func (.func 108) #[] #[],1⟩] 2 2 _ rfl rfl rfl M4.out rfl ?_;intro w5 M5 HO5;have HB5:=zo HO5 HB4 GB;have K5:=zl HO5 K4 GN.out))
  | ((with_reducible refine gate_lookup (t:=176) rfl ?_);go_must (refine wpList_look_int rfl 176 _ _ rfl 3 173 .i64 Tryz.underlying176 Tryz.underlying3 gm laysE 3 st rfl rfl M5.out fr HF.out (.nilFunc) lv false (fun w=>by kernel_rfl) HLV.out ?_)))
 clear M2 M3 M4 M5 HO3 HO4 HO5 K2 K3 K4 KX HB1 HB2 HB3 HB4 HF
 refine wp_region_held_drew (S:=fun W=>W.cell? ⟨gx,0,none⟩ = some (.int .u64 x.f0) ∧ W.cell? ⟨gx,1,none⟩ = some (.string x.f1) ∧ W.cell? ⟨gx,2,none⟩ = some (.bool x.f2) ∧ W.cell? ⟨gx,3,none⟩ = some (.int .i64 x.f3) ∧ Below w.heap.size w W) (by kernel_rfl) ?_ (fun hHeld=>?_)
 ·exact ⟨blk_cell (blk_drew K5.out) 0,blk_cell (blk_drew K5.out) 1,blk_cell (blk_drew K5.out) 2,blk_cell (blk_drew K5.out) 3,HB5.out.drew⟩
 clear K5 HB5
 refine zt 0 (v:=?v0g2) ?y0g2 ?r0g2
 case y0g2=>(rintro w ⟨s0,s1,s2,s3,s4⟩;go_simp;try with_reducible rfl)
 try simp only [zA,zB,zC,Act.put,zD,zE,zF]
 refine wpAnyH_ready (rs:=[1]) (by kernel_rfl) (by simp) ?_
 refine AllReadyH.cons (o:=_) rfl (fun K hK=>?_) AllReadyH.nil
 rw [if_pos (by rfl)]
 go_simp
 obtain ⟨s0,s1,s2,s3,s4⟩:=hHeld
 refine (HCK.out _ s4).mono ?_
 rintro e8 w8 ⟨rfl,hb8⟩
 refine hK.out _ _ ⟨keepc hb8 s0,keepc hb8 s1,keepc hb8 s2,keepc hb8 s3,s4.trans (hb8.mono s4.size)⟩ (fun hHeld=>?_)
 clear hK K hb8 s0 s1 s2 s3 s4
 try simp only [zA,zB,zC,Act.put,zD,zE,zF]
 refine zt 2 (v:=?v2g2) ?y2g2 ?r2g2
 case y2g2=>(rintro w ⟨s0,s1,s2,s3,s4⟩;go_simp;try with_reducible rfl)
 try simp only [zA,zB,zC,Act.put,zD,zE,zF]
 refine zt 3 (v:=?v3g2) ?y3g2 ?r3g2
 case y3g2=>(rintro w ⟨s0,s1,s2,s3,s4⟩;go_simp;try with_reducible rfl)
 try simp only [zA,zB,zC,Act.put,zD,zE,zF]
 refine zt 4 (v:=?v4g2) ?y4g2 ?r4g2
 case y4g2=>(rintro w ⟨s0,s1,s2,s3,s4⟩;go_simp;try with_reducible rfl)
 try simp only [zA,zB,zC,Act.put,zD,zE,zF]
 refine zt 5 (v:=?v5g2) ?y5g2 ?r5g2
 case y5g2=>(rintro w ⟨s0,s1,s2,s3,s4⟩;go_simp;try with_reducible rfl)
 try simp only [zA,zB,zC,Act.put,zD,zE,zF]
 refine zt 6 (v:=?v6g2) ?y6g2 ?r6g2
 case y6g2=>(rintro w ⟨s0,s1,s2,s3,s4⟩;go_simp;try with_reducible rfl)
 try simp only [zA,zB,zC,Act.put,zD,zE,zF]
 refine zt 7 (v:=?v7g2) ?y7g2 ?r7g2
 case y7g2=>(rintro w ⟨s0,s1,s2,s3,s4⟩;go_simp;try with_reducible rfl)
 try simp only [zA,zB,zC,Act.put,zD,zE,zF]
 refine tku (i:=8) rfl hHeld rfl ?_
 try simp only [zA,zB,zC,Act.put,zD,zE,zF]
 refine tku (i:=9) rfl hHeld rfl ?_
 try simp only [zA,zB,zC,Act.put,zD,zE,zF]
 refine tku (i:=10) rfl hHeld rfl ?_
 try simp only [zA,zB,zC,Act.put,zD,zE,zF]
 refine zt 11 (v:=?v11g2) ?y11g2 ?r11g2
 case y11g2=>(rintro w ⟨s0,s1,s2,s3,s4⟩;go_simp;try with_reducible rfl)
 try simp only [zA,zB,zC,Act.put,zD,zE,zF]
 refine zt 12 (v:=?v12g2) ?y12g2 ?r12g2
 case y12g2=>(rintro w ⟨s0,s1,s2,s3,s4⟩;go_simp;try with_reducible rfl)
 try simp only [zA,zB,zC,Act.put,zD,zE,zF]
 refine tku (i:=13) rfl hHeld rfl ?_
 try simp only [zA,zB,zC,Act.put,zD,zE,zF]
 refine tku (i:=14) rfl hHeld rfl ?_
 try simp only [zA,zB,zC,Act.put,zD,zE,zF]
 refine tku (i:=15) rfl hHeld rfl ?_
 try simp only [zA,zB,zC,Act.put,zD,zE,zF]
 refine tku (i:=16) rfl hHeld rfl ?_
 try simp only [zA,zB,zC,Act.put,zD,zE,zF]
 refine tku (i:=17) rfl hHeld rfl ?_
 try simp only [zA,zB,zC,Act.put,zD,zE,zF]
 refine tku (i:=18) rfl hHeld rfl ?_
 try simp only [zA,zB,zC,Act.put,zD,zE,zF]
 refine tku (i:=19) rfl hHeld rfl ?_
 try simp only [zA,zB,zC,Act.put,zD,zE,zF]
 refine tku (i:=20) rfl hHeld rfl ?_
 try simp only [zA,zB,zC,Act.put,zD,zE,zF]
 refine tku (i:=21) rfl hHeld rfl ?_
 try simp only [zA,zB,zC,Act.put,zD,zE,zF]
 refine tku (i:=22) rfl hHeld rfl ?_
 try simp only [zA,zB,zC,Act.put,zD,zE,zF]
 refine tku (i:=23) rfl hHeld rfl ?_
 try simp only [zA,zB,zC,Act.put,zD,zE,zF]
 refine tku (i:=24) rfl hHeld rfl ?_
 try simp only [zA,zB,zC,Act.put,zD,zE,zF]
 refine zt 25 (v:=?v25g2) ?y25g2 ?r25g2
 case y25g2=>(rintro w ⟨s0,s1,s2,s3,s4⟩;go_simp;try with_reducible rfl)
 try simp only [zA,zB,zC,Act.put,zD,zE,zF]
 refine wpAnyH_done (by kernel_rfl) ?_ _
 go_wp2
 go_ret2
 exact VPost.nil hHeld.2.2.2.2
theorem put_no3 (A : Option Addr) (c : Nat) (l : List S47) (st : Int) (x : S47) (w : World) (hr : Kd.C k47 w A l.length l) (fr : Option (Nat × Value)) (lv : Value) (hf : Instr.findNow (.int .i64) (.int .i64 st) laysE.toList 0 = some fr) (hlv : lookOf .nilFunc fr = (lv,true)) (h1 : chainB l = true) (h2 : mayV x = false) :
  Calls Tryz.prog 52 #[.slice A l.length c,.int .i64 st,.agg #[.int .u64 x.f0,.string x.f1,.bool x.f2,.int .i64 x.f3]] w (VPost [] 1 w):=by
 have HCK:=zh (fun (W : World) (h : Below w.heap.size w W)=>chain.walk A c l W (Kd.C_below hr h))
 have HMY:=zh (fun (W : World)=>mayV.walk x W)
 have HF:=zh hf;clear hf
 have HLV:=zh hlv;clear hlv
 rw [h1] at HCK
 rw [show errB true = 0 from rfl] at HCK
 rw [h2] at HMY
 clear h1 h2 hr
 go_enter Tryz.func52,Tryz.ntmps52
 go_wp2_with (first
  | (((with_reducible refine gate_dst (N:=5) rfl ?_);go_must (refine box_event ?hg (N:=5) ?hd (cs:=#[.int .u64 x.f0,.string x.f1,.bool x.f2,.int .i64 x.f3]) (t:=47) ?hr ?_;(case hd=>rfl);(case hg=>rfl);(case hr=>first | (go_simp;done) | (go_simp;rfl));intro gx hgx w1 hb1 hbel1;have KX:=zh hb1;have HB1:=zh hbel1;have GX:=zh (blk_lt hb1);clear hb1 hbel1 hgx));have GB0:=zh HB1.out.size)
  | (((with_reducible refine gate_dst (N:=13) rfl ?_);go_must (refine makeMap_event (t:=176) rfl rfl ?_;intro gm hgm w2 hm2 hbel2;have M2:=zh hm2;have GBX:=zh (show w.heap.size ≤ gm by rw [hgm];exact HB1.out.size);have HB2:=keepB HB1 hbel2;have K2:=zk KX hbel2;have GN:=zh (show gx ≠ gm by have:=GX.out;omega);clear hm2 hbel2 hgm));have GB : Hid (w.heap.size ≤ gm):=GBX)
  | ((with_reducible refine gate_insert (k:=.const (.int .i64 0)) rfl ?_);go_must (refine wpList_insert_int rfl rfl 176 (.tmp 13) _ _ rfl 3 173 .i64 Tryz.underlying176 Tryz.underlying3 gm #[] 0 0 _ rfl rfl rfl M2.out rfl ?_;intro w3 M3 HO3;have HB3:=zo HO3 HB2 GB;have K3:=zl HO3 K2 GN.out))
  | ((with_reducible refine gate_insert (k:=.const (.int .i64 1)) rfl ?_);go_must (refine wpList_insert_int rfl rfl 176 (.tmp 13) _ _ rfl 3 173 .i64 Tryz.underlying176 Tryz.underlying3 gm #[⟨.int .i64 0,.func (.func 107) #[] #[],0⟩] 1 1 _ rfl rfl rfl M3.out rfl ?_;intro w4 M4 HO4;have HB4:=zo HO4 HB3 GB;have K4:=zl HO4 K3 GN.out))
  | ((with_reducible refine gate_insert (k:=.const (.int .i64 2)) rfl ?_);go_must (refine wpList_insert_int rfl rfl 176 (.tmp 13) _ _ rfl 3 173 .i64 Tryz.underlying176 Tryz.underlying3 gm #[⟨.int .i64 0,.func (.func 107) #[] #[],0⟩,⟨.int .i64 1,.func (.func 108) #[] #[],1⟩] 2 2 _ rfl rfl rfl M4.out rfl ?_;intro w5 M5 HO5;have HB5:=zo HO5 HB4 GB;have K5:=zl HO5 K4 GN.out))
  | ((with_reducible refine gate_lookup (t:=176) rfl ?_);go_must (refine wpList_look_int rfl 176 _ _ rfl 3 173 .i64 Tryz.underlying176 Tryz.underlying3 gm laysE 3 st rfl rfl M5.out fr HF.out (.nilFunc) lv true (fun w=>by kernel_rfl) HLV.out ?_)))
 clear M2 M3 M4 M5 HO3 HO4 HO5 K2 K3 K4 KX HB1 HB2 HB3 HB4 HF
 refine wp_region_held_drew (S:=fun W=>W.cell? ⟨gx,0,none⟩ = some (.int .u64 x.f0) ∧ W.cell? ⟨gx,1,none⟩ = some (.string x.f1) ∧ W.cell? ⟨gx,2,none⟩ = some (.bool x.f2) ∧ W.cell? ⟨gx,3,none⟩ = some (.int .i64 x.f3) ∧ Below w.heap.size w W) (by kernel_rfl) ?_ (fun hHeld=>?_)
 ·exact ⟨blk_cell (blk_drew K5.out) 0,blk_cell (blk_drew K5.out) 1,blk_cell (blk_drew K5.out) 2,blk_cell (blk_drew K5.out) 3,HB5.out.drew⟩
 clear K5 HB5
 refine zt 0 (v:=?v0g3) ?y0g3 ?r0g3
 case y0g3=>(rintro w ⟨s0,s1,s2,s3,s4⟩;go_simp;try with_reducible rfl)
 try simp only [zA,zB,zC,Act.put,zD,zE,zF]
 refine wpAnyH_ready (rs:=[1]) (by kernel_rfl) (by simp) ?_
 refine AllReadyH.cons (o:=_) rfl (fun K hK=>?_) AllReadyH.nil
 rw [if_pos (by rfl)]
 go_simp
 obtain ⟨s0,s1,s2,s3,s4⟩:=hHeld
 refine (HCK.out _ s4).mono ?_
 rintro e8 w8 ⟨rfl,hb8⟩
 refine hK.out _ _ ⟨keepc hb8 s0,keepc hb8 s1,keepc hb8 s2,keepc hb8 s3,s4.trans (hb8.mono s4.size)⟩ (fun hHeld=>?_)
 clear hK K hb8 s0 s1 s2 s3 s4
 try simp only [zA,zB,zC,Act.put,zD,zE,zF]
 refine zt 2 (v:=?v2g3) ?y2g3 ?r2g3
 case y2g3=>(rintro w ⟨s0,s1,s2,s3,s4⟩;go_simp;try with_reducible rfl)
 try simp only [zA,zB,zC,Act.put,zD,zE,zF]
 refine zt 3 (v:=?v3g3) ?y3g3 ?r3g3
 case y3g3=>(rintro w ⟨s0,s1,s2,s3,s4⟩;go_simp;try with_reducible rfl)
 try simp only [zA,zB,zC,Act.put,zD,zE,zF]
 refine zt 4 (v:=?v4g3) ?y4g3 ?r4g3
 case y4g3=>(rintro w ⟨s0,s1,s2,s3,s4⟩;go_simp;try with_reducible rfl)
 try simp only [zA,zB,zC,Act.put,zD,zE,zF]
 refine zt 5 (v:=?v5g3) ?y5g3 ?r5g3
 case y5g3=>(rintro w ⟨s0,s1,s2,s3,s4⟩;go_simp;try with_reducible rfl)
 try simp only [zA,zB,zC,Act.put,zD,zE,zF]
 refine zt 6 (v:=?v6g3) ?y6g3 ?r6g3
 case y6g3=>(rintro w ⟨s0,s1,s2,s3,s4⟩;go_simp;try with_reducible rfl)
 try simp only [zA,zB,zC,Act.put,zD,zE,zF]
 refine zt 7 (v:=?v7g3) ?y7g3 ?r7g3
 case y7g3=>(rintro w ⟨s0,s1,s2,s3,s4⟩;go_simp;try with_reducible rfl)
 try simp only [zA,zB,zC,Act.put,zD,zE,zF]
 refine zt 8 (v:=?v8g3) ?y8g3 ?r8g3
 case y8g3=>(rintro w ⟨s0,s1,s2,s3,s4⟩;go_simp;try with_reducible rfl)
 try simp only [zA,zB,zC,Act.put,zD,zE,zF]
 refine wpAnyH_ready (rs:=[9]) (by kernel_rfl) (by simp) ?_
 refine AllReadyH.cons (o:=_) rfl (fun K hK=>?_) AllReadyH.nil
 rw [if_pos (by rfl)]
 go_simp
 obtain ⟨s0,s1,s2,s3,s4⟩:=hHeld
 refine (HMY.out _).mono ?_
 rintro e8 w8 ⟨rfl,hb8⟩
 refine hK.out _ _ ⟨keepc hb8 s0,keepc hb8 s1,keepc hb8 s2,keepc hb8 s3,s4.trans (hb8.mono s4.size)⟩ (fun hHeld=>?_)
 clear hK K hb8 s0 s1 s2 s3 s4
 try simp only [zA,zB,zC,Act.put,zD,zE,zF]
 refine zt 10 (v:=?v10g3) ?y10g3 ?r10g3
 case y10g3=>(rintro w ⟨s0,s1,s2,s3,s4⟩;go_simp;try with_reducible rfl)
 try simp only [zA,zB,zC,Act.put,zD,zE,zF]
 refine zt 11 (v:=?v11g3) ?y11g3 ?r11g3
 case y11g3=>(rintro w ⟨s0,s1,s2,s3,s4⟩;go_simp;try with_reducible rfl)
 try simp only [zA,zB,zC,Act.put,zD,zE,zF]
 refine zt 12 (v:=?v12g3) ?y12g3 ?r12g3
 case y12g3=>(rintro w ⟨s0,s1,s2,s3,s4⟩;go_simp;try with_reducible rfl)
 try simp only [zA,zB,zC,Act.put,zD,zE,zF]
 refine tku (i:=13) rfl hHeld rfl ?_
 try simp only [zA,zB,zC,Act.put,zD,zE,zF]
 refine tku (i:=14) rfl hHeld rfl ?_
 try simp only [zA,zB,zC,Act.put,zD,zE,zF]
 refine tku (i:=15) rfl hHeld rfl ?_
 try simp only [zA,zB,zC,Act.put,zD,zE,zF]
 refine tku (i:=16) rfl hHeld rfl ?_
 try simp only [zA,zB,zC,Act.put,zD,zE,zF]
 refine tku (i:=17) rfl hHeld rfl ?_
 try simp only [zA,zB,zC,Act.put,zD,zE,zF]
 refine tku (i:=18) rfl hHeld rfl ?_
 try simp only [zA,zB,zC,Act.put,zD,zE,zF]
 refine tku (i:=19) rfl hHeld rfl ?_
 try simp only [zA,zB,zC,Act.put,zD,zE,zF]
 refine tku (i:=20) rfl hHeld rfl ?_
 try simp only [zA,zB,zC,Act.put,zD,zE,zF]
 refine tku (i:=21) rfl hHeld rfl ?_
 try simp only [zA,zB,zC,Act.put,zD,zE,zF]
 refine tku (i:=22) rfl hHeld rfl ?_
 try simp only [zA,zB,zC,Act.put,zD,zE,zF]
 refine tku (i:=23) rfl hHeld rfl ?_
 try simp only [zA,zB,zC,Act.put,zD,zE,zF]
 refine tku (i:=24) rfl hHeld rfl ?_
 try simp only [zA,zB,zC,Act.put,zD,zE,zF]
 refine zt 25 (v:=?v25g3) ?y25g3 ?r25g3
 case y25g3=>(rintro w ⟨s0,s1,s2,s3,s4⟩;go_simp;try with_reducible rfl)
 try simp only [zA,zB,zC,Act.put,zD,zE,zF]
 refine wpAnyH_done (by kernel_rfl) ?_ _
 go_wp2
 go_ret2
 exact VPost.nil hHeld.2.2.2.2
theorem put_no4 (A : Option Addr) (c : Nat) (l : List S47) (st : Int) (x : S47) (w : World) (hr : Kd.C k47 w A l.length l) (fr : Option (Nat × Value)) (lv : Value) (hf : Instr.findNow (.int .i64) (.int .i64 st) laysE.toList 0 = some fr) (hlv : lookOf .nilFunc fr = (lv,true)) (h1 : chainB l = true) (h2 : mayV x = true) (h3 : 0 < l.length) (y : Int) (hy : y = l[0].f3) (h4 : x.f3 < y) :
  Calls Tryz.prog 52 #[.slice A l.length c,.int .i64 st,.agg #[.int .u64 x.f0,.string x.f1,.bool x.f2,.int .i64 x.f3]] w (VPost [] 1 w):=by
 have HCK:=zh (fun (W : World) (h : Below w.heap.size w W)=>chain.walk A c l W (Kd.C_below hr h))
 have HMY:=zh (fun (W : World)=>mayV.walk x W)
 have HF:=zh hf;clear hf
 have HLV:=zh hlv;clear hlv
 have d0 : decide ((0 : Int) < (l.length : Int)) = true:=decide_eq_true (by omega)
 have d0n : decide (0 < l.length) = true:=decide_eq_true (by omega)
 have d9 : (0 : Int) < (l.length : Int):=by omega
 obtain ⟨ad,e',g0,g1,g2,g3⟩:=atVersion hr (Below.refl _ _) 0 h3;clear g0 g1 g2
 subst e'
 have G3:=zh g3;clear g3
 rw [Nat.zero_mul,Addr.add_zero',← hy] at G3
 rw [h1] at HCK
 rw [show errB true = 0 from rfl] at HCK
 rw [h2] at HMY
 have d1 : decide (x.f3 < y) = true:=decide_eq_true h4
 clear h1 h2 hr hy
 go_enter Tryz.func52,Tryz.ntmps52
 go_wp2_with (first
  | (((with_reducible refine gate_dst (N:=5) rfl ?_);go_must (refine box_event ?hg (N:=5) ?hd (cs:=#[.int .u64 x.f0,.string x.f1,.bool x.f2,.int .i64 x.f3]) (t:=47) ?hr ?_;(case hd=>rfl);(case hg=>rfl);(case hr=>first | (go_simp;done) | (go_simp;rfl));intro gx hgx w1 hb1 hbel1;have KX:=zh hb1;have HB1:=zh hbel1;have GX:=zh (blk_lt hb1);clear hb1 hbel1 hgx));have GB0:=zh HB1.out.size)
  | (((with_reducible refine gate_dst (N:=13) rfl ?_);go_must (refine makeMap_event (t:=176) rfl rfl ?_;intro gm hgm w2 hm2 hbel2;have M2:=zh hm2;have GBX:=zh (show w.heap.size ≤ gm by rw [hgm];exact HB1.out.size);have HB2:=keepB HB1 hbel2;have K2:=zk KX hbel2;have GN:=zh (show gx ≠ gm by have:=GX.out;omega);clear hm2 hbel2 hgm));have GB : Hid (w.heap.size ≤ gm):=GBX)
  | ((with_reducible refine gate_insert (k:=.const (.int .i64 0)) rfl ?_);go_must (refine wpList_insert_int rfl rfl 176 (.tmp 13) _ _ rfl 3 173 .i64 Tryz.underlying176 Tryz.underlying3 gm #[] 0 0 _ rfl rfl rfl M2.out rfl ?_;intro w3 M3 HO3;have HB3:=zo HO3 HB2 GB;have K3:=zl HO3 K2 GN.out))
  | ((with_reducible refine gate_insert (k:=.const (.int .i64 1)) rfl ?_);go_must (refine wpList_insert_int rfl rfl 176 (.tmp 13) _ _ rfl 3 173 .i64 Tryz.underlying176 Tryz.underlying3 gm #[⟨.int .i64 0,.func (.func 107) #[] #[],0⟩] 1 1 _ rfl rfl rfl M3.out rfl ?_;intro w4 M4 HO4;have HB4:=zo HO4 HB3 GB;have K4:=zl HO4 K3 GN.out))
  | ((with_reducible refine gate_insert (k:=.const (.int .i64 2)) rfl ?_);go_must (refine wpList_insert_int rfl rfl 176 (.tmp 13) _ _ rfl 3 173 .i64 Tryz.underlying176 Tryz.underlying3 gm #[⟨.int .i64 0,.func (.func 107) #[] #[],0⟩,⟨.int .i64 1,.func (.func 108) #[] #[],1⟩] 2 2 _ rfl rfl rfl M4.out rfl ?_;intro w5 M5 HO5;have HB5:=zo HO5 HB4 GB;have K5:=zl HO5 K4 GN.out))
  | ((with_reducible refine gate_lookup (t:=176) rfl ?_);go_must (refine wpList_look_int rfl 176 _ _ rfl 3 173 .i64 Tryz.underlying176 Tryz.underlying3 gm laysE 3 st rfl rfl M5.out fr HF.out (.nilFunc) lv true (fun w=>by kernel_rfl) HLV.out ?_)))
 clear M2 M3 M4 M5 HO3 HO4 HO5 K2 K3 K4 KX HB1 HB2 HB3 HB4 HF
 refine wp_region_held_drew (S:=fun W=>W.cell? ⟨gx,0,none⟩ = some (.int .u64 x.f0) ∧ W.cell? ⟨gx,1,none⟩ = some (.string x.f1) ∧ W.cell? ⟨gx,2,none⟩ = some (.bool x.f2) ∧ W.cell? ⟨gx,3,none⟩ = some (.int .i64 x.f3) ∧ Below w.heap.size w W ∧ W.cell? ⟨ad.block,ad.off + 3,none⟩ = some (.int .i64 y)) (by kernel_rfl) ?_ (fun hHeld=>?_)
 ·exact ⟨blk_cell (blk_drew K5.out) 0,blk_cell (blk_drew K5.out) 1,blk_cell (blk_drew K5.out) 2,blk_cell (blk_drew K5.out) 3,HB5.out.drew,keepc HB5.out.drew G3.out⟩
 clear K5 HB5
 refine zt 0 (v:=?v0g4) ?y0g4 ?r0g4
 case y0g4=>(rintro w ⟨s0,s1,s2,s3,s4,s5⟩;go_simp;try with_reducible rfl)
 try simp only [zA,zB,zC,Act.put,zD,zE,zF]
 refine wpAnyH_ready (rs:=[1]) (by kernel_rfl) (by simp) ?_
 refine AllReadyH.cons (o:=_) rfl (fun K hK=>?_) AllReadyH.nil
 rw [if_pos (by rfl)]
 go_simp
 obtain ⟨s0,s1,s2,s3,s4,s5⟩:=hHeld
 refine (HCK.out _ s4).mono ?_
 rintro e8 w8 ⟨rfl,hb8⟩
 refine hK.out _ _ ⟨keepc hb8 s0,keepc hb8 s1,keepc hb8 s2,keepc hb8 s3,s4.trans (hb8.mono s4.size),keepc hb8 s5⟩ (fun hHeld=>?_)
 clear hK K hb8 s0 s1 s2 s3 s4 s5
 try simp only [zA,zB,zC,Act.put,zD,zE,zF]
 refine zt 2 (v:=?v2g4) ?y2g4 ?r2g4
 case y2g4=>(rintro w ⟨s0,s1,s2,s3,s4,s5⟩;go_simp;try with_reducible rfl)
 try simp only [zA,zB,zC,Act.put,zD,zE,zF]
 refine zt 3 (v:=?v3g4) ?y3g4 ?r3g4
 case y3g4=>(rintro w ⟨s0,s1,s2,s3,s4,s5⟩;go_simp;try with_reducible rfl)
 try simp only [zA,zB,zC,Act.put,zD,zE,zF]
 refine zt 4 (v:=?v4g4) ?y4g4 ?r4g4
 case y4g4=>(rintro w ⟨s0,s1,s2,s3,s4,s5⟩;go_simp;try with_reducible rfl)
 try simp only [zA,zB,zC,Act.put,zD,zE,zF]
 refine zt 5 (v:=?v5g4) ?y5g4 ?r5g4
 case y5g4=>(rintro w ⟨s0,s1,s2,s3,s4,s5⟩;go_simp;try with_reducible rfl)
 try simp only [zA,zB,zC,Act.put,zD,zE,zF]
 refine zt 6 (v:=?v6g4) ?y6g4 ?r6g4
 case y6g4=>(rintro w ⟨s0,s1,s2,s3,s4,s5⟩;go_simp;try with_reducible rfl)
 try simp only [zA,zB,zC,Act.put,zD,zE,zF]
 refine zt 7 (v:=?v7g4) ?y7g4 ?r7g4
 case y7g4=>(rintro w ⟨s0,s1,s2,s3,s4,s5⟩;go_simp;try with_reducible rfl)
 try simp only [zA,zB,zC,Act.put,zD,zE,zF]
 refine zt 8 (v:=?v8g4) ?y8g4 ?r8g4
 case y8g4=>(rintro w ⟨s0,s1,s2,s3,s4,s5⟩;go_simp;try with_reducible rfl)
 try simp only [zA,zB,zC,Act.put,zD,zE,zF]
 refine wpAnyH_ready (rs:=[9]) (by kernel_rfl) (by simp) ?_
 refine AllReadyH.cons (o:=_) rfl (fun K hK=>?_) AllReadyH.nil
 rw [if_pos (by rfl)]
 go_simp
 obtain ⟨s0,s1,s2,s3,s4,s5⟩:=hHeld
 refine (HMY.out _).mono ?_
 rintro e8 w8 ⟨rfl,hb8⟩
 refine hK.out _ _ ⟨keepc hb8 s0,keepc hb8 s1,keepc hb8 s2,keepc hb8 s3,s4.trans (hb8.mono s4.size),keepc hb8 s5⟩ (fun hHeld=>?_)
 clear hK K hb8 s0 s1 s2 s3 s4 s5
 try simp only [zA,zB,zC,Act.put,zD,zE,zF]
 refine zt 10 (v:=?v10g4) ?y10g4 ?r10g4
 case y10g4=>(rintro w ⟨s0,s1,s2,s3,s4,s5⟩;go_simp;try with_reducible rfl)
 try simp only [zA,zB,zC,Act.put,zD,zE,zF]
 refine zt 11 (v:=?v11g4) ?y11g4 ?r11g4
 case y11g4=>(rintro w ⟨s0,s1,s2,s3,s4,s5⟩;go_simp;try with_reducible rfl)
 try simp only [zA,zB,zC,Act.put,zD,zE,zF]
 refine zt 12 (v:=?v12g4) ?y12g4 ?r12g4
 case y12g4=>(rintro w ⟨s0,s1,s2,s3,s4,s5⟩;go_simp;try with_reducible rfl)
 try simp only [zA,zB,zC,Act.put,zD,zE,zF]
 refine zt 13 (v:=?v13g4) ?y13g4 ?r13g4
 case y13g4=>(rintro w ⟨s0,s1,s2,s3,s4,s5⟩;go_simp;try with_reducible rfl)
 try simp only [zA,zB,zC,Act.put,zD,zE,zF]
 refine zt 14 (v:=?v14g4) ?y14g4 ?r14g4
 case y14g4=>(rintro w ⟨s0,s1,s2,s3,s4,s5⟩;go_simp;try with_reducible rfl)
 try simp only [zA,zB,zC,Act.put,zD,zE,zF]
 refine zt 15 (v:=?v15g4) ?y15g4 ?r15g4
 case y15g4=>(rintro w ⟨s0,s1,s2,s3,s4,s5⟩;go_simp;try with_reducible rfl)
 try simp only [zA,zB,zC,Act.put,zD,zE,zF]
 refine zt 16 (v:=?v16g4) ?y16g4 ?r16g4
 case y16g4=>(rintro w ⟨s0,s1,s2,s3,s4,s5⟩;go_simp;try with_reducible rfl)
 try simp only [zA,zB,zC,Act.put,zD,zE,zF]
 refine zt 17 (v:=?v17g4) ?y17g4 ?r17g4
 case y17g4=>(rintro w ⟨s0,s1,s2,s3,s4,s5⟩;go_simp;try with_reducible rfl)
 try simp only [zA,zB,zC,Act.put,zD,zE,zF]
 refine zt 18 (v:=?v18g4) ?y18g4 ?r18g4
 case y18g4=>(rintro w ⟨s0,s1,s2,s3,s4,s5⟩;go_simp;try with_reducible rfl)
 try simp only [zA,zB,zC,Act.put,zD,zE,zF]
 refine zt 19 (v:=?v19g4) ?y19g4 ?r19g4
 case y19g4=>(rintro w ⟨s0,s1,s2,s3,s4,s5⟩;go_simp;try with_reducible rfl)
 try simp only [zA,zB,zC,Act.put,zD,zE,zF]
 refine zt 20 (v:=?v20g4) ?y20g4 ?r20g4
 case y20g4=>(rintro w ⟨s0,s1,s2,s3,s4,s5⟩;go_simp;try with_reducible rfl)
 try simp only [zA,zB,zC,Act.put,zD,zE,zF]
 refine zt 21 (v:=?v21g4) ?y21g4 ?r21g4
 case y21g4=>(rintro w ⟨s0,s1,s2,s3,s4,s5⟩;go_simp;try with_reducible rfl)
 try simp only [zA,zB,zC,Act.put,zD,zE,zF]
 refine zt 22 (v:=?v22g4) ?y22g4 ?r22g4
 case y22g4=>(rintro w ⟨s0,s1,s2,s3,s4,s5⟩;go_simp;try with_reducible rfl)
 try simp only [zA,zB,zC,Act.put,zD,zE,zF]
 refine zt 23 (v:=?v23g4) ?y23g4 ?r23g4
 case y23g4=>(rintro w ⟨s0,s1,s2,s3,s4,s5⟩;go_simp;try with_reducible rfl)
 try simp only [zA,zB,zC,Act.put,zD,zE,zF]
 refine zt 24 (v:=?v24g4) ?y24g4 ?r24g4
 case y24g4=>(rintro w ⟨s0,s1,s2,s3,s4,s5⟩;go_simp;try with_reducible rfl)
 try simp only [zA,zB,zC,Act.put,zD,zE,zF]
 refine zt 25 (v:=?v25g4) ?y25g4 ?r25g4
 case y25g4=>(rintro w ⟨s0,s1,s2,s3,s4,s5⟩;go_simp;try with_reducible rfl)
 try simp only [zA,zB,zC,Act.put,zD,zE,zF]
 refine wpAnyH_done (by kernel_rfl) ?_ _
 go_wp2
 go_ret2
 exact VPost.nil hHeld.2.2.2.2.1
end
section
open Go.WideMaps Go.Maps
attribute [local go_sem] Oper.semAt_some
theorem put_yes0 (A : Option Addr) (c : Nat) (l : List S47) (st : Int) (x : S47) (w : World) (hr : Kd.C k47 w A l.length l) (fr : Option (Nat × Value)) (hf : Instr.findNow (.int .i64) (.int .i64 st) laysE.toList 0 = some fr) (h1 : chainB l = true) (fid : Nat) (L : List S47) (er : Int) (res : List S47) (rer : Int) (hlv : lookOf .nilFunc fr = (.func (.func fid) #[] #[],true)) (eg : ∀ args w,(callFunc fid args).run Tryz.prog w = .ok (.enter fid args) w) (hl : ∀ W,Below w.heap.size w W → Calls Tryz.prog fid #[.slice A l.length c,.agg #[.int .u64 x.f0,.string x.f1,.bool x.f2,.int .i64 x.f3]] W (VPost L er W)) (hres : (er == 0) = false ∧ res = [] ∧ rer = er ∨ (er == 0) = true ∧ 20 < L.length ∧ res = [] ∧ rer = 6 ∨ (er == 0) = true ∧ L.length ≤ 20 ∧ res = L ∧ rer = 0) (h2 : mayV x = true) (h3 : l.length = 0) :
  Calls Tryz.prog 52 #[.slice A l.length c,.int .i64 st,.agg #[.int .u64 x.f0,.string x.f1,.bool x.f2,.int .i64 x.f3]] w (VPost res rer w):=by
 have HCK:=zh (fun (W : World) (h : Below w.heap.size w W)=>chain.walk A c l W (Kd.C_below hr h))
 have HMY:=zh (fun (W : World)=>mayV.walk x W)
 have HF:=zh hf;clear hf
 have HLV:=zh hlv;clear hlv
 have HL:=zh hl;clear hl
 have d0 : decide ((0 : Int) < (l.length : Int)) = false:=decide_eq_false (by omega)
 have d0n : decide (0 < l.length) = false:=decide_eq_false (by omega)
 have d0p : ¬ 0 < l.length:=by omega
 clear h3
 rw [h1] at HCK
 rw [show errB true = 0 from rfl] at HCK
 rw [h2] at HMY
 clear h1 h2 hr
 go_enter Tryz.func52,Tryz.ntmps52
 go_wp2_with (first
  | (((with_reducible refine gate_dst (N:=5) rfl ?_);go_must (refine box_event ?hg (N:=5) ?hd (cs:=#[.int .u64 x.f0,.string x.f1,.bool x.f2,.int .i64 x.f3]) (t:=47) ?hr ?_;(case hd=>rfl);(case hg=>rfl);(case hr=>first | (go_simp;done) | (go_simp;rfl));intro gx hgx w1 hb1 hbel1;have KX:=zh hb1;have HB1:=zh hbel1;have GX:=zh (blk_lt hb1);clear hb1 hbel1 hgx));have GB0:=zh HB1.out.size)
  | (((with_reducible refine gate_dst (N:=13) rfl ?_);go_must (refine makeMap_event (t:=176) rfl rfl ?_;intro gm hgm w2 hm2 hbel2;have M2:=zh hm2;have GBX:=zh (show w.heap.size ≤ gm by rw [hgm];exact HB1.out.size);have HB2:=keepB HB1 hbel2;have K2:=zk KX hbel2;have GN:=zh (show gx ≠ gm by have:=GX.out;omega);clear hm2 hbel2 hgm));have GB : Hid (w.heap.size ≤ gm):=GBX)
  | ((with_reducible refine gate_insert (k:=.const (.int .i64 0)) rfl ?_);go_must (refine wpList_insert_int rfl rfl 176 (.tmp 13) _ _ rfl 3 173 .i64 Tryz.underlying176 Tryz.underlying3 gm #[] 0 0 _ rfl rfl rfl M2.out rfl ?_;intro w3 M3 HO3;have HB3:=zo HO3 HB2 GB;have K3:=zl HO3 K2 GN.out))
  | ((with_reducible refine gate_insert (k:=.const (.int .i64 1)) rfl ?_);go_must (refine wpList_insert_int rfl rfl 176 (.tmp 13) _ _ rfl 3 173 .i64 Tryz.underlying176 Tryz.underlying3 gm #[⟨.int .i64 0,.func (.func 107) #[] #[],0⟩] 1 1 _ rfl rfl rfl M3.out rfl ?_;intro w4 M4 HO4;have HB4:=zo HO4 HB3 GB;have K4:=zl HO4 K3 GN.out))
  | ((with_reducible refine gate_insert (k:=.const (.int .i64 2)) rfl ?_);go_must (refine wpList_insert_int rfl rfl 176 (.tmp 13) _ _ rfl 3 173 .i64 Tryz.underlying176 Tryz.underlying3 gm #[⟨.int .i64 0,.func (.func 107) #[] #[],0⟩,⟨.int .i64 1,.func (.func 108) #[] #[],1⟩] 2 2 _ rfl rfl rfl M4.out rfl ?_;intro w5 M5 HO5;have HB5:=zo HO5 HB4 GB;have K5:=zl HO5 K4 GN.out))
  | ((with_reducible refine gate_lookup (t:=176) rfl ?_);go_must (refine wpList_look_int rfl 176 _ _ rfl 3 173 .i64 Tryz.underlying176 Tryz.underlying3 gm laysE 3 st rfl rfl M5.out fr HF.out (.nilFunc) (.func (.func fid) #[] #[]) true (fun w=>by kernel_rfl) HLV.out ?_)))
 clear M2 M3 M4 M5 HO3 HO4 HO5 K2 K3 K4 KX HB1 HB2 HB3 HB4 HF
 refine wp_region_held_drew (S:=fun W=>W.cell? ⟨gx,0,none⟩ = some (.int .u64 x.f0) ∧ W.cell? ⟨gx,1,none⟩ = some (.string x.f1) ∧ W.cell? ⟨gx,2,none⟩ = some (.bool x.f2) ∧ W.cell? ⟨gx,3,none⟩ = some (.int .i64 x.f3) ∧ Below w.heap.size w W) (by kernel_rfl) ?_ (fun hHeld=>?_)
 ·exact ⟨blk_cell (blk_drew K5.out) 0,blk_cell (blk_drew K5.out) 1,blk_cell (blk_drew K5.out) 2,blk_cell (blk_drew K5.out) 3,HB5.out.drew⟩
 clear K5 HB5
 refine zt 0 (v:=?v0g5) ?y0g5 ?r0g5
 case y0g5=>(rintro w ⟨s0,s1,s2,s3,s4⟩;go_simp;try with_reducible rfl)
 try simp only [zA,zB,zC,Act.put,zD,zE,zF]
 refine wpAnyH_ready (rs:=[1]) (by kernel_rfl) (by simp) ?_
 refine AllReadyH.cons (o:=_) rfl (fun K hK=>?_) AllReadyH.nil
 rw [if_pos (by rfl)]
 go_simp
 obtain ⟨s0,s1,s2,s3,s4⟩:=hHeld
 refine (HCK.out _ s4).mono ?_
 rintro e8 w8 ⟨rfl,hb8⟩
 refine hK.out _ _ ⟨keepc hb8 s0,keepc hb8 s1,keepc hb8 s2,keepc hb8 s3,s4.trans (hb8.mono s4.size)⟩ (fun hHeld=>?_)
 clear hK K hb8 s0 s1 s2 s3 s4
 try simp only [zA,zB,zC,Act.put,zD,zE,zF]
 refine zt 2 (v:=?v2g5) ?y2g5 ?r2g5
 case y2g5=>(rintro w ⟨s0,s1,s2,s3,s4⟩;go_simp;try with_reducible rfl)
 try simp only [zA,zB,zC,Act.put,zD,zE,zF]
 refine zt 3 (v:=?v3g5) ?y3g5 ?r3g5
 case y3g5=>(rintro w ⟨s0,s1,s2,s3,s4⟩;go_simp;try with_reducible rfl)
 try simp only [zA,zB,zC,Act.put,zD,zE,zF]
 refine zt 4 (v:=?v4g5) ?y4g5 ?r4g5
 case y4g5=>(rintro w ⟨s0,s1,s2,s3,s4⟩;go_simp;try with_reducible rfl)
 try simp only [zA,zB,zC,Act.put,zD,zE,zF]
 refine zt 5 (v:=?v5g5) ?y5g5 ?r5g5
 case y5g5=>(rintro w ⟨s0,s1,s2,s3,s4⟩;go_simp;try with_reducible rfl)
 try simp only [zA,zB,zC,Act.put,zD,zE,zF]
 refine zt 6 (v:=?v6g5) ?y6g5 ?r6g5
 case y6g5=>(rintro w ⟨s0,s1,s2,s3,s4⟩;go_simp;try with_reducible rfl)
 try simp only [zA,zB,zC,Act.put,zD,zE,zF]
 refine zt 7 (v:=?v7g5) ?y7g5 ?r7g5
 case y7g5=>(rintro w ⟨s0,s1,s2,s3,s4⟩;go_simp;try with_reducible rfl)
 try simp only [zA,zB,zC,Act.put,zD,zE,zF]
 refine zt 8 (v:=?v8g5) ?y8g5 ?r8g5
 case y8g5=>(rintro w ⟨s0,s1,s2,s3,s4⟩;go_simp;try with_reducible rfl)
 try simp only [zA,zB,zC,Act.put,zD,zE,zF]
 refine wpAnyH_ready (rs:=[9]) (by kernel_rfl) (by simp) ?_
 refine AllReadyH.cons (o:=_) rfl (fun K hK=>?_) AllReadyH.nil
 rw [if_pos (by rfl)]
 go_simp
 obtain ⟨s0,s1,s2,s3,s4⟩:=hHeld
 refine (HMY.out _).mono ?_
 rintro e8 w8 ⟨rfl,hb8⟩
 refine hK.out _ _ ⟨keepc hb8 s0,keepc hb8 s1,keepc hb8 s2,keepc hb8 s3,s4.trans (hb8.mono s4.size)⟩ (fun hHeld=>?_)
 clear hK K hb8 s0 s1 s2 s3 s4
 try simp only [zA,zB,zC,Act.put,zD,zE,zF]
 refine zt 10 (v:=?v10g5) ?y10g5 ?r10g5
 case y10g5=>(rintro w ⟨s0,s1,s2,s3,s4⟩;go_simp;try with_reducible rfl)
 try simp only [zA,zB,zC,Act.put,zD,zE,zF]
 refine zt 11 (v:=?v11g5) ?y11g5 ?r11g5
 case y11g5=>(rintro w ⟨s0,s1,s2,s3,s4⟩;go_simp;try with_reducible rfl)
 try simp only [zA,zB,zC,Act.put,zD,zE,zF]
 refine zt 12 (v:=?v12g5) ?y12g5 ?r12g5
 case y12g5=>(rintro w ⟨s0,s1,s2,s3,s4⟩;go_simp;try with_reducible rfl)
 try simp only [zA,zB,zC,Act.put,zD,zE,zF]
 refine zt 13 (v:=?v13g5) ?y13g5 ?r13g5
 case y13g5=>(rintro w ⟨s0,s1,s2,s3,s4⟩;go_simp;try with_reducible rfl)
 try simp only [zA,zB,zC,Act.put,zD,zE,zF]
 refine zt 14 (v:=?v14g5) ?y14g5 ?r14g5
 case y14g5=>(rintro w ⟨s0,s1,s2,s3,s4⟩;go_simp;try with_reducible rfl)
 try simp only [zA,zB,zC,Act.put,zD,zE,zF]
 refine zt 15 (v:=?v15g5) ?y15g5 ?r15g5
 case y15g5=>(rintro w ⟨s0,s1,s2,s3,s4⟩;go_simp;try with_reducible rfl)
 try simp only [zA,zB,zC,Act.put,zD,zE,zF]
 refine zt 16 (v:=?v16g5) ?y16g5 ?r16g5
 case y16g5=>(rintro w ⟨s0,s1,s2,s3,s4⟩;go_simp;try with_reducible rfl)
 try simp only [zA,zB,zC,Act.put,zD,zE,zF]
 refine tku (i:=17) rfl hHeld rfl ?_
 try simp only [zA,zB,zC,Act.put,zD,zE,zF]
 refine tku (i:=18) rfl hHeld rfl ?_
 try simp only [zA,zB,zC,Act.put,zD,zE,zF]
 refine tku (i:=19) rfl hHeld rfl ?_
 try simp only [zA,zB,zC,Act.put,zD,zE,zF]
 refine tku (i:=20) rfl hHeld rfl ?_
 try simp only [zA,zB,zC,Act.put,zD,zE,zF]
 refine tku (i:=21) rfl hHeld rfl ?_
 try simp only [zA,zB,zC,Act.put,zD,zE,zF]
 refine tku (i:=22) rfl hHeld rfl ?_
 try simp only [zA,zB,zC,Act.put,zD,zE,zF]
 refine tku (i:=23) rfl hHeld rfl ?_
 try simp only [zA,zB,zC,Act.put,zD,zE,zF]
 refine zt 24 (v:=?v24g5) ?y24g5 ?r24g5
 case y24g5=>(rintro w ⟨s0,s1,s2,s3,s4⟩;go_simp;try with_reducible rfl)
 try simp only [zA,zB,zC,Act.put,zD,zE,zF]
 refine zt 25 (v:=?v25g5) ?y25g5 ?r25g5
 case y25g5=>(rintro w ⟨s0,s1,s2,s3,s4⟩;go_simp;try with_reducible rfl)
 try simp only [zA,zB,zC,Act.put,zD,zE,zF]
 refine wpAnyH_done (by kernel_rfl) ?_ _
 obtain ⟨s0,s1,s2,s3,s4⟩:=hHeld
 try clear s5
 rcases hres with ⟨q1,rfl,rfl⟩ | ⟨q1,q2,rfl,rfl⟩ | ⟨q1,q2,rfl,rfl⟩
 ·have q9 : (rer != 0) = true:=by rw [bne,q1];rfl
  go_wp2_with (go_at_fn fid;refine (HL.out _ s4).mono ?_;rintro e w9 ⟨A9,c9,rfl,hc9,hC9,hb9⟩;have HC9:=hC9;have HB9:=zh (s4.trans (hb9.mono s4.size));clear hb9 hC9)
  go_ret2
  exact VPost.nil HB9.out
 ·have q9 : (er != 0) = false:=by rw [bne,q1];rfl
  have q3 : decide ((20 : Int) < (L.length : Int)) = true:=decide_eq_true (by omega)
  go_wp2_with (go_at_fn fid;refine (HL.out _ s4).mono ?_;rintro e w9 ⟨A9,c9,rfl,hc9,hC9,hb9⟩;have HC9:=hC9;have HB9:=zh (s4.trans (hb9.mono s4.size));clear hb9 hC9)
  go_ret2
  exact VPost.nil HB9.out
 ·have q9 : (er != 0) = false:=by rw [bne,q1];rfl
  have q3 : decide ((20 : Int) < (res.length : Int)) = false:=decide_eq_false (by omega)
  go_wp2_with (go_at_fn fid;refine (HL.out _ s4).mono ?_;rintro e w9 ⟨A9,c9,rfl,hc9,hC9,hb9⟩;have HC9:=hC9;have HB9:=zh (s4.trans (hb9.mono s4.size));clear hb9 hC9)
  go_ret2
  exact ⟨A9,c9,rfl,hc9,HC9,HB9.out⟩
end
end Go.Proofs.YtekooapbdgippaaGreatDoor.Q
