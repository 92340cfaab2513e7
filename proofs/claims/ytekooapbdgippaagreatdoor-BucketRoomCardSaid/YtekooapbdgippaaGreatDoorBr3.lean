/- BucketRoom holds for every input: a bucket never has more octets than may be; a version for which there is no room is refused. The conditions are those of the row: every bucket, key and data that the types of the program allow. Part 24 of 26. -/
import Derived.Test.YtekooapbdgippaaGreatDoorBr2
import Derived.Test.YtekooapbdgippaaGreatDoorBr1
import Derived.Maps.OwnSet
import Derived.Maps.RangeWalk
import Derived.Lib.BufferMore
import Derived.Lib.Bytealg
import Derived.MapKept
import Derived.Shelf.Abstract
namespace Go.Proofs.YtekooapbdgippaaGreatDoor.Q
open Go.RowKit Go.Proofs.YtekooapbdgippaaGreatDoorW.PrintWords Go.Proofs.YtekooapbdgippaaGreatDoorW.PrintLast Go.Proofs.YtekooapbdgippaaGreatDoorW.PrintMore
open List renaming getElem_toArray → zA, getElem_cons_zero → zB, getElem_cons_succ → zC, setIfInBounds_toArray → zD, set_cons_zero → zE, set_cons_succ → zF
set_option linter.unusedVariables false
set_option linter.unusedSimpArgs false
set_option maxHeartbeats 8000000
set_option maxRecDepth 100000
section
open Go.WideMaps Go.Maps
attribute [local go_sem] Oper.semAt_some
def idB (id : Int) (v : S47) : Bool:=v.f0 == id
def geB (id : Int) (v : S47) : Bool:=decide (id ≤ v.f0)
def delV (id : Int) (l : List S47) : List S47:=l.filter fun x=>!idB id x
theorem delV_len (id : Int) (l : List S47) : (delV id l).length ≤ l.length:=List.length_filter_le _ _
theorem find1.walk (x : S47) (id : Int) (b : Nat) (w : World) (h0 : w.cell? ⟨b,0,none⟩ = some (.int .u64 id)) :
  Calls Tryz.prog 160 #[.agg #[.int .u64 x.f0,.string x.f1,.bool x.f2,.int .i64 x.f3],.pointer (some ⟨b,0,none⟩)] w fun e w'=>e = .returned (.bool (idB id x)) ∧ Below w.heap.size w w':=by
 have HB0 : Hid (Below w.heap.size w w):=Below.refl _ _
 have e0:=World.new_ne w _ h0
 have hlt:=World.block_lt_of_cell? w _ h0
 obtain ⟨a,s,m,q⟩:=x
 go_enter Tryz.func160,Tryz.ntmps160
 go_wp2
 go_ret
 exact ⟨rfl,HB0.out.alloc (Nat.le_refl _) _⟩
theorem without1.walk (x : S47) (id : Int) (b : Nat) (w : World) (h0 : w.cell? ⟨b,0,none⟩ = some (.int .u64 id)) :
  Calls Tryz.prog 163 #[.agg #[.int .u64 x.f0,.string x.f1,.bool x.f2,.int .i64 x.f3],.pointer (some ⟨b,0,none⟩)] w fun e w'=>e = .returned (.bool (idB id x)) ∧ Below w.heap.size w w':=by
 have HB0 : Hid (Below w.heap.size w w):=Below.refl _ _
 have e0:=World.new_ne w _ h0
 have hlt:=World.block_lt_of_cell? w _ h0
 obtain ⟨a,s,m,q⟩:=x
 go_enter Tryz.func163,Tryz.ntmps163
 go_wp2
 go_ret
 exact ⟨rfl,HB0.out.alloc (Nat.le_refl _) _⟩
theorem ahead1.walk (x : S47) (id : Int) (b : Nat) (w : World) (h0 : w.cell? ⟨b,0,none⟩ = some (.int .u64 id)) :
  Calls Tryz.prog 149 #[.agg #[.int .u64 x.f0,.string x.f1,.bool x.f2,.int .i64 x.f3],.pointer (some ⟨b,0,none⟩)] w fun e w'=>e = .returned (.bool (geB id x)) ∧ Below w.heap.size w w':=by
 have HB0 : Hid (Below w.heap.size w w):=Below.refl _ _
 have e0:=World.new_ne w _ h0
 have hlt:=World.block_lt_of_cell? w _ h0
 obtain ⟨a,s,m,q⟩:=x
 go_enter Tryz.func149,Tryz.ntmps149
 go_wp2
 go_ret
 exact ⟨rfl,HB0.out.alloc (Nat.le_refl _) _⟩
theorem findV.walk (A : Option Addr) (c : Nat) (l : List S47) (id : Int) (w : World) (hr : Kd.C k47 w A l.length l) :
  Calls Tryz.prog 130 #[.slice A l.length c,.int .u64 id] w fun e w'=>e = .returned (.int .i64 (posI (l.findIdx? (idB id)))) ∧ Below w.heap.size w w':=by
 have HA:=zh ((Below.refl w.heap.size w).alloc (Nat.le_refl _) (.cells #[.int .u64 id] 24))
 have hnew:=blk_new w (.cells #[.int .u64 id] 24)
 have HI:=zh (idx_vs.walk 160 #[.pointer (some ⟨w.heap.size,0,none⟩)] A c l (idB id) (w.alloc (.cells #[.int .u64 id] 24)) (enters Tryz.func160 (by kernel_rfl) (by kernel_rfl)) (Kd.C_below hr HA.out)
  (fun k hk W hW=>find1.walk l[k] id w.heap.size W (keepc hW ((blk_cell hnew 0).trans rfl))))
 clear hr hnew
 generalize posI (l.findIdx? (idB id)) = r at HI ⊢
 go_enter Tryz.func130,Tryz.ntmps130
 go_wp2_with (go_at_call 159;refine HI.out.mono ?_;rintro e w1 ⟨rfl,hb⟩;have HB:=zh hb;clear hb)
 go_ret
 exact ⟨rfl,keepB HA HB.out⟩
theorem without.walk (A : Option Addr) (c : Nat) (l : List S47) (id : Int) (w : World) (hr : Kd.C k47 w A l.length l) (hn : l.length ≤ 1000) :
  Calls Tryz.prog 133 #[.slice A l.length c,.int .u64 id] w fun e w'=>∃ v,e = .returned v ∧ w'.ownsRow w.heap.size 47 4 v (delV id l).length (cells_v (delV id l)) ∧ Below w.heap.size w w':=by
 have HA:=zh ((Below.refl w.heap.size w).alloc (Nat.le_refl _) (.cells #[.int .u64 id] 24))
 have HN:=zh (blk_new w (.cells #[.int .u64 id] 24))
 have HCL:=zh (clone_vs.walk A c l (w.alloc (.cells #[.int .u64 id] 24)) (Kd.C_below hr HA.out) (by omega))
 have HSZ : Hid (w.heap.size < (w.alloc (.cells #[.int .u64 id] 24)).heap.size):=by unfold Hid;simp
 have HE:=zh (enters (P:=Tryz.prog) Tryz.func163 (by kernel_rfl) (by kernel_rfl))
 clear hr
 go_enter Tryz.func133,Tryz.ntmps133
 go_wp2_with (first
  | (go_at_call 150;refine HCL.out.mono ?_;rintro e w1 ⟨v,rows,rfl,hrows,hown,hb⟩;have HB1:=keepB HA hb;obtain rfl:=rows_v hrows;have HO1:=zh hown;have HBB:=zh hb;clear hrows hown hb)
  | (go_at_call 162;refine (deleteFunc_v.walk 163 #[.pointer (some ⟨w.heap.size,0,none⟩)] _ v l (idB id) w1 HO1.out HBB.out.size hn HE.out (fun x W hW=>without1.walk x id w.heap.size W ?hx)).mono ?_;(case hx=>(rw [hW.cell (p:=⟨w.heap.size,0,none⟩) HSZ.out,HBB.out.cell (p:=⟨w.heap.size,0,none⟩) HSZ.out];exact zj HN 0));rintro e w2 ⟨v2,rfl,hown2,hg2⟩;have HO2:=zh hown2;have HG2:=zh hg2;clear hown2 hg2))
 go_ret
 exact ⟨v2,rfl,own_weaken HO2.out (Nat.le_of_lt HSZ.out),HB1.out.grown HG2.out HB1.out.size (fun k hk=>Nat.le_of_lt (Nat.lt_of_lt_of_le HSZ.out (own_base HO1.out k hk)))⟩
/-- a slice of versions and an error's number -/
def VPost (l : List S47) (er : Int) (w : World) (e : Ending) (w' : World) : Prop:=∃ A c,e = .returned (.tuple #[.slice A l.length c,.int .i64 er]) ∧ l.length ≤ c ∧ Hid (Kd.C k47 w' A l.length l) ∧ Below w.heap.size w w'
theorem VPost.nil {er : Int} {w w' : World} (hb : Below w.heap.size w w') : VPost [] er w (.returned (.tuple #[.slice none 0 0,.int .i64 er])) w':=⟨none,0,rfl,Nat.le_refl _,C_mt _ _ _,hb⟩
theorem VPost.own {l : List S47} {er : Int} {w w' : World} {v : Value} {n base : Nat} {cs : List Value} (h : w'.ownsRow base 47 4 v n cs) (hn : n = l.length) (hc : cs = cells_v l) (hl : l.length ≤ 1000000) (hb : Below w.heap.size w w') : VPost l er w (.returned (.tuple #[v,.int .i64 er])) w':=by
 subst hn;subst hc
 obtain ⟨A,c,rfl,h1,h2⟩:=own_v h hl
 exact ⟨A,c,rfl,h1,h2,hb⟩
theorem insAt0 (xs c : List Value) : insAt_v xs 0 c = c ++ xs:=by unfold insAt_v;simp
theorem over.walk (A : Option Addr) (c : Nat) (l : List S47) (x : S47) (w : World) (hr : Kd.C k47 w A l.length l) (hn : l.length ≤ 999) :
  Calls Tryz.prog 107 #[.slice A l.length c,.agg #[.int .u64 x.f0,.string x.f1,.bool x.f2,.int .i64 x.f3]] w (VPost (⟨0,x.f1,x.f2,x.f3⟩ :: delV 0 l) 0 w):=by
 have HR:=zh hr;clear hr
 have hdl:=delV_len 0 l
 go_enter Tryz.func107,Tryz.ntmps107
 go_wp2_with (first
  | ((with_reducible refine gate_dst (N:=3) rfl ?_);go_must (refine zbx 3 #[.int .u64 x.f0,.string x.f1,.bool x.f2,.int .i64 x.f3] 47 ?_;intro gx hgx w1 hb1 hbel1;have KX:=zh hb1;have HB1:=zh hbel1;have GX:=zh hgx;clear hb1 hbel1 hgx))
  | ((with_reducible refine gate_store (t:=24) (p:=6) (v:=.const (.int .u64 0)) rfl ?_);go_must (refine wpList_store_row rfl rfl 24 (.tmp 6) _ rfl gx 0 _ 47 (.int .u64 0) [.int .u64 0] rfl rfl KX.out rfl (by kernel_rfl) (by show 0 + 1 ≤ 4;decide) (by simp [Value.oneCell']) ?_;intro wr KX2 HOX)))
 have KR : Hid (wr.drew.heap[gx]? = some (.cells #[.int .u64 0,.string x.f1,.bool x.f2,.int .i64 x.f3] 47 (0,0))):=blk_drew KX2.out
 have HBR : Hid (Below w.heap.size w wr.drew):=(HOX.out.below HB1.out HB1.out.size (by rw [GX.out];exact Nat.le_refl _)).drew
 clear KX2 HOX HB1 KX GX
 refine wp_region_held_drew (S:=fun W=>W.cell? ⟨gx,0,none⟩ = some (.int .u64 0) ∧ W.cell? ⟨gx,1,none⟩ = some (.string x.f1) ∧ W.cell? ⟨gx,2,none⟩ = some (.bool x.f2) ∧ W.cell? ⟨gx,3,none⟩ = some (.int .i64 x.f3) ∧ Below w.heap.size w W) (by kernel_rfl) ?_ (fun hHeld=>?_)
 ·exact ⟨zj KR 0,zj KR 1,zj KR 2,zj KR 3,HBR.out⟩
 clear KR HBR
 generalize wr.drew = w7 at hHeld ⊢
 refine zt 0 ?_;try simp only [zN];refine zt 2 ?_;try simp only [zN]
 refine wpAnyH_ready (rs:=[1,3]) (by kernel_rfl) (by simp) ?_
 refine AllReadyH.cons (o:=_) rfl (fun K hK=>?_) (AllReadyH.cons (o:=_) rfl (fun K hK=>?_) AllReadyH.nil)
 ·skip
  rw [if_pos (by rfl)]
  go_simp
  obtain ⟨s0,s1,s2,s3,s4⟩:=hHeld
  refine (without.walk A c l 0 _ (Kd.C_below HR.out s4) (by omega)).mono ?_
  rintro e8 w8 ⟨v8,rfl,hu8,hb8⟩
  have HU:=zh hu8
  have HUB:=zh s4.size
  have HNE : Hid (some gx ≠ v8.ownBlock):=fun e=>by have h1:=own_base hu8 _ e.symm;have h2:=World.block_lt_of_cell? _ _ s0;simp at h1 h2;omega
  clear hu8
  refine hK.out _ _ ⟨keepc hb8 s0,keepc hb8 s1,keepc hb8 s2,keepc hb8 s3,s4.trans (hb8.mono s4.size)⟩ (fun hHeld=>?_)
  clear hK K hb8 s0 s1 s2 s3 s4
  try simp only [zN]
  refine wpAnyH_ready (rs:=[3]) (by kernel_rfl) (by simp) ?_
  refine AllReadyH.cons (o:=_) rfl (fun K hK=>?_) AllReadyH.nil
  rw [if_pos (by rfl)]
  go_simp
  obtain ⟨s0,s1,s2,s3,s4⟩:=hHeld
  have HAL:=zh ((Below.refl w8.heap.size w8).alloc (Nat.le_refl _) (.cells #[.int .u64 0,.string x.f1,.bool x.f2,.int .i64 x.f3] 47))
  have hb8:=HAL.out
  have HSS:=zh (⟨keepc hb8 s0,keepc hb8 s1,keepc hb8 s2,keepc hb8 s3,s4.trans (hb8.mono s4.size)⟩ : (_ ∧ _ ∧ _ ∧ _ ∧ _))
  have KB:=zh (blk_new w8 (.cells #[.int .u64 0,.string x.f1,.bool x.f2,.int .i64 x.f3] 47))
  clear hb8 s0 s1 s2 s3 s4
  generalize hw9 : w8.alloc (.cells #[.int .u64 0,.string x.f1,.bool x.f2,.int .i64 x.f3] 47) = w9 at KB HSS HAL ⊢
  generalize hg9 : w8.heap.size = g9 at *
  clear hw9
  refine hK.out _ _ HSS.out (fun hHeld=>?_)
  clear hK K HSS
  try simp only [zN]
  refine wpAnyH_ready (rs:=[4]) (by kernel_rfl) (by simp) ?_
  refine AllReadyH.cons (o:=_) rfl (fun K hK=>?_) AllReadyH.nil
  rw [if_pos (by rfl)]
  go_simp
  obtain ⟨s0,s1,s2,s3,s4⟩:=hHeld
  first
   | (refine (insert_v.walk w.heap.size (delV 0 l).length 0 _ _ g9 0 x.f1 x.f2 x.f3 _ (own_weaken (own_move HU.out (fun k hk=>HAL.out.block k (by have:=own_lt HU.out k hk;omega))) HUB.out) s4.size (Nat.zero_le _) (by omega) (cells_v_one _) KB.out (fun e=>by have:=own_lt HU.out _ e;omega)).mono ?_)
   | (refine (insert_v.walk w.heap.size (delV 0 l).length 0 _ _ g9 0 x.f1 x.f2 x.f3 _ (own_weaken (HU.out) HUB.out) s4.size (Nat.zero_le _) (by omega) (cells_v_one _) KB2.out (fun e=>by have:=own_base HU.out _ e;have:=KL2.out;omega)).mono ?_)
  rintro e8 w10 ⟨v10,rfl,hown,hg⟩
  have HO10:=zh hown
  have HB10:=zh (s4.grown hg s4.size (fun k hk=>Nat.le_trans HUB.out (own_base HU.out k hk)))
  refine hK.out _ _ ⟨grown_cell hg HNE.out s0,grown_cell hg HNE.out s1,grown_cell hg HNE.out s2,grown_cell hg HNE.out s3,HB10.out⟩ (fun hHeld=>?_)
  clear hK K hown hg s0 s1 s2 s3 s4
  try simp only [zN]
  refine zt 5 ?_;try simp only [zN];refine zt 6 ?_;try simp only [zN]
  refine wpAnyH_done (by kernel_rfl) ?_ _
  go_wp2
  go_ret2
  exact VPost.own HO10.out (by simp) (by rw [insAt0];rfl) (by simp;omega) HB10.out
 ·skip
  rw [if_pos (by rfl)]
  go_simp
  obtain ⟨s0,s1,s2,s3,s4⟩:=hHeld
  have HAL:=zh ((Below.refl w7.heap.size w7).alloc (Nat.le_refl _) (.cells #[.int .u64 0,.string x.f1,.bool x.f2,.int .i64 x.f3] 47))
  have hb8:=HAL.out
  have HSS:=zh (⟨keepc hb8 s0,keepc hb8 s1,keepc hb8 s2,keepc hb8 s3,s4.trans (hb8.mono s4.size)⟩ : (_ ∧ _ ∧ _ ∧ _ ∧ _))
  have KB:=zh (blk_new w7 (.cells #[.int .u64 0,.string x.f1,.bool x.f2,.int .i64 x.f3] 47))
  clear hb8 s0 s1 s2 s3 s4
  generalize hw9 : w7.alloc (.cells #[.int .u64 0,.string x.f1,.bool x.f2,.int .i64 x.f3] 47) = w9 at KB HSS HAL ⊢
  generalize hg9 : w7.heap.size = g9 at *
  clear hw9
  refine hK.out _ _ HSS.out (fun hHeld=>?_)
  clear hK K HSS
  try simp only [zN]
  refine wpAnyH_ready (rs:=[1]) (by kernel_rfl) (by simp) ?_
  refine AllReadyH.cons (o:=_) rfl (fun K hK=>?_) AllReadyH.nil
  rw [if_pos (by rfl)]
  go_simp
  obtain ⟨s0,s1,s2,s3,s4⟩:=hHeld
  refine (without.walk A c l 0 _ (Kd.C_below HR.out s4) (by omega)).mono ?_
  rintro e8 w8 ⟨v8,rfl,hu8,hb8⟩
  have HU:=zh hu8
  have HUB:=zh s4.size
  have HNE : Hid (some gx ≠ v8.ownBlock):=fun e=>by have h1:=own_base hu8 _ e.symm;have h2:=World.block_lt_of_cell? _ _ s0;simp at h1 h2;omega
  clear hu8
  have KB2:=zk KB hb8
  have KL2:=zh (blk_lt KB.out)
  refine hK.out _ _ ⟨keepc hb8 s0,keepc hb8 s1,keepc hb8 s2,keepc hb8 s3,s4.trans (hb8.mono s4.size)⟩ (fun hHeld=>?_)
  clear hK K hb8 s0 s1 s2 s3 s4
  try simp only [zN]
  refine wpAnyH_ready (rs:=[4]) (by kernel_rfl) (by simp) ?_
  refine AllReadyH.cons (o:=_) rfl (fun K hK=>?_) AllReadyH.nil
  rw [if_pos (by rfl)]
  go_simp
  obtain ⟨s0,s1,s2,s3,s4⟩:=hHeld
  first
   | (refine (insert_v.walk w.heap.size (delV 0 l).length 0 _ _ g9 0 x.f1 x.f2 x.f3 _ (own_weaken (own_move HU.out (fun k hk=>HAL.out.block k (by have:=own_lt HU.out k hk;omega))) HUB.out) s4.size (Nat.zero_le _) (by omega) (cells_v_one _) KB.out (fun e=>by have:=own_lt HU.out _ e;omega)).mono ?_)
   | (refine (insert_v.walk w.heap.size (delV 0 l).length 0 _ _ g9 0 x.f1 x.f2 x.f3 _ (own_weaken (HU.out) HUB.out) s4.size (Nat.zero_le _) (by omega) (cells_v_one _) KB2.out (fun e=>by have:=own_base HU.out _ e;have:=KL2.out;omega)).mono ?_)
  rintro e8 w10 ⟨v10,rfl,hown,hg⟩
  have HO10:=zh hown
  have HB10:=zh (s4.grown hg s4.size (fun k hk=>Nat.le_trans HUB.out (own_base HU.out k hk)))
  refine hK.out _ _ ⟨grown_cell hg HNE.out s0,grown_cell hg HNE.out s1,grown_cell hg HNE.out s2,grown_cell hg HNE.out s3,HB10.out⟩ (fun hHeld=>?_)
  clear hK K hown hg s0 s1 s2 s3 s4
  try simp only [zN]
  refine zt 5 ?_;try simp only [zN];refine zt 6 ?_;try simp only [zN]
  refine wpAnyH_done (by kernel_rfl) ?_ _
  go_wp2
  go_ret2
  exact VPost.own HO10.out (by simp) (by rw [insAt0];rfl) (by simp;omega) HB10.out
theorem ahead_ok.walk (A : Option Addr) (c : Nat) (l : List S47) (x : S47) (w : World) (hr : Kd.C k47 w A l.length l) (hn : l.length ≤ 999) (h0 : (x.f0 == 0) = false) (h1 : l.any (geB x.f0) = false) :
  Calls Tryz.prog 108 #[.slice A l.length c,.agg #[.int .u64 x.f0,.string x.f1,.bool x.f2,.int .i64 x.f3]] w (VPost (x :: l) 0 w):=by
 have HR:=zh hr;clear hr
 have HC:=zh (fun (gx : Nat) (W : World) (hb : Below w.heap.size w W) (h0 : W.cell? ⟨gx,0,none⟩ = some (.int .u64 x.f0))=>cont_vs.walk 149 #[.pointer (some ⟨gx,0,none⟩)] A c l (geB x.f0) W (enters Tryz.func149 (by kernel_rfl) (by kernel_rfl)) (Kd.C_below HR.out hb)
  (fun k hk W' hW'=>ahead1.walk l[k] x.f0 gx W' (keepc hW' h0)))
 rw [h1] at HC
 have HCL : Hid (∀ W,Below w.heap.size w W → Calls Tryz.prog 150 #[.slice A l.length c] W fun e w'=>∃ v,e = .returned v ∧ w'.ownsRow W.heap.size 47 4 v l.length (cells_v l) ∧ Below W.heap.size W w'):=fun W hb=>by
  refine (clone_vs.walk A c l W (Kd.C_below HR.out hb) (by omega)).mono ?_
  rintro e w1 ⟨v,rows,rfl,hrows,hown,hb⟩
  obtain rfl:=rows_v hrows
  exact ⟨v,rfl,hown,hb⟩
 clear h1
 go_enter Tryz.func108,Tryz.ntmps108
 go_wp2_with (first
  | (((with_reducible refine gate_dst (N:=3) rfl ?_);go_must (refine zbx 3 #[.int .u64 x.f0,.string x.f1,.bool x.f2,.int .i64 x.f3] 47 ?_;intro gx hgx w1 hb1 hbel1;have KX:=zh hb1;have HB1:=zh hbel1;have GX:=zh hgx;clear hb1 hbel1 hgx));have d0:=zb KX.out 0 (.int .u64 x.f0))
  | (go_at_call 148;go_must (refine (HC.out gx w1 HB1.out d0).mono ?_;rintro e wr ⟨rfl,hb⟩;have KR:=zh (blk_drew (blk_below KX.out hb));have HBR:=zh ((keepB HB1 hb).out.drew);clear hb)))
 clear HC d0 KX HB1 GX HR
 refine wp_region_held_drew (S:=fun W=>W.cell? ⟨gx,0,none⟩ = some (.int .u64 x.f0) ∧ W.cell? ⟨gx,1,none⟩ = some (.string x.f1) ∧ W.cell? ⟨gx,2,none⟩ = some (.bool x.f2) ∧ W.cell? ⟨gx,3,none⟩ = some (.int .i64 x.f3) ∧ Below w.heap.size w W) (by kernel_rfl) ?_ (fun hHeld=>?_)
 ·exact ⟨zj KR 0,zj KR 1,zj KR 2,zj KR 3,HBR.out⟩
 clear KR HBR
 generalize wr.drew = w7 at hHeld ⊢
 refine zt 0 ?_;try simp only [zN];refine zt 2 ?_;try simp only [zN]
 refine wpAnyH_ready (rs:=[1,3]) (by kernel_rfl) (by simp) ?_
 refine AllReadyH.cons (o:=_) rfl (fun K hK=>?_) (AllReadyH.cons (o:=_) rfl (fun K hK=>?_) AllReadyH.nil)
 ·skip
  rw [if_pos (by rfl)]
  go_simp
  obtain ⟨s0,s1,s2,s3,s4⟩:=hHeld
  refine (HCL.out _ s4).mono ?_
  rintro e8 w8 ⟨v8,rfl,hu8,hb8⟩
  have HU:=zh hu8
  have HUB:=zh s4.size
  have HNE : Hid (some gx ≠ v8.ownBlock):=fun e=>by have h1:=own_base hu8 _ e.symm;have h2:=World.block_lt_of_cell? _ _ s0;simp at h1 h2;omega
  clear hu8
  refine hK.out _ _ ⟨keepc hb8 s0,keepc hb8 s1,keepc hb8 s2,keepc hb8 s3,s4.trans (hb8.mono s4.size)⟩ (fun hHeld=>?_)
  clear hK K hb8 s0 s1 s2 s3 s4
  try simp only [zN]
  refine wpAnyH_ready (rs:=[3]) (by kernel_rfl) (by simp) ?_
  refine AllReadyH.cons (o:=_) rfl (fun K hK=>?_) AllReadyH.nil
  rw [if_pos (by rfl)]
  go_simp
  obtain ⟨s0,s1,s2,s3,s4⟩:=hHeld
  have HAL:=zh ((Below.refl w8.heap.size w8).alloc (Nat.le_refl _) (.cells #[.int .u64 x.f0,.string x.f1,.bool x.f2,.int .i64 x.f3] 47))
  have hb8:=HAL.out
  have HSS:=zh (⟨keepc hb8 s0,keepc hb8 s1,keepc hb8 s2,keepc hb8 s3,s4.trans (hb8.mono s4.size)⟩ : (_ ∧ _ ∧ _ ∧ _ ∧ _))
  have KB:=zh (blk_new w8 (.cells #[.int .u64 x.f0,.string x.f1,.bool x.f2,.int .i64 x.f3] 47))
  clear hb8 s0 s1 s2 s3 s4
  generalize hw9 : w8.alloc (.cells #[.int .u64 x.f0,.string x.f1,.bool x.f2,.int .i64 x.f3] 47) = w9 at KB HSS HAL ⊢
  generalize hg9 : w8.heap.size = g9 at *
  clear hw9
  refine hK.out _ _ HSS.out (fun hHeld=>?_)
  clear hK K HSS
  try simp only [zN]
  refine wpAnyH_ready (rs:=[4]) (by kernel_rfl) (by simp) ?_
  refine AllReadyH.cons (o:=_) rfl (fun K hK=>?_) AllReadyH.nil
  rw [if_pos (by rfl)]
  go_simp
  obtain ⟨s0,s1,s2,s3,s4⟩:=hHeld
  first
   | (refine (insert_v.walk w.heap.size l.length 0 _ _ g9 x.f0 x.f1 x.f2 x.f3 _ (own_weaken (own_move HU.out (fun k hk=>HAL.out.block k (by have:=own_lt HU.out k hk;omega))) HUB.out) s4.size (Nat.zero_le _) (by omega) (cells_v_one _) KB.out (fun e=>by have:=own_lt HU.out _ e;omega)).mono ?_)
   | (refine (insert_v.walk w.heap.size l.length 0 _ _ g9 x.f0 x.f1 x.f2 x.f3 _ (own_weaken (HU.out) HUB.out) s4.size (Nat.zero_le _) (by omega) (cells_v_one _) KB2.out (fun e=>by have:=own_base HU.out _ e;have:=KL2.out;omega)).mono ?_)
  rintro e8 w10 ⟨v10,rfl,hown,hg⟩
  have HO10:=zh hown
  have HB10:=zh (s4.grown hg s4.size (fun k hk=>Nat.le_trans HUB.out (own_base HU.out k hk)))
  refine hK.out _ _ ⟨grown_cell hg HNE.out s0,grown_cell hg HNE.out s1,grown_cell hg HNE.out s2,grown_cell hg HNE.out s3,HB10.out⟩ (fun hHeld=>?_)
  clear hK K hown hg s0 s1 s2 s3 s4
  try simp only [zN]
  refine zt 5 ?_;try simp only [zN];refine zt 6 ?_;try simp only [zN]
  refine wpAnyH_done (by kernel_rfl) ?_ _
  go_wp2
  go_ret2
  exact VPost.own HO10.out (by simp) (by rw [insAt0];rfl) (by simp;omega) HB10.out
 ·skip
  rw [if_pos (by rfl)]
  go_simp
  obtain ⟨s0,s1,s2,s3,s4⟩:=hHeld
  have HAL:=zh ((Below.refl w7.heap.size w7).alloc (Nat.le_refl _) (.cells #[.int .u64 x.f0,.string x.f1,.bool x.f2,.int .i64 x.f3] 47))
  have hb8:=HAL.out
  have HSS:=zh (⟨keepc hb8 s0,keepc hb8 s1,keepc hb8 s2,keepc hb8 s3,s4.trans (hb8.mono s4.size)⟩ : (_ ∧ _ ∧ _ ∧ _ ∧ _))
  have KB:=zh (blk_new w7 (.cells #[.int .u64 x.f0,.string x.f1,.bool x.f2,.int .i64 x.f3] 47))
  clear hb8 s0 s1 s2 s3 s4
  generalize hw9 : w7.alloc (.cells #[.int .u64 x.f0,.string x.f1,.bool x.f2,.int .i64 x.f3] 47) = w9 at KB HSS HAL ⊢
  generalize hg9 : w7.heap.size = g9 at *
  clear hw9
  refine hK.out _ _ HSS.out (fun hHeld=>?_)
  clear hK K HSS
  try simp only [zN]
  refine wpAnyH_ready (rs:=[1]) (by kernel_rfl) (by simp) ?_
  refine AllReadyH.cons (o:=_) rfl (fun K hK=>?_) AllReadyH.nil
  rw [if_pos (by rfl)]
  go_simp
  obtain ⟨s0,s1,s2,s3,s4⟩:=hHeld
  refine (HCL.out _ s4).mono ?_
  rintro e8 w8 ⟨v8,rfl,hu8,hb8⟩
  have HU:=zh hu8
  have HUB:=zh s4.size
  have HNE : Hid (some gx ≠ v8.ownBlock):=fun e=>by have h1:=own_base hu8 _ e.symm;have h2:=World.block_lt_of_cell? _ _ s0;simp at h1 h2;omega
  clear hu8
  have KB2:=zk KB hb8
  have KL2:=zh (blk_lt KB.out)
  refine hK.out _ _ ⟨keepc hb8 s0,keepc hb8 s1,keepc hb8 s2,keepc hb8 s3,s4.trans (hb8.mono s4.size)⟩ (fun hHeld=>?_)
  clear hK K hb8 s0 s1 s2 s3 s4
  try simp only [zN]
  refine wpAnyH_ready (rs:=[4]) (by kernel_rfl) (by simp) ?_
  refine AllReadyH.cons (o:=_) rfl (fun K hK=>?_) AllReadyH.nil
  rw [if_pos (by rfl)]
  go_simp
  obtain ⟨s0,s1,s2,s3,s4⟩:=hHeld
  first
   | (refine (insert_v.walk w.heap.size l.length 0 _ _ g9 x.f0 x.f1 x.f2 x.f3 _ (own_weaken (own_move HU.out (fun k hk=>HAL.out.block k (by have:=own_lt HU.out k hk;omega))) HUB.out) s4.size (Nat.zero_le _) (by omega) (cells_v_one _) KB.out (fun e=>by have:=own_lt HU.out _ e;omega)).mono ?_)
   | (refine (insert_v.walk w.heap.size l.length 0 _ _ g9 x.f0 x.f1 x.f2 x.f3 _ (own_weaken (HU.out) HUB.out) s4.size (Nat.zero_le _) (by omega) (cells_v_one _) KB2.out (fun e=>by have:=own_base HU.out _ e;have:=KL2.out;omega)).mono ?_)
  rintro e8 w10 ⟨v10,rfl,hown,hg⟩
  have HO10:=zh hown
  have HB10:=zh (s4.grown hg s4.size (fun k hk=>Nat.le_trans HUB.out (own_base HU.out k hk)))
  refine hK.out _ _ ⟨grown_cell hg HNE.out s0,grown_cell hg HNE.out s1,grown_cell hg HNE.out s2,grown_cell hg HNE.out s3,HB10.out⟩ (fun hHeld=>?_)
  clear hK K hown hg s0 s1 s2 s3 s4
  try simp only [zN]
  refine zt 5 ?_;try simp only [zN];refine zt 6 ?_;try simp only [zN]
  refine wpAnyH_done (by kernel_rfl) ?_ _
  go_wp2
  go_ret2
  exact VPost.own HO10.out (by simp) (by rw [insAt0];rfl) (by simp;omega) HB10.out
theorem ahead_no.walk (A : Option Addr) (c : Nat) (l : List S47) (x : S47) (w : World) (hr : Kd.C k47 w A l.length l) (er : Int) (h : (x.f0 == 0) = true ∧ er = 1 ∨ (x.f0 == 0) = false ∧ l.any (geB x.f0) = true ∧ er = 9) :
  Calls Tryz.prog 108 #[.slice A l.length c,.agg #[.int .u64 x.f0,.string x.f1,.bool x.f2,.int .i64 x.f3]] w (VPost [] er w):=by
 have HR:=zh hr;clear hr
 have HC:=zh (fun (gx : Nat) (W : World) (hb : Below w.heap.size w W) (h0 : W.cell? ⟨gx,0,none⟩ = some (.int .u64 x.f0))=>cont_vs.walk 149 #[.pointer (some ⟨gx,0,none⟩)] A c l (geB x.f0) W (enters Tryz.func149 (by kernel_rfl) (by kernel_rfl)) (Kd.C_below HR.out hb)
  (fun k hk W' hW'=>ahead1.walk l[k] x.f0 gx W' (keepc hW' h0)))
 rcases h with ⟨h0,rfl⟩ | ⟨h0,h1,rfl⟩
 ·clear HC HR
  go_enter Tryz.func108,Tryz.ntmps108
  go_wp2_with (((with_reducible refine gate_dst (N:=3) rfl ?_);go_must (refine zbx 3 #[.int .u64 x.f0,.string x.f1,.bool x.f2,.int .i64 x.f3] 47 ?_;intro gx hgx w1 hb1 hbel1;have KX:=zh hb1;have HB1:=zh hbel1;have GX:=zh hgx;clear hb1 hbel1 hgx));have d0:=zb KX.out 0 (.int .u64 x.f0))
  go_ret2
  exact VPost.nil HB1.out
 ·rw [h1] at HC
  clear h1 HR
  go_enter Tryz.func108,Tryz.ntmps108
  go_wp2_with (first
  | (((with_reducible refine gate_dst (N:=3) rfl ?_);go_must (refine zbx 3 #[.int .u64 x.f0,.string x.f1,.bool x.f2,.int .i64 x.f3] 47 ?_;intro gx hgx w1 hb1 hbel1;have KX:=zh hb1;have HB1:=zh hbel1;have GX:=zh hgx;clear hb1 hbel1 hgx));have d0:=zb KX.out 0 (.int .u64 x.f0))
   | (go_at_call 148;go_must (refine (HC.out gx w1 HB1.out d0).mono ?_;rintro e wr ⟨rfl,hb⟩;have HBR:=keepB HB1 hb;clear hb)))
  go_ret2
  exact VPost.nil HBR.out
def layV (st : Int) (l : List S47) (x : S47) : List S47 × Int :=
 if st = 1 then (if (x.f0 == 0) = true then ([],1) else if l.any (geB x.f0) = true then ([],9) else (x :: l,0)) else (⟨0,x.f1,x.f2,x.f3⟩ :: delV 0 l,0)
theorem ahead.walk (A : Option Addr) (c : Nat) (l : List S47) (x : S47) (w : World) (hr : Kd.C k47 w A l.length l) (hn : l.length ≤ 999) :
  Calls Tryz.prog 108 #[.slice A l.length c,.agg #[.int .u64 x.f0,.string x.f1,.bool x.f2,.int .i64 x.f3]] w (VPost (layV 1 l x).1 (layV 1 l x).2 w):=by
 unfold layV
 rw [if_pos rfl]
 cases h0 : (x.f0 == 0)
 ·rw [if_neg (by simp)]
  cases h1 : l.any (geB x.f0)
  ·rw [if_neg (by simp)];exact ahead_ok.walk A c l x w hr hn h0 h1
  ·rw [if_pos rfl];exact ahead_no.walk A c l x w hr 9 (Or.inr ⟨h0,h1,rfl⟩)
 ·rw [if_pos rfl];exact ahead_no.walk A c l x w hr 1 (Or.inl ⟨h0,rfl⟩)
end
section
open Go.WideMaps Go.Maps
section
variable {P : Program} {W : World} {ops : Array Oper} {rest : List Oper} {o : Oper} {a : Act} {Q : Exit → Act → World → Prop}
theorem lit_event (hgd : o.guard = none) {N : Tmp} (_hd : o.dst = some N) {cs : Array Value} {t : TypeId} (n : Nat)
  (hrun : (execOp a.eval o).run P W = .ok (.value (.slice (some ⟨W.heap.size,0,none⟩) n n)) (W.alloc (.cells cs t (0,0))))
  (h : ∀ g,g = W.heap.size → ∀ w1,w1.heap[g]? = some (.cells cs t (0,0)) → Below W.heap.size W w1 → wpList P ops Q rest (a.put o.dst (.slice (some ⟨g,0,none⟩) n n)) w1) : wpList P ops Q (o :: rest) a W :=
 Kd.event_run hgd hrun (h _ rfl _ (blk_new W _) (below_alloc (Below.refl _ _) _))
end
theorem chain_le {l : List S47} (h : chainB l = true) : l.length ≤ 20:=by
 unfold chainB at h
 simp only [Bool.and_eq_true,decide_eq_true_eq] at h
 exact h.1
def eqK (key : ByteArray) (x : S56) : Bool:=x.f0.toList == key.toList
def ltK (key : ByteArray) (x : S56) : Bool:=Op.bytesLess x.f0.toList key.toList
def lessN (l : List S56) (key : ByteArray) : Nat:=(l.filter (ltK key)).length
def getE (l : List S56) (key : ByteArray) : List S47:=match l.findIdx? (eqK key) with | some i=>(l.getD i z56).f1 | none=>[]
theorem bless_irr : ∀ l : List UInt8,Op.bytesLess l l = false
 | []=>rfl
 | a :: l=>by unfold Op.bytesLess;simp [bless_irr l]
theorem less_le (l : List S56) (key : ByteArray) : lessN l key ≤ l.length:=List.length_filter_le _ _
theorem less_lt (l : List S56) (key : ByteArray) (h : l.any (eqK key) = true) : lessN l key < l.length:=by
 obtain ⟨x,hx,he⟩:=List.any_eq_true.1 h
 unfold lessN
 rcases Nat.eq_or_lt_of_le (List.length_filter_le (ltK key) l) with h1 | h1
 ·have:=(List.length_filter_eq_length_iff.1 h1) x hx
  unfold eqK at he
  unfold ltK at this
  rw [beq_iff_eq.1 he,bless_irr] at this
  cases this
 ·exact h1
theorem idx_e.walk (f : Nat) (cb : Array Value) (A : Option Addr) (c : Nat) (l : List S56) (p : S56 → Bool) (w : World) (eg : ∀ args w,(callFunc f args).run Tryz.prog w = .ok (.enter f args) w) (hr : Kd.C k56 w A l.length l) (HC : ∀ (k : Nat) (hk : k < l.length) (W : World) (A1 : Option Addr) (c1 : Nat),Below w.heap.size w W → l[k].f1.length ≤ c1 → Kd.C k47 W A1 l[k].f1.length l[k].f1 → Calls Tryz.prog f (#[.agg #[.string l[k].f0,.slice A1 l[k].f1.length c1]] ++ cb) W fun e w'=>e = .returned (.bool (p l[k])) ∧ Below W.heap.size W w') :
  Calls Tryz.prog 145 #[.slice A l.length c,.func (.func f) #[] cb] w fun e w'=>e = .returned (.int .i64 (posI (l.findIdx? p))) ∧ Below w.heap.size w w':=by
 have HR:=zh hr
 have hlen : (l.length : Int) ≤ 9223372036854775807:=by have:=hr.2.1;omega
 have HC:=zh HC
 clear hr
 have HB0 : Hid (Below w.heap.size w w):=Below.refl _ _
 go_enter Tryz.func145,Tryz.ntmps145
 go_wp2
 go_loopw [5,8] (fun _ i wr=>∃ (k : Nat),i = .int .i64 k ∧ k ≤ l.length ∧ Hid (∀ j (hj : j < k) (hl : j < l.length),p l[j] = false) ∧ Hid (Below w.heap.size w wr)) (fun _ i _=>l.length - (intOf i).toNat)
 case atStart=>exact ⟨0,rfl,Nat.zero_le _,fun j hj=>absurd hj (Nat.not_lt_zero _),HB0⟩
 case round =>
  obtain ⟨k,rfl,hk,hall,hb⟩:=hrel
  by_cases hlt : k < l.length
  ·obtain ⟨ad,A1,c1,e',hc0,hc1,hl1,hC1⟩:=atEntry HR.out hb.out k hlt
   subst e'
   have HX:=zh (HC.out k hlt wr A1 c1 hb.out hl1 hC1)
   have HCC1:=zh hC1;clear hC1
   cases hp : p l[k]
   ·have hn : Hid (∀ j (hj : j < k + 1) (hl : j < l.length),p l[j] = false):=fun j hj hl=>by
     rcases Nat.eq_or_lt_of_le (Nat.le_of_lt_succ hj) with rfl | h
     ·exact hp
     ·exact hall.out j h hl
    rw [hp] at HX
    clear hp
    go_wp2_with (refine HX.out.mono ?_;rintro e w1 ⟨rfl,hb1⟩;have HB1:=zh hb1;clear hb1)
    go_roundw
    case rel=>exact ⟨k + 1,by go_num,by omega,hn,keepB hb HB1.out⟩
    case measure=>simp [intOf];omega
   ·have hn : Hid (l.findIdx? p = some k):=by
     unfold Hid
     rw [List.findIdx?_eq_some_iff_getElem]
     exact ⟨hlt,hp,fun j hj=>by rw [hall.out j hj (by omega)];simp⟩
    rw [hp] at HX
    clear hp
    go_wp2_with (refine HX.out.mono ?_;rintro e w1 ⟨rfl,hb1⟩;have HB1:=zh hb1;clear hb1)
    go_ret
    exact ⟨by rw [hn.out];rfl,keepB hb HB1.out⟩
  ·have hn : Hid (l.findIdx? p = none):=by
    unfold Hid
    rw [List.findIdx?_eq_none_iff]
    intro u hu
    obtain ⟨j,hj,rfl⟩:=List.getElem_of_mem hu
    exact hall.out j (by omega) hj
   go_wp2
   go_ret
   exact ⟨by rw [hn.out];rfl,hb.out⟩
theorem findE1.walk (x : S56) (A1 : Option Addr) (c1 : Nat) (key : ByteArray) (b : Nat) (w : World) (h0 : w.cell? ⟨b,0,none⟩ = some (.string key)) :
  Calls Tryz.prog 146 #[.agg #[.string x.f0,.slice A1 x.f1.length c1],.pointer (some ⟨b,0,none⟩)] w fun e w'=>e = .returned (.bool (eqK key x)) ∧ Below w.heap.size w w':=by
 have HB0 : Hid (Below w.heap.size w w):=Below.refl _ _
 have e0:=World.new_ne w _ h0
 have hlt:=World.block_lt_of_cell? w _ h0
 go_enter Tryz.func146,Tryz.ntmps146
 go_wp2
 go_ret
 exact ⟨rfl,HB0.out.alloc (Nat.le_refl _) _⟩
theorem findE.walk (A : Option Addr) (c : Nat) (l : List S56) (key : ByteArray) (w : World) (hr : Kd.C k56 w A l.length l) :
  Calls Tryz.prog 104 #[.slice A l.length c,.string key] w fun e w'=>e = .returned (.int .i64 (posI (l.findIdx? (eqK key)))) ∧ Below w.heap.size w w':=by
 have HA:=zh ((Below.refl w.heap.size w).alloc (Nat.le_refl _) (.cells #[.string key] 9))
 have hnew:=blk_new w (.cells #[.string key] 9)
 have HI:=zh (idx_e.walk 146 #[.pointer (some ⟨w.heap.size,0,none⟩)] A c l (eqK key) (w.alloc (.cells #[.string key] 9)) (enters Tryz.func146 (by kernel_rfl) (by kernel_rfl)) (Kd.C_below hr HA.out)
  (fun k hk W A1 c1 hW _ _=>findE1.walk l[k] A1 c1 key w.heap.size W (keepc hW ((blk_cell hnew 0).trans rfl))))
 clear hr hnew
 generalize posI (l.findIdx? (eqK key)) = r at HI ⊢
 go_enter Tryz.func104,Tryz.ntmps104
 go_wp2_with (go_at_call 145;refine HI.out.mono ?_;rintro e w1 ⟨rfl,hb⟩;have HB:=zh hb;clear hb)
 go_ret
 exact ⟨rfl,keepB HA HB.out⟩
theorem lessE.walk (A : Option Addr) (c : Nat) (l : List S56) (key : ByteArray) (w : World) (hr : Kd.C k56 w A l.length l) :
  Calls Tryz.prog 161 #[.slice A l.length c,.string key] w fun e w'=>e = .returned (.int .i64 (lessN l key)) ∧ Below w.heap.size w w':=by
 have HR:=zh hr
 have hlen : (l.length : Int) ≤ 9223372036854775807:=by have:=hr.2.1;omega
 clear hr
 have HB0 : Hid (Below w.heap.size w w):=Below.refl _ _
 go_enter Tryz.func161,Tryz.ntmps161
 go_wp2
 go_loopw [5,7,10] (fun n _ i wr=>∃ (k m : Nat),i = .int .i64 k ∧ n = .int .i64 m ∧ k ≤ l.length ∧ m ≤ k ∧ Hid (((l.take k).filter (ltK key)).length = m) ∧ Hid (Below w.heap.size w wr)) (fun _ _ i _=>l.length - (intOf i).toNat)
 case atStart=>exact ⟨0,0,rfl,rfl,Nat.zero_le _,Nat.le_refl _,rfl,HB0⟩
 case round =>
  obtain ⟨k,m,rfl,rfl,hk,hm,hf,hb⟩:=hrel
  by_cases hlt : k < l.length
  ·obtain ⟨ad,A1,c1,e',hc0,hc1,_,_⟩:=atEntry HR.out hb.out k hlt
   subst e'
   have HFS:=zh (filter_step l (ltK key) k hlt)
   have HL : Hid (Op.bytesLess l[k].f0.toList key.toList = ltK key l[k]):=rfl
   have hlw:=World.block_lt_of_cell? wr _ hc0
   cases hp : ltK key l[k]
   ·have hn : Hid (((l.take (k + 1)).filter (ltK key)).length = m):=by unfold Hid;rw [HFS.out,hp,List.length_append,hf.out];rfl
    rw [hp] at HL
    have hl:=HL.out
    clear hp HFS
    generalize l[k] = x at *
    go_wp2
    go_roundw
    case rel=>exact ⟨k + 1,m,by go_num,rfl,by omega,by omega,hn,hb.out.alloc hb.out.size _⟩
    case measure=>simp [intOf];omega
   ·have hn : Hid (((l.take (k + 1)).filter (ltK key)).length = m + 1):=by unfold Hid;rw [HFS.out,hp,List.length_append,hf.out];rfl
    rw [hp] at HL
    have hl:=HL.out
    clear hp HFS
    generalize l[k] = x at *
    go_wp2
    go_roundw
    case rel=>exact ⟨k + 1,m + 1,by go_num,by go_num,by omega,by omega,hn,hb.out.alloc hb.out.size _⟩
    case measure=>simp [intOf];omega
  ·obtain rfl : k = l.length:=by omega
   have hn : Hid (lessN l key = m):=by have:=hf.out;rw [List.take_length] at this;exact this
   go_wp2
   go_ret
   exact ⟨by rw [hn.out];rfl,hb.out⟩
theorem getE.walk (A : Option Addr) (c : Nat) (l : List S56) (key : ByteArray) (w : World) (hr : Kd.C k56 w A l.length l) (hn : ∀ x ∈ l,x.f1.length ≤ 1000000) :
  Calls Tryz.prog 49 #[.slice A l.length c,.string key] w fun e w'=>∃ A' c',e = .returned (.slice A' (getE l key).length c') ∧ (getE l key).length ≤ c' ∧ Hid (Kd.C k47 w' A' (getE l key).length (getE l key)) ∧ Below w.heap.size w w':=by
 have HFD:=zh (findE.walk A c l key w hr)
 cases hf : l.findIdx? (eqK key) with
 | none =>
  have e : getE l key = []:=by unfold getE;rw [hf]
  rw [e]
  rw [hf,show posI none = -1 from rfl] at HFD
  clear hr hf e
  go_enter Tryz.func49,Tryz.ntmps49
  go_wp2_with (go_at_call 104;refine HFD.out.mono ?_;rintro e w1 ⟨rfl,hb⟩;have HB1:=zh hb;clear hb)
  go_ret
  exact ⟨none,0,rfl,Nat.le_refl _,C_mt _ _ _,HB1.out⟩
 | some k =>
  obtain ⟨hk,_⟩:=filter_start l _ k hf
  have e : getE l key = l[k].f1:=by unfold getE;rw [hf];simp [List.getD_eq_getElem?_getD,hk]
  rw [e]
  rw [hf,show posI (some k) = k from rfl] at HFD
  obtain ⟨ad,A1,c1,e',g0,g1,gl,gC⟩:=atEntry hr (Below.refl _ _) k hk
  subst e'
  have G1:=zh g1
  have HCL:=zh (fun (W : World) (h : Below w.heap.size w W)=>clone_v.calls A1 c1 l[k].f1 W (Kd.C_below gC h) (hn _ (List.getElem_mem hk)))
  generalize l[k].f1 = x at *
  have d0 : (k : Int) < (l.length : Int):=by omega
  have d1 : ¬ ((k : Int) < 0):=by omega
  clear hr hf e g0 g1 gC hn
  go_enter Tryz.func49,Tryz.ntmps49
  go_wp2_with (first | (go_at_call 104;go_must (refine HFD.out.mono ?_;rintro e w1 ⟨rfl,hb⟩;have HB1:=zh hb;have a1:=keepc hb G1.out;clear hb)) | (go_at_call 105;go_must (refine (HCL.out _ HB1.out).mono ?_;rintro e w2 ⟨A2,c2,rfl,hc2,hC2,hb⟩;have HC2:=hC2;have HB2:=keepB HB1 hb;clear hb hC2)))
  go_ret
  exact ⟨A2,c2,rfl,hc2,HC2,HB2.out⟩
end
section
open Go.WideMaps Go.Maps
attribute [local go_sem] Oper.semAt_some
def putL (l : List S56) (key : ByteArray) (ch : List S47) : List S56 :=
 l.take (lessN l key) ++ (if ch.length = 0 then [] else [⟨key,ch⟩]) ++ l.drop (lessN l key + (if l.any (eqK key) = true then 1 else 0))
def putE (l : List S56) (key : ByteArray) (ch : List S47) : List S56 × Int :=
 if indexB l = false ∨ keyB key = false ∨ chainB ch = false then ([],1)
 else if 60 < (putL l key ch).length then ([],6) else (putL l key ch,0)
/-- a slice of entries and an error's number -/
def EPost (l : List S56) (er : Int) (w : World) (e : Ending) (w' : World) : Prop:=∃ A c,e = .returned (.tuple #[.slice A l.length c,.int .i64 er]) ∧ l.length ≤ c ∧ Hid (Kd.C k56 w' A l.length l) ∧ Below w.heap.size w w'
theorem EPost.nil {er : Int} {w w' : World} (hb : Below w.heap.size w w') : EPost [] er w (.returned (.tuple #[.slice none 0 0,.int .i64 er])) w':=⟨none,0,rfl,Nat.le_refl _,C_mt _ _ _,hb⟩
theorem putE_no (A A2 : Option Addr) (c c2 : Nat) (l : List S56) (key : ByteArray) (ch : List S47) (w : World) (hr : Kd.C k56 w A l.length l) (h2 : Kd.C k47 w A2 ch.length ch) (hb : indexB l = false ∨ keyB key = false ∨ chainB ch = false) :
  Calls Tryz.prog 132 #[.slice A l.length c,.string key,.slice A2 ch.length c2] w (EPost [] 1 w):=by
 have HIX:=zh (index.walk A c l w hr)
 have HKY:=zh (fun (W : World)=>name_Key.calls key _ W rfl)
 have HCH:=zh (fun (W : World) (h : Below w.heap.size w W)=>chain.walk A2 c2 ch W (Kd.C_below h2 h))
 clear hr h2
 cases q1 : indexB l
 ·rw [q1] at HIX
  rw [show errB false = 1 from rfl] at HIX
  clear q1 hb
  go_enter Tryz.func132,Tryz.ntmps132
  go_wp2_with (go_at_call 67;refine HIX.out.mono ?_;rintro e w1 ⟨rfl,hb⟩;have HB1:=zh hb;clear hb)
  go_ret2
  exact EPost.nil HB1.out
 ·rw [q1] at HIX
  rw [show errB true = 0 from rfl] at HIX
  cases q2 : keyB key
  ·rw [q2] at HKY
   clear q1 q2 hb
   go_enter Tryz.func132,Tryz.ntmps132
   go_wp2_with (first | (go_at_call 67;refine HIX.out.mono ?_;rintro e w1 ⟨rfl,hb⟩;have HB1:=zh hb;clear hb) | (go_at_call 77;refine (HKY.out _).mono ?_;rintro e w2 ⟨rfl,hb⟩;have HB2:=keepB HB1 hb;clear hb))
   go_ret2
   exact EPost.nil HB2.out
  ·rw [q2] at HKY
   have q3 : chainB ch = false:=by
    rcases hb with h | h | h
    ·rw [q1] at h;cases h
    ·rw [q2] at h;cases h
    ·exact h
   rw [q3] at HCH
   rw [show errB false = 1 from rfl] at HCH
   clear q1 q2 q3 hb
   go_enter Tryz.func132,Tryz.ntmps132
   go_wp2_with (first | (go_at_call 67;refine HIX.out.mono ?_;rintro e w1 ⟨rfl,hb⟩;have HB1:=zh hb;clear hb) | (go_at_call 77;refine (HKY.out _).mono ?_;rintro e w2 ⟨rfl,hb⟩;have HB2:=keepB HB1 hb;clear hb) | (go_at_call 109;refine (HCH.out _ HB2.out).mono ?_;rintro e w3 ⟨rfl,hb⟩;have HB3:=keepB HB2 hb;clear hb))
   go_ret2
   exact EPost.nil HB3.out
theorem drop_A {w : World} {A : Option Addr} {l : List S56} (h : Kd.C k56 w A l.length l) (k c : Nat) (hk : k ≤ l.length) (hc : l.length ≤ c) {B : Option Addr} (hB : c ≠ k → ∀ ad,A = some ad → B = some (ad.add (k * 2))) : Kd.C k56 w B (l.length - k) (l.drop k):=by
 rcases Nat.eq_or_lt_of_le hk with rfl | hlt
 ·rw [Nat.sub_self,List.drop_length];exact C_mt _ _ _
 ·obtain ⟨ad,rfl⟩:=C_addr h (by omega)
  rw [hB (by omega) ad rfl]
  exact C_drop h k hk
theorem one_C {w : World} {x : S56} {c : List Value} {g : Nat} (h : k56.K w x c) (hr : RawAt w ⟨g,0,none⟩ c) : Kd.C k56 w (some ⟨g,0,none⟩) 1 [x]:=by
 have:=rows_C (RowsOf.one_ x c h) (by simpa using hr) (by simp)
 simpa using this
theorem blkRaw {w : World} {g : Nat} {cs : List Value} {t : TypeId} (h : w.heap[g]? = some (.cells cs.toArray t (0,0))) : RawAt w ⟨g,0,none⟩ cs:=by
 intro j u hu
 rw [add_at,Nat.zero_add,blk_cell h]
 simpa using hu
theorem putE_tt (ad : Addr) (A2 : Option Addr) (c c2 : Nat) (l : List S56) (key : ByteArray) (ch : List S47) (w : World) (hr : Kd.C k56 w (some ad) l.length l) (hc : l.length ≤ c) (h2 : Kd.C k47 w A2 ch.length ch) (hc2 : ch.length ≤ c2)
  (q1 : indexB l = true) (q2 : keyB key = true) (q3 : chainB ch = true) (q4 : l.any (eqK key) = true) (q5 : 0 < ch.length) (i : Nat) (hi : i = lessN l key) (hil : i ≤ l.length) (hbh : (i + 1) ≤ l.length) (res : List S56 × Int) (hres : 60 < ((l.take i ++ [(⟨key,ch⟩ : S56)]) ++ l.drop (i + 1)).length ∧ res = (([] : List S56),(6 : Int)) ∨ ¬ 60 < ((l.take i ++ [(⟨key,ch⟩ : S56)]) ++ l.drop (i + 1)).length ∧ res = (((l.take i ++ [(⟨key,ch⟩ : S56)]) ++ l.drop (i + 1)),0)) :
  Calls Tryz.prog 132 #[.slice (some ad) l.length c,.string key,.slice A2 ch.length c2] w (EPost res.1 res.2 w):=by
 have HIX:=zh (index.walk (some ad) c l w hr)
 have HKY:=zh (fun (W : World)=>name_Key.calls key _ W rfl)
 have HCH:=zh (fun (W : World) (h : Below w.heap.size w W)=>chain.walk A2 c2 ch W (Kd.C_below h2 h))
 have HAT:=zh (fun (W : World) (h : Below w.heap.size w W)=>lessE.walk (some ad) c l key W (Kd.C_below hr h))
 have HFD:=zh (fun (W : World) (h : Below w.heap.size w W)=>findE.walk (some ad) c l key W (Kd.C_below hr h))
 have HCL:=zh (fun (W : World) (h : Below w.heap.size w W)=>clone_v.calls A2 c2 ch W (Kd.C_below h2 h) (by have:=chain_le q3;omega))
 have HR:=zh hr
 have HNI : Hid (((some ad) : Option Addr) = none → i = 0):=fun h=>(by cases h)
 have hl60:=(index_at q1).1
 have dth:=pos_any l (eqK key)
 rw [q4] at dth
 rw [q1,show errB true = 0 from rfl] at HIX
 rw [q2] at HKY
 rw [q3,show errB true = 0 from rfl] at HCH
 rw [← hi] at HAT
 generalize posI (l.findIdx? (eqK key)) = r at *
 clear q1 q2 q3 q4 hr h2 hi
 have e0 : (i : Int) ≤ (l.length : Int):=by omega
 have e1 : (i : Int) ≤ (c : Int):=by omega
 have e2 : (0 : Int) ≤ (i : Int):=by omega
 have e3 : IntKind.i64.wrap ((i : Int) + 1) = (i : Int) + 1:=by rw [IntKind.wrap_i64];omega
 have e4 : ((l.length : Nat) : Int) ≤ (c : Int):=by omega
 have e6 : (0 : Int) ≤ (i : Int) + 1:=by omega
 have e7 : ((i : Int) + 1).toNat = i + 1:=by omega
 have dch : decide ((0 : Int) < (ch.length : Int)) = true:=decide_eq_true (by omega)
 have dcn : decide (0 < ch.length) = true:=decide_eq_true (by omega)
 have dcp : 0 < ch.length:=by omega
 clear q5
 have e5 : (i : Int) + 1 ≤ (l.length : Int):=by omega
 go_enter Tryz.func132,Tryz.ntmps132
 go_wp2_with (first
  | (go_at_call 67;go_must (refine HIX.out.mono ?_;rintro e w1 ⟨rfl,hb⟩;have HB1:=zh hb;clear hb))
  | (go_at_call 77;go_must (refine (HKY.out _).mono ?_;rintro e w2 ⟨rfl,hb⟩;have HB2:=keepB HB1 hb;clear hb))
  | (go_at_call 109;go_must (refine (HCH.out _ HB2.out).mono ?_;rintro e w3 ⟨rfl,hb⟩;have HB3:=keepB HB2 hb;clear hb))
  | (go_at_call 161;go_must (refine (HAT.out _ HB3.out).mono ?_;rintro e w4 ⟨rfl,hb⟩;have HB4:=keepB HB3 hb;clear hb))
  | (go_at_call 104;go_must (refine (HFD.out _ HB4.out).mono ?_;rintro e w5 ⟨rfl,hb⟩;have HB5:=keepB HB4 hb;clear hb))
  | (go_at_call 105;go_must (refine (HCL.out _ HB5.out).mono ?_;rintro e w6 ⟨A6,c6,rfl,hc6,hC6,hb⟩;have HC6:=hC6;have HB6:=keepB HB5 hb;clear hb hC6))
  | ((with_reducible refine gate_dst (N:=48) rfl ?_);go_must (refine lit_event ?hg (N:=48) ?hd (cs:=#[.string key,.slice A6 ch.length c6]) (t:=56) 1 ?hr ?_;(case hd=>rfl);(case hg=>rfl);(case hr=>first | (go_simp;done) | (go_simp;rfl));intro gb hgb w7 hb7 hbel7;have HB7:=keepB HB6 hbel7;have HE7:=zh (one_C (k56_mk w7 (⟨key,ch⟩ : S56) hc6 (Kd.C_below HC6.out hbel7)) (blkRaw (cs:=[.string key,.slice A6 ch.length c6]) hb7));clear hgb hb7 hbel7))
  | ((with_reducible refine gate_builtin (b:=.append) (xs:=#[.tmp 43,.tmp 48]) rfl ?_);go_must (obtain ⟨iz,hi,hy0,hy1,hy2⟩:=info_parts info56;refine wpList_append_C (d:=k56) rfl (.tmp 43) (.tmp 48) 22 rfl 56 iz _ 40 Tryz.underlying22 hi hy0 hy1 hy2 rfl (by decide) (some ad) i i (l.take i) rfl (C_take (Kd.C_below HR.out HB7.out) i (by omega)) (fun h=>HNI.out (by first | exact h | trivial)) (some ⟨gb,0,none⟩) 1 1 [(⟨key,ch⟩ : S56)] rfl HE7.out (Nat.le_refl _) (Or.inl (by omega)) (by omega) (by decide) ?_;intro AX cX wX hCX hcX hnX hbX;obtain ⟨ax,rfl⟩:=C_addr hCX.out (by omega);have HCX:=hCX;have HBX:=keepB HB7 hbX.out;have x1 : ((i + 1 : Nat) : Int) ≤ (cX : Int):=(by omega);have x2 : (i : Int) + 1 ≤ (cX : Int):=(by omega);clear hCX hnX hbX)))
 have HXX:=zc HCX (below_drew (Below.refl _ wX))
 have HBZ:=zh HBX.out.drew
 refine wp_region_held_drew (S:=fun W=>Kd.C k56 W (some ax) (i + 1) (l.take i ++ [(⟨key,ch⟩ : S56)]) ∧ Below w.heap.size w W) (by kernel_rfl) ?_ (fun hHeld=>?_)
 ·exact ⟨HXX.out,HBZ.out⟩
 clear HXX HBZ
 generalize wX.drew = wz at hHeld ⊢
 refine zt 0 ?_;try simp only [zN];refine zt 1 ?_;try simp only [zN];refine zt 2 ?_;try simp only [zN];refine zt 3 ?_;try simp only [zN];refine zt 4 ?_;try simp only [zN];refine zt 5 ?_;try simp only [zN];refine zt 6 ?_;try simp only [zN];refine zt 7 ?_;try simp only [zN];refine zt 8 ?_;try simp only [zN]
 refine wpAnyH_ready (rs:=[9]) (by kernel_rfl) (by simp) ?_
 refine AllReadyH.cons (o:=_) rfl (fun K hK=>?_) AllReadyH.nil
 rw [if_pos (by rfl)]
 obtain ⟨s0,s1⟩:=hHeld
 obtain ⟨iz,hi,hy0,hy1,hy2⟩:=info_parts info56
 refine wp_append_C (d:=k56) (.tmp 55) (.tmp 58) 22 rfl 56 iz _ 40 Tryz.underlying22 hi hy0 hy1 hy2 rfl (by decide) (some ax) (i + 1) (i + 1) (l.take i ++ [(⟨key,ch⟩ : S56)]) rfl s0 (fun h=>by cases h) _ (l.length - (i + 1)) (c - (i + 1)) (l.drop (i + 1)) rfl (drop_A (Kd.C_below HR.out s1) (i + 1) c (by omega) hc (by intro hne ad e;injection e with e;subst e;simp [hne])) (Nat.le_refl _) (by omega) (by omega) (by decide) ?_
 intro AY cY wY hCY hcY hnY hbY
 obtain ⟨ln,hln⟩ : ∃ ln,ln = (i + 1) + (l.length - (i + 1)):=⟨_,rfl⟩
 rw [← hln] at hCY hcY ⊢
 have HCY:=hCY
 have HBY:=zh (s1.trans (hbY.out.mono s1.size))
 clear hln
 refine hK.out _ _ ⟨Kd.C_below s0 hbY.out,HBY.out⟩ (fun hHeld=>?_)
 clear hK K s0 s1 hCY hnY hbY
 try simp only [zN]
 refine zt 10 ?_;try simp only [zN]
 refine wpAnyH_done (by kernel_rfl) ?_ _
 have hly:=zh (C_len HCY.out)
 clear hHeld
 by_cases h60 : 60 < ln
 ·have d60 : decide ((60 : Int) < (ln : Int)) = true:=by simp;omega
  go_wp2
  all_goals go_ret2
  all_goals (rcases hres with ⟨hr1,hr2⟩ | ⟨hr1,hr2⟩)
  all_goals first | exact absurd (by rw [← hly.out];exact h60) hr1 | (rw [hr2];exact EPost.nil HBY.out)
 ·have d60 : decide ((60 : Int) < (ln : Int)) = false:=by simp;omega
  go_wp2
  all_goals go_ret2
  all_goals (rcases hres with ⟨hr1,hr2⟩ | ⟨hr1,hr2⟩)
  all_goals first
   | exact absurd (by rw [hly.out];exact hr1) h60
   | (rw [hr2];have hly:=hly.out;subst hly;exact ⟨AY,cY,rfl,hcY,HCY,HBY.out⟩)
theorem putE_tn (ad : Addr) (A2 : Option Addr) (c c2 : Nat) (l : List S56) (key : ByteArray) (ch : List S47) (w : World) (hr : Kd.C k56 w (some ad) l.length l) (hc : l.length ≤ c) (h2 : Kd.C k47 w A2 ch.length ch) (hc2 : ch.length ≤ c2)
  (q1 : indexB l = true) (q2 : keyB key = true) (q3 : chainB ch = true) (q4 : l.any (eqK key) = true) (q5 : ch.length = 0) (i : Nat) (hi : i = lessN l key) (hil : i ≤ l.length) (hbh : (i + 1) ≤ l.length) (res : List S56 × Int) (hres : 60 < ((l.take i) ++ l.drop (i + 1)).length ∧ res = (([] : List S56),(6 : Int)) ∨ ¬ 60 < ((l.take i) ++ l.drop (i + 1)).length ∧ res = (((l.take i) ++ l.drop (i + 1)),0)) :
  Calls Tryz.prog 132 #[.slice (some ad) l.length c,.string key,.slice A2 ch.length c2] w (EPost res.1 res.2 w):=by
 have HIX:=zh (index.walk (some ad) c l w hr)
 have HKY:=zh (fun (W : World)=>name_Key.calls key _ W rfl)
 have HCH:=zh (fun (W : World) (h : Below w.heap.size w W)=>chain.walk A2 c2 ch W (Kd.C_below h2 h))
 have HAT:=zh (fun (W : World) (h : Below w.heap.size w W)=>lessE.walk (some ad) c l key W (Kd.C_below hr h))
 have HFD:=zh (fun (W : World) (h : Below w.heap.size w W)=>findE.walk (some ad) c l key W (Kd.C_below hr h))
 have HCL:=zh (fun (W : World) (h : Below w.heap.size w W)=>clone_v.calls A2 c2 ch W (Kd.C_below h2 h) (by have:=chain_le q3;omega))
 have HR:=zh hr
 have HNI : Hid (((some ad) : Option Addr) = none → i = 0):=fun h=>(by cases h)
 have hl60:=(index_at q1).1
 have dth:=pos_any l (eqK key)
 rw [q4] at dth
 rw [q1,show errB true = 0 from rfl] at HIX
 rw [q2] at HKY
 rw [q3,show errB true = 0 from rfl] at HCH
 rw [← hi] at HAT
 generalize posI (l.findIdx? (eqK key)) = r at *
 clear q1 q2 q3 q4 hr h2 hi
 have e0 : (i : Int) ≤ (l.length : Int):=by omega
 have e1 : (i : Int) ≤ (c : Int):=by omega
 have e2 : (0 : Int) ≤ (i : Int):=by omega
 have e3 : IntKind.i64.wrap ((i : Int) + 1) = (i : Int) + 1:=by rw [IntKind.wrap_i64];omega
 have e4 : ((l.length : Nat) : Int) ≤ (c : Int):=by omega
 have e6 : (0 : Int) ≤ (i : Int) + 1:=by omega
 have e7 : ((i : Int) + 1).toNat = i + 1:=by omega
 have dch : decide ((0 : Int) < (ch.length : Int)) = false:=decide_eq_false (by omega)
 have dcn : decide (0 < ch.length) = false:=decide_eq_false (by omega)
 have dcp : ¬ 0 < ch.length:=by omega
 clear q5
 have e5 : (i : Int) + 1 ≤ (l.length : Int):=by omega
 go_enter Tryz.func132,Tryz.ntmps132
 go_wp2_with (first
  | (go_at_call 67;go_must (refine HIX.out.mono ?_;rintro e w1 ⟨rfl,hb⟩;have HB1:=zh hb;clear hb))
  | (go_at_call 77;go_must (refine (HKY.out _).mono ?_;rintro e w2 ⟨rfl,hb⟩;have HB2:=keepB HB1 hb;clear hb))
  | (go_at_call 109;go_must (refine (HCH.out _ HB2.out).mono ?_;rintro e w3 ⟨rfl,hb⟩;have HB3:=keepB HB2 hb;clear hb))
  | (go_at_call 161;go_must (refine (HAT.out _ HB3.out).mono ?_;rintro e w4 ⟨rfl,hb⟩;have HB4:=keepB HB3 hb;clear hb))
  | (go_at_call 104;go_must (refine (HFD.out _ HB4.out).mono ?_;rintro e w5 ⟨rfl,hb⟩;have HB5:=keepB HB4 hb;clear hb)))
 have HXX:=zh (C_take (Kd.C_below HR.out HB5.out.drew) i (by omega))
 have HBZ:=zh HB5.out.drew
 refine wp_region_held_drew (S:=fun W=>Kd.C k56 W (some ad) i (l.take i) ∧ Below w.heap.size w W) (by kernel_rfl) ?_ (fun hHeld=>?_)
 ·exact ⟨HXX.out,HBZ.out⟩
 clear HXX HBZ
 generalize w5.drew = wz at hHeld ⊢
 refine zt 0 ?_;try simp only [zN];refine zt 1 ?_;try simp only [zN];refine zt 2 ?_;try simp only [zN];refine zt 3 ?_;try simp only [zN];refine zt 4 ?_;try simp only [zN];refine zt 5 ?_;try simp only [zN];refine zt 6 ?_;try simp only [zN];refine zt 7 ?_;try simp only [zN];refine zt 8 ?_;try simp only [zN]
 refine wpAnyH_ready (rs:=[9]) (by kernel_rfl) (by simp) ?_
 refine AllReadyH.cons (o:=_) rfl (fun K hK=>?_) AllReadyH.nil
 rw [if_pos (by rfl)]
 obtain ⟨s0,s1⟩:=hHeld
 obtain ⟨iz,hi,hy0,hy1,hy2⟩:=info_parts info56
 refine wp_append_C (d:=k56) (.tmp 55) (.tmp 58) 22 rfl 56 iz _ 40 Tryz.underlying22 hi hy0 hy1 hy2 rfl (by decide) (some ad) i i (l.take i) rfl s0 (fun h=>HNI.out (by first | exact h | trivial)) _ (l.length - (i + 1)) (c - (i + 1)) (l.drop (i + 1)) rfl (drop_A (Kd.C_below HR.out s1) (i + 1) c (by omega) hc (by intro hne ad e;injection e with e;subst e;simp [hne])) (Nat.le_refl _) (by omega) (by omega) (by decide) ?_
 intro AY cY wY hCY hcY hnY hbY
 obtain ⟨ln,hln⟩ : ∃ ln,ln = i + (l.length - (i + 1)):=⟨_,rfl⟩
 rw [← hln] at hCY hcY ⊢
 have HCY:=hCY
 have HBY:=zh (s1.trans (hbY.out.mono s1.size))
 clear hln
 refine hK.out _ _ ⟨Kd.C_below s0 hbY.out,HBY.out⟩ (fun hHeld=>?_)
 clear hK K s0 s1 hCY hnY hbY
 try simp only [zN]
 refine zt 10 ?_;try simp only [zN]
 refine wpAnyH_done (by kernel_rfl) ?_ _
 have hly:=zh (C_len HCY.out)
 clear hHeld
 by_cases h60 : 60 < ln
 ·have d60 : decide ((60 : Int) < (ln : Int)) = true:=by simp;omega
  go_wp2
  all_goals go_ret2
  all_goals (rcases hres with ⟨hr1,hr2⟩ | ⟨hr1,hr2⟩)
  all_goals first | exact absurd (by rw [← hly.out];exact h60) hr1 | (rw [hr2];exact EPost.nil HBY.out)
 ·have d60 : decide ((60 : Int) < (ln : Int)) = false:=by simp;omega
  go_wp2
  all_goals go_ret2
  all_goals (rcases hres with ⟨hr1,hr2⟩ | ⟨hr1,hr2⟩)
  all_goals first
   | exact absurd (by rw [hly.out];exact hr1) h60
   | (rw [hr2];have hly:=hly.out;subst hly;exact ⟨AY,cY,rfl,hcY,HCY,HBY.out⟩)
theorem putE_ft (ad : Addr) (A2 : Option Addr) (c c2 : Nat) (l : List S56) (key : ByteArray) (ch : List S47) (w : World) (hr : Kd.C k56 w (some ad) l.length l) (hc : l.length ≤ c) (h2 : Kd.C k47 w A2 ch.length ch) (hc2 : ch.length ≤ c2)
  (q1 : indexB l = true) (q2 : keyB key = true) (q3 : chainB ch = true) (q4 : l.any (eqK key) = false) (q5 : 0 < ch.length) (i : Nat) (hi : i = lessN l key) (hil : i ≤ l.length) (hbh : i ≤ l.length) (res : List S56 × Int) (hres : 60 < ((l.take i ++ [(⟨key,ch⟩ : S56)]) ++ l.drop i).length ∧ res = (([] : List S56),(6 : Int)) ∨ ¬ 60 < ((l.take i ++ [(⟨key,ch⟩ : S56)]) ++ l.drop i).length ∧ res = (((l.take i ++ [(⟨key,ch⟩ : S56)]) ++ l.drop i),0)) :
  Calls Tryz.prog 132 #[.slice (some ad) l.length c,.string key,.slice A2 ch.length c2] w (EPost res.1 res.2 w):=by
 have HIX:=zh (index.walk (some ad) c l w hr)
 have HKY:=zh (fun (W : World)=>name_Key.calls key _ W rfl)
 have HCH:=zh (fun (W : World) (h : Below w.heap.size w W)=>chain.walk A2 c2 ch W (Kd.C_below h2 h))
 have HAT:=zh (fun (W : World) (h : Below w.heap.size w W)=>lessE.walk (some ad) c l key W (Kd.C_below hr h))
 have HFD:=zh (fun (W : World) (h : Below w.heap.size w W)=>findE.walk (some ad) c l key W (Kd.C_below hr h))
 have HCL:=zh (fun (W : World) (h : Below w.heap.size w W)=>clone_v.calls A2 c2 ch W (Kd.C_below h2 h) (by have:=chain_le q3;omega))
 have HR:=zh hr
 have HNI : Hid (((some ad) : Option Addr) = none → i = 0):=fun h=>(by cases h)
 have hl60:=(index_at q1).1
 have dth:=pos_any l (eqK key)
 rw [q4] at dth
 rw [q1,show errB true = 0 from rfl] at HIX
 rw [q2] at HKY
 rw [q3,show errB true = 0 from rfl] at HCH
 rw [← hi] at HAT
 generalize posI (l.findIdx? (eqK key)) = r at *
 clear q1 q2 q3 q4 hr h2 hi
 have e0 : (i : Int) ≤ (l.length : Int):=by omega
 have e1 : (i : Int) ≤ (c : Int):=by omega
 have e2 : (0 : Int) ≤ (i : Int):=by omega
 have e3 : IntKind.i64.wrap ((i : Int) + 1) = (i : Int) + 1:=by rw [IntKind.wrap_i64];omega
 have e4 : ((l.length : Nat) : Int) ≤ (c : Int):=by omega
 have e6 : (0 : Int) ≤ (i : Int) + 1:=by omega
 have e7 : ((i : Int) + 1).toNat = i + 1:=by omega
 have dch : decide ((0 : Int) < (ch.length : Int)) = true:=decide_eq_true (by omega)
 have dcn : decide (0 < ch.length) = true:=decide_eq_true (by omega)
 have dcp : 0 < ch.length:=by omega
 clear q5
 go_enter Tryz.func132,Tryz.ntmps132
 go_wp2_with (first
  | (go_at_call 67;go_must (refine HIX.out.mono ?_;rintro e w1 ⟨rfl,hb⟩;have HB1:=zh hb;clear hb))
  | (go_at_call 77;go_must (refine (HKY.out _).mono ?_;rintro e w2 ⟨rfl,hb⟩;have HB2:=keepB HB1 hb;clear hb))
  | (go_at_call 109;go_must (refine (HCH.out _ HB2.out).mono ?_;rintro e w3 ⟨rfl,hb⟩;have HB3:=keepB HB2 hb;clear hb))
  | (go_at_call 161;go_must (refine (HAT.out _ HB3.out).mono ?_;rintro e w4 ⟨rfl,hb⟩;have HB4:=keepB HB3 hb;clear hb))
  | (go_at_call 104;go_must (refine (HFD.out _ HB4.out).mono ?_;rintro e w5 ⟨rfl,hb⟩;have HB5:=keepB HB4 hb;clear hb))
  | (go_at_call 105;go_must (refine (HCL.out _ HB5.out).mono ?_;rintro e w6 ⟨A6,c6,rfl,hc6,hC6,hb⟩;have HC6:=hC6;have HB6:=keepB HB5 hb;clear hb hC6))
  | ((with_reducible refine gate_dst (N:=48) rfl ?_);go_must (refine lit_event ?hg (N:=48) ?hd (cs:=#[.string key,.slice A6 ch.length c6]) (t:=56) 1 ?hr ?_;(case hd=>rfl);(case hg=>rfl);(case hr=>first | (go_simp;done) | (go_simp;rfl));intro gb hgb w7 hb7 hbel7;have HB7:=keepB HB6 hbel7;have HE7:=zh (one_C (k56_mk w7 (⟨key,ch⟩ : S56) hc6 (Kd.C_below HC6.out hbel7)) (blkRaw (cs:=[.string key,.slice A6 ch.length c6]) hb7));clear hgb hb7 hbel7))
  | ((with_reducible refine gate_builtin (b:=.append) (xs:=#[.tmp 43,.tmp 48]) rfl ?_);go_must (obtain ⟨iz,hi,hy0,hy1,hy2⟩:=info_parts info56;refine wpList_append_C (d:=k56) rfl (.tmp 43) (.tmp 48) 22 rfl 56 iz _ 40 Tryz.underlying22 hi hy0 hy1 hy2 rfl (by decide) (some ad) i i (l.take i) rfl (C_take (Kd.C_below HR.out HB7.out) i (by omega)) (fun h=>HNI.out (by first | exact h | trivial)) (some ⟨gb,0,none⟩) 1 1 [(⟨key,ch⟩ : S56)] rfl HE7.out (Nat.le_refl _) (Or.inl (by omega)) (by omega) (by decide) ?_;intro AX cX wX hCX hcX hnX hbX;obtain ⟨ax,rfl⟩:=C_addr hCX.out (by omega);have HCX:=hCX;have HBX:=keepB HB7 hbX.out;have x1 : ((i + 1 : Nat) : Int) ≤ (cX : Int):=(by omega);have x2 : (i : Int) + 1 ≤ (cX : Int):=(by omega);clear hCX hnX hbX)))
 have HXX:=zc HCX (below_drew (Below.refl _ wX))
 have HBZ:=zh HBX.out.drew
 refine wp_region_held_drew (S:=fun W=>Kd.C k56 W (some ax) (i + 1) (l.take i ++ [(⟨key,ch⟩ : S56)]) ∧ Below w.heap.size w W) (by kernel_rfl) ?_ (fun hHeld=>?_)
 ·exact ⟨HXX.out,HBZ.out⟩
 clear HXX HBZ
 generalize wX.drew = wz at hHeld ⊢
 refine zt 0 ?_;try simp only [zN];refine zt 1 ?_;try simp only [zN];refine zt 2 ?_;try simp only [zN];refine zt 3 ?_;try simp only [zN];refine zt 4 ?_;try simp only [zN];refine zt 5 ?_;try simp only [zN];refine zt 6 ?_;try simp only [zN];refine zt 7 ?_;try simp only [zN];refine zt 8 ?_;try simp only [zN]
 refine wpAnyH_ready (rs:=[9]) (by kernel_rfl) (by simp) ?_
 refine AllReadyH.cons (o:=_) rfl (fun K hK=>?_) AllReadyH.nil
 rw [if_pos (by rfl)]
 obtain ⟨s0,s1⟩:=hHeld
 obtain ⟨iz,hi,hy0,hy1,hy2⟩:=info_parts info56
 refine wp_append_C (d:=k56) (.tmp 55) (.tmp 58) 22 rfl 56 iz _ 40 Tryz.underlying22 hi hy0 hy1 hy2 rfl (by decide) (some ax) (i + 1) (i + 1) (l.take i ++ [(⟨key,ch⟩ : S56)]) rfl s0 (fun h=>by cases h) _ (l.length - i) (c - i) (l.drop i) rfl (drop_A (Kd.C_below HR.out s1) i c (by omega) hc (by intro hne ad e;injection e with e;subst e;simp [hne])) (Nat.le_refl _) (by omega) (by omega) (by decide) ?_
 intro AY cY wY hCY hcY hnY hbY
 obtain ⟨ln,hln⟩ : ∃ ln,ln = (i + 1) + (l.length - i):=⟨_,rfl⟩
 rw [← hln] at hCY hcY ⊢
 have HCY:=hCY
 have HBY:=zh (s1.trans (hbY.out.mono s1.size))
 clear hln
 refine hK.out _ _ ⟨Kd.C_below s0 hbY.out,HBY.out⟩ (fun hHeld=>?_)
 clear hK K s0 s1 hCY hnY hbY
 try simp only [zN]
 refine zt 10 ?_;try simp only [zN]
 refine wpAnyH_done (by kernel_rfl) ?_ _
 have hly:=zh (C_len HCY.out)
 clear hHeld
 by_cases h60 : 60 < ln
 ·have d60 : decide ((60 : Int) < (ln : Int)) = true:=by simp;omega
  go_wp2
  all_goals go_ret2
  all_goals (rcases hres with ⟨hr1,hr2⟩ | ⟨hr1,hr2⟩)
  all_goals first | exact absurd (by rw [← hly.out];exact h60) hr1 | (rw [hr2];exact EPost.nil HBY.out)
 ·have d60 : decide ((60 : Int) < (ln : Int)) = false:=by simp;omega
  go_wp2
  all_goals go_ret2
  all_goals (rcases hres with ⟨hr1,hr2⟩ | ⟨hr1,hr2⟩)
  all_goals first
   | exact absurd (by rw [hly.out];exact hr1) h60
   | (rw [hr2];have hly:=hly.out;subst hly;exact ⟨AY,cY,rfl,hcY,HCY,HBY.out⟩)
theorem putE_fn (ad : Addr) (A2 : Option Addr) (c c2 : Nat) (l : List S56) (key : ByteArray) (ch : List S47) (w : World) (hr : Kd.C k56 w (some ad) l.length l) (hc : l.length ≤ c) (h2 : Kd.C k47 w A2 ch.length ch) (hc2 : ch.length ≤ c2)
  (q1 : indexB l = true) (q2 : keyB key = true) (q3 : chainB ch = true) (q4 : l.any (eqK key) = false) (q5 : ch.length = 0) (i : Nat) (hi : i = lessN l key) (hil : i ≤ l.length) (hbh : i ≤ l.length) (res : List S56 × Int) (hres : 60 < ((l.take i) ++ l.drop i).length ∧ res = (([] : List S56),(6 : Int)) ∨ ¬ 60 < ((l.take i) ++ l.drop i).length ∧ res = (((l.take i) ++ l.drop i),0)) :
  Calls Tryz.prog 132 #[.slice (some ad) l.length c,.string key,.slice A2 ch.length c2] w (EPost res.1 res.2 w):=by
 have HIX:=zh (index.walk (some ad) c l w hr)
 have HKY:=zh (fun (W : World)=>name_Key.calls key _ W rfl)
 have HCH:=zh (fun (W : World) (h : Below w.heap.size w W)=>chain.walk A2 c2 ch W (Kd.C_below h2 h))
 have HAT:=zh (fun (W : World) (h : Below w.heap.size w W)=>lessE.walk (some ad) c l key W (Kd.C_below hr h))
 have HFD:=zh (fun (W : World) (h : Below w.heap.size w W)=>findE.walk (some ad) c l key W (Kd.C_below hr h))
 have HCL:=zh (fun (W : World) (h : Below w.heap.size w W)=>clone_v.calls A2 c2 ch W (Kd.C_below h2 h) (by have:=chain_le q3;omega))
 have HR:=zh hr
 have HNI : Hid (((some ad) : Option Addr) = none → i = 0):=fun h=>(by cases h)
 have hl60:=(index_at q1).1
 have dth:=pos_any l (eqK key)
 rw [q4] at dth
 rw [q1,show errB true = 0 from rfl] at HIX
 rw [q2] at HKY
 rw [q3,show errB true = 0 from rfl] at HCH
 rw [← hi] at HAT
 generalize posI (l.findIdx? (eqK key)) = r at *
 clear q1 q2 q3 q4 hr h2 hi
 have e0 : (i : Int) ≤ (l.length : Int):=by omega
 have e1 : (i : Int) ≤ (c : Int):=by omega
 have e2 : (0 : Int) ≤ (i : Int):=by omega
 have e3 : IntKind.i64.wrap ((i : Int) + 1) = (i : Int) + 1:=by rw [IntKind.wrap_i64];omega
 have e4 : ((l.length : Nat) : Int) ≤ (c : Int):=by omega
 have e6 : (0 : Int) ≤ (i : Int) + 1:=by omega
 have e7 : ((i : Int) + 1).toNat = i + 1:=by omega
 have dch : decide ((0 : Int) < (ch.length : Int)) = false:=decide_eq_false (by omega)
 have dcn : decide (0 < ch.length) = false:=decide_eq_false (by omega)
 have dcp : ¬ 0 < ch.length:=by omega
 clear q5
 go_enter Tryz.func132,Tryz.ntmps132
 go_wp2_with (first
  | (go_at_call 67;go_must (refine HIX.out.mono ?_;rintro e w1 ⟨rfl,hb⟩;have HB1:=zh hb;clear hb))
  | (go_at_call 77;go_must (refine (HKY.out _).mono ?_;rintro e w2 ⟨rfl,hb⟩;have HB2:=keepB HB1 hb;clear hb))
  | (go_at_call 109;go_must (refine (HCH.out _ HB2.out).mono ?_;rintro e w3 ⟨rfl,hb⟩;have HB3:=keepB HB2 hb;clear hb))
  | (go_at_call 161;go_must (refine (HAT.out _ HB3.out).mono ?_;rintro e w4 ⟨rfl,hb⟩;have HB4:=keepB HB3 hb;clear hb))
  | (go_at_call 104;go_must (refine (HFD.out _ HB4.out).mono ?_;rintro e w5 ⟨rfl,hb⟩;have HB5:=keepB HB4 hb;clear hb)))
 have HXX:=zh (C_take (Kd.C_below HR.out HB5.out.drew) i (by omega))
 have HBZ:=zh HB5.out.drew
 refine wp_region_held_drew (S:=fun W=>Kd.C k56 W (some ad) i (l.take i) ∧ Below w.heap.size w W) (by kernel_rfl) ?_ (fun hHeld=>?_)
 ·exact ⟨HXX.out,HBZ.out⟩
 clear HXX HBZ
 generalize w5.drew = wz at hHeld ⊢
 refine zt 0 ?_;try simp only [zN];refine zt 1 ?_;try simp only [zN];refine zt 2 ?_;try simp only [zN];refine zt 3 ?_;try simp only [zN];refine zt 4 ?_;try simp only [zN];refine zt 5 ?_;try simp only [zN];refine zt 6 ?_;try simp only [zN];refine zt 7 ?_;try simp only [zN];refine zt 8 ?_;try simp only [zN]
 refine wpAnyH_ready (rs:=[9]) (by kernel_rfl) (by simp) ?_
 refine AllReadyH.cons (o:=_) rfl (fun K hK=>?_) AllReadyH.nil
 rw [if_pos (by rfl)]
 obtain ⟨s0,s1⟩:=hHeld
 obtain ⟨iz,hi,hy0,hy1,hy2⟩:=info_parts info56
 refine wp_append_C (d:=k56) (.tmp 55) (.tmp 58) 22 rfl 56 iz _ 40 Tryz.underlying22 hi hy0 hy1 hy2 rfl (by decide) (some ad) i i (l.take i) rfl s0 (fun h=>HNI.out (by first | exact h | trivial)) _ (l.length - i) (c - i) (l.drop i) rfl (drop_A (Kd.C_below HR.out s1) i c (by omega) hc (by intro hne ad e;injection e with e;subst e;simp [hne])) (Nat.le_refl _) (by omega) (by omega) (by decide) ?_
 intro AY cY wY hCY hcY hnY hbY
 obtain ⟨ln,hln⟩ : ∃ ln,ln = i + (l.length - i):=⟨_,rfl⟩
 rw [← hln] at hCY hcY ⊢
 have HCY:=hCY
 have HBY:=zh (s1.trans (hbY.out.mono s1.size))
 clear hln
 refine hK.out _ _ ⟨Kd.C_below s0 hbY.out,HBY.out⟩ (fun hHeld=>?_)
 clear hK K s0 s1 hCY hnY hbY
 try simp only [zN]
 refine zt 10 ?_;try simp only [zN]
 refine wpAnyH_done (by kernel_rfl) ?_ _
 have hly:=zh (C_len HCY.out)
 clear hHeld
 by_cases h60 : 60 < ln
 ·have d60 : decide ((60 : Int) < (ln : Int)) = true:=by simp;omega
  go_wp2
  all_goals go_ret2
  all_goals (rcases hres with ⟨hr1,hr2⟩ | ⟨hr1,hr2⟩)
  all_goals first | exact absurd (by rw [← hly.out];exact h60) hr1 | (rw [hr2];exact EPost.nil HBY.out)
 ·have d60 : decide ((60 : Int) < (ln : Int)) = false:=by simp;omega
  go_wp2
  all_goals go_ret2
  all_goals (rcases hres with ⟨hr1,hr2⟩ | ⟨hr1,hr2⟩)
  all_goals first
   | exact absurd (by rw [hly.out];exact hr1) h60
   | (rw [hr2];have hly:=hly.out;subst hly;exact ⟨AY,cY,rfl,hcY,HCY,HBY.out⟩)
theorem putE_zt (A2 : Option Addr) (c c2 : Nat) (key : ByteArray) (ch : List S47) (w : World) (h2 : Kd.C k47 w A2 ch.length ch) (hc2 : ch.length ≤ c2) (q2 : keyB key = true) (q3 : chainB ch = true) (q5 : 0 < ch.length) :
  Calls Tryz.prog 132 #[.slice none 0 c,.string key,.slice A2 ch.length c2] w (EPost [(⟨key,ch⟩ : S56)] 0 w):=by
 have hr : Kd.C k56 w none ([] : List S56).length []:=C_mt _ _ _
 have HIX : Hid (Calls Tryz.prog 67 #[.slice none 0 c] w fun e w'=>e = .returned (.int .i64 0) ∧ Below w.heap.size w w'):=index.walk none c [] w hr
 have HKY:=zh (fun (W : World)=>name_Key.calls key _ W rfl)
 have HCH:=zh (fun (W : World) (h : Below w.heap.size w W)=>chain.walk A2 c2 ch W (Kd.C_below h2 h))
 have HAT : Hid (∀ (W : World) (h : Below w.heap.size w W),Calls Tryz.prog 161 #[.slice none 0 c,.string key] W fun e w'=>e = .returned (.int .i64 0) ∧ Below W.heap.size W w'):=fun W h=>lessE.walk none c [] key W (Kd.C_below hr h)
 have HFD : Hid (∀ (W : World) (h : Below w.heap.size w W),Calls Tryz.prog 104 #[.slice none 0 c,.string key] W fun e w'=>e = .returned (.int .i64 (-1)) ∧ Below W.heap.size W w'):=fun W h=>findE.walk none c [] key W (Kd.C_below hr h)
 have HCL:=zh (fun (W : World) (h : Below w.heap.size w W)=>clone_v.calls A2 c2 ch W (Kd.C_below h2 h) (by have:=chain_le q3;omega))
 rw [q2] at HKY
 rw [q3,show errB true = 0 from rfl] at HCH
 clear q2 q3 hr h2
 have dch : decide ((0 : Int) < (ch.length : Int)) = true:=decide_eq_true (by omega)
 have dcn : decide (0 < ch.length) = true:=decide_eq_true (by omega)
 have dcp : 0 < ch.length:=by omega
 have d0 : (0 : Int) ≤ (c : Int):=by omega
 clear q5
 go_enter Tryz.func132,Tryz.ntmps132
 go_wp2_with (first
  | (go_at_call 67;go_must (refine HIX.out.mono ?_;rintro e w1 ⟨rfl,hb⟩;have HB1:=zh hb;clear hb))
  | (go_at_call 77;go_must (refine (HKY.out _).mono ?_;rintro e w2 ⟨rfl,hb⟩;have HB2:=keepB HB1 hb;clear hb))
  | (go_at_call 109;go_must (refine (HCH.out _ HB2.out).mono ?_;rintro e w3 ⟨rfl,hb⟩;have HB3:=keepB HB2 hb;clear hb))
  | (go_at_call 161;go_must (refine (HAT.out _ HB3.out).mono ?_;rintro e w4 ⟨rfl,hb⟩;have HB4:=keepB HB3 hb;clear hb))
  | (go_at_call 104;go_must (refine (HFD.out _ HB4.out).mono ?_;rintro e w5 ⟨rfl,hb⟩;have HB5:=keepB HB4 hb;clear hb))
  | (go_at_call 105;go_must (refine (HCL.out _ HB5.out).mono ?_;rintro e w6 ⟨A6,c6,rfl,hc6,hC6,hb⟩;have HC6:=hC6;have HB6:=keepB HB5 hb;clear hb hC6))
  | ((with_reducible refine gate_dst (N:=48) rfl ?_);go_must (refine lit_event ?hg (N:=48) ?hd (cs:=#[.string key,.slice A6 ch.length c6]) (t:=56) 1 ?hr ?_;(case hd=>rfl);(case hg=>rfl);(case hr=>first | (go_simp;done) | (go_simp;rfl));intro gb hgb w7 hb7 hbel7;have HB7:=keepB HB6 hbel7;have HE7:=zh (one_C (k56_mk w7 (⟨key,ch⟩ : S56) hc6 (Kd.C_below HC6.out hbel7)) (blkRaw (cs:=[.string key,.slice A6 ch.length c6]) hb7));clear hgb hb7 hbel7))
  | ((with_reducible refine gate_builtin (b:=.append) (xs:=#[.tmp 43,.tmp 48]) rfl ?_);go_must (obtain ⟨iz,hi,hy0,hy1,hy2⟩:=info_parts info56;refine wpList_append_C (d:=k56) rfl (.tmp 43) (.tmp 48) 22 rfl 56 iz _ 40 Tryz.underlying22 hi hy0 hy1 hy2 rfl (by decide) none 0 0 ([] : List S56) rfl (C_mt _ _ _) (fun _=>rfl) (some ⟨gb,0,none⟩) 1 1 [(⟨key,ch⟩ : S56)] rfl HE7.out (Nat.le_refl _) (Or.inl (by omega)) (by omega) (by decide) ?_;intro AX cX wX hCX hcX hnX hbX;obtain ⟨ax,rfl⟩:=C_addr hCX.out (by omega);have HCX:=hCX;have HBX:=keepB HB7 hbX.out;have x1 : (1 : Int) ≤ (cX : Int):=(by omega);have x2 : 1 ≤ cX:=(by omega);clear hCX hnX hbX)))
 have HXX:=zc HCX (below_drew (Below.refl _ wX))
 have HBZ:=zh HBX.out.drew
 refine wp_region_held_drew (S:=fun W=>Kd.C k56 W (some ax) (0 + 1) [(⟨key,ch⟩ : S56)] ∧ Below w.heap.size w W) (by kernel_rfl) ?_ (fun hHeld=>?_)
 ·exact ⟨HXX.out,HBZ.out⟩
 clear HXX HBZ
 generalize wX.drew = wz at hHeld ⊢
 refine zt 0 ?_;try simp only [zN];refine zt 1 ?_;try simp only [zN];refine zt 2 ?_;try simp only [zN];refine zt 3 ?_;try simp only [zN];refine zt 4 ?_;try simp only [zN];refine zt 5 ?_;try simp only [zN];refine zt 6 ?_;try simp only [zN];refine zt 7 ?_;try simp only [zN];refine zt 8 ?_;try simp only [zN]
 refine wpAnyH_ready (rs:=[9]) (by kernel_rfl) (by simp) ?_
 refine AllReadyH.cons (o:=_) rfl (fun K hK=>?_) AllReadyH.nil
 rw [if_pos (by rfl)]
 obtain ⟨s0,s1⟩:=hHeld
 obtain ⟨iz,hi,hy0,hy1,hy2⟩:=info_parts info56
 refine wp_append_C (d:=k56) (.tmp 55) (.tmp 58) 22 rfl 56 iz _ 40 Tryz.underlying22 hi hy0 hy1 hy2 rfl (by decide) (some ax) (0 + 1) (0 + 1) [(⟨key,ch⟩ : S56)] rfl s0 (fun h=>by first | rfl | cases h) _ 0 _ ([] : List S56) rfl (C_mt _ _ _) (Nat.le_refl _) (Or.inr rfl) (by omega) (by decide) ?_
 intro AY cY wY hCY hcY hnY hbY
 have HCY:=hCY
 have HBY:=zh (s1.trans (hbY.out.mono s1.size))
 refine hK.out _ _ ⟨Kd.C_below s0 hbY.out,HBY.out⟩ (fun hHeld=>?_)
 clear hK K s0 s1 hCY hnY hbY
 try simp only [zN]
 refine zt 10 ?_;try simp only [zN]
 refine wpAnyH_done (by kernel_rfl) ?_ _
 go_wp2
 all_goals go_ret2
 all_goals exact ⟨AY,cY,rfl,hcY,HCY,HBY.out⟩
theorem putE_zn (A2 : Option Addr) (c c2 : Nat) (key : ByteArray) (ch : List S47) (w : World) (h2 : Kd.C k47 w A2 ch.length ch) (hc2 : ch.length ≤ c2) (q2 : keyB key = true) (q3 : chainB ch = true) (q5 : ch.length = 0) :
  Calls Tryz.prog 132 #[.slice none 0 c,.string key,.slice A2 ch.length c2] w (EPost ([] : List S56) 0 w):=by
 have hr : Kd.C k56 w none ([] : List S56).length []:=C_mt _ _ _
 have HIX : Hid (Calls Tryz.prog 67 #[.slice none 0 c] w fun e w'=>e = .returned (.int .i64 0) ∧ Below w.heap.size w w'):=index.walk none c [] w hr
 have HKY:=zh (fun (W : World)=>name_Key.calls key _ W rfl)
 have HCH:=zh (fun (W : World) (h : Below w.heap.size w W)=>chain.walk A2 c2 ch W (Kd.C_below h2 h))
 have HAT : Hid (∀ (W : World) (h : Below w.heap.size w W),Calls Tryz.prog 161 #[.slice none 0 c,.string key] W fun e w'=>e = .returned (.int .i64 0) ∧ Below W.heap.size W w'):=fun W h=>lessE.walk none c [] key W (Kd.C_below hr h)
 have HFD : Hid (∀ (W : World) (h : Below w.heap.size w W),Calls Tryz.prog 104 #[.slice none 0 c,.string key] W fun e w'=>e = .returned (.int .i64 (-1)) ∧ Below W.heap.size W w'):=fun W h=>findE.walk none c [] key W (Kd.C_below hr h)
 have HCL:=zh (fun (W : World) (h : Below w.heap.size w W)=>clone_v.calls A2 c2 ch W (Kd.C_below h2 h) (by have:=chain_le q3;omega))
 rw [q2] at HKY
 rw [q3,show errB true = 0 from rfl] at HCH
 clear q2 q3 hr h2
 have dch : decide ((0 : Int) < (ch.length : Int)) = false:=decide_eq_false (by omega)
 have dcn : decide (0 < ch.length) = false:=decide_eq_false (by omega)
 have dcp : ¬ 0 < ch.length:=by omega
 have d0 : (0 : Int) ≤ (c : Int):=by omega
 clear q5
 go_enter Tryz.func132,Tryz.ntmps132
 go_wp2_with (first
  | (go_at_call 67;go_must (refine HIX.out.mono ?_;rintro e w1 ⟨rfl,hb⟩;have HB1:=zh hb;clear hb))
  | (go_at_call 77;go_must (refine (HKY.out _).mono ?_;rintro e w2 ⟨rfl,hb⟩;have HB2:=keepB HB1 hb;clear hb))
  | (go_at_call 109;go_must (refine (HCH.out _ HB2.out).mono ?_;rintro e w3 ⟨rfl,hb⟩;have HB3:=keepB HB2 hb;clear hb))
  | (go_at_call 161;go_must (refine (HAT.out _ HB3.out).mono ?_;rintro e w4 ⟨rfl,hb⟩;have HB4:=keepB HB3 hb;clear hb))
  | (go_at_call 104;go_must (refine (HFD.out _ HB4.out).mono ?_;rintro e w5 ⟨rfl,hb⟩;have HB5:=keepB HB4 hb;clear hb)))
 have HXX : Hid (Kd.C k56 w5.drew none 0 []):=C_mt _ _ _
 have HBZ:=zh HB5.out.drew
 refine wp_region_held_drew (S:=fun W=>Kd.C k56 W none 0 ([] : List S56) ∧ Below w.heap.size w W) (by kernel_rfl) ?_ (fun hHeld=>?_)
 ·exact ⟨HXX.out,HBZ.out⟩
 clear HXX HBZ
 generalize w5.drew = wz at hHeld ⊢
 refine zt 0 ?_;try simp only [zN];refine zt 1 ?_;try simp only [zN];refine zt 2 ?_;try simp only [zN];refine zt 3 ?_;try simp only [zN];refine zt 4 ?_;try simp only [zN];refine zt 5 ?_;try simp only [zN];refine zt 6 ?_;try simp only [zN];refine zt 7 ?_;try simp only [zN];refine zt 8 ?_;try simp only [zN]
 refine wpAnyH_ready (rs:=[9]) (by kernel_rfl) (by simp) ?_
 refine AllReadyH.cons (o:=_) rfl (fun K hK=>?_) AllReadyH.nil
 rw [if_pos (by rfl)]
 obtain ⟨s0,s1⟩:=hHeld
 obtain ⟨iz,hi,hy0,hy1,hy2⟩:=info_parts info56
 refine wp_append_C (d:=k56) (.tmp 55) (.tmp 58) 22 rfl 56 iz _ 40 Tryz.underlying22 hi hy0 hy1 hy2 rfl (by decide) none 0 0 ([] : List S56) rfl s0 (fun h=>by first | rfl | cases h) _ 0 _ ([] : List S56) rfl (C_mt _ _ _) (Nat.le_refl _) (Or.inr rfl) (by omega) (by decide) ?_
 intro AY cY wY hCY hcY hnY hbY
 have HCY:=hCY
 have HBY:=zh (s1.trans (hbY.out.mono s1.size))
 refine hK.out _ _ ⟨Kd.C_below s0 hbY.out,HBY.out⟩ (fun hHeld=>?_)
 clear hK K s0 s1 hCY hnY hbY
 try simp only [zN]
 refine zt 10 ?_;try simp only [zN]
 refine wpAnyH_done (by kernel_rfl) ?_ _
 go_wp2
 all_goals go_ret2
 all_goals exact ⟨AY,cY,rfl,hcY,HCY,HBY.out⟩
theorem putE.walk (A A2 : Option Addr) (c c2 : Nat) (l : List S56) (key : ByteArray) (ch : List S47) (w : World) (hr : Kd.C k56 w A l.length l) (hc : l.length ≤ c) (h2 : Kd.C k47 w A2 ch.length ch) (hc2 : ch.length ≤ c2) :
  Calls Tryz.prog 132 #[.slice A l.length c,.string key,.slice A2 ch.length c2] w (EPost (putE l key ch).1 (putE l key ch).2 w):=by
 by_cases hb : indexB l = false ∨ keyB key = false ∨ chainB ch = false
 ·have e : putE l key ch = ([],1):=by unfold putE;rw [if_pos hb]
  rw [e]
  exact putE_no A A2 c c2 l key ch w hr h2 hb
 ·have q1 : indexB l = true:=by cases h : indexB l;exact absurd (Or.inl h) hb;rfl
  have q2 : keyB key = true:=by cases h : keyB key;exact absurd (Or.inr (Or.inl h)) hb;rfl
  have q3 : chainB ch = true:=by cases h : chainB ch;exact absurd (Or.inr (Or.inr h)) hb;rfl
  have hil:=less_le l key
  have hres : 60 < (putL l key ch).length ∧ putE l key ch = (([] : List S56),(6 : Int)) ∨ ¬ 60 < (putL l key ch).length ∧ putE l key ch = (putL l key ch,0):=by
   unfold putE
   rw [if_neg hb]
   by_cases h : 60 < (putL l key ch).length
   ·exact Or.inl ⟨h,by rw [if_pos h]⟩
   ·exact Or.inr ⟨h,by rw [if_neg h]⟩
  cases q4 : l.any (eqK key)
  ·rcases Nat.eq_zero_or_pos ch.length with q5 | q5
   ·have e : putL l key ch = l.take (lessN l key) ++ l.drop (lessN l key):=by unfold putL;rw [q4,if_pos q5,if_neg (by simp),List.append_nil,Nat.add_zero]
    rw [e] at hres
    cases A with
    | none =>
     obtain ⟨_,rfl⟩:=C_none hr
     have e2 : putE [] key ch = ([],0):=by rcases hres with ⟨h,_⟩ | ⟨_,h⟩;simp at h;exact h
     rw [e2]
     exact putE_zn A2 c c2 key ch w h2 hc2 q2 q3 q5
    | some ad=>exact putE_fn ad A2 c c2 l key ch w hr hc h2 hc2 q1 q2 q3 q4 q5 _ rfl hil hil _ hres
   ·have e : putL l key ch = (l.take (lessN l key) ++ [⟨key,ch⟩]) ++ l.drop (lessN l key):=by unfold putL;rw [q4,if_neg (by omega),if_neg (by simp),Nat.add_zero]
    rw [e] at hres
    cases A with
    | none =>
     obtain ⟨_,rfl⟩:=C_none hr
     have e2 : putE [] key ch = ([⟨key,ch⟩],0):=by rcases hres with ⟨h,_⟩ | ⟨_,h⟩;simp at h;exact h
     rw [e2]
     exact putE_zt A2 c c2 key ch w h2 hc2 q2 q3 q5
    | some ad=>exact putE_ft ad A2 c c2 l key ch w hr hc h2 hc2 q1 q2 q3 q4 q5 _ rfl hil hil _ hres
  ·have hlt:=less_lt l key q4
   obtain ⟨ad,rfl⟩:=C_addr hr (by omega)
   rcases Nat.eq_zero_or_pos ch.length with q5 | q5
   ·have e : putL l key ch = l.take (lessN l key) ++ l.drop (lessN l key + 1):=by unfold putL;rw [q4,if_pos q5,if_pos rfl,List.append_nil]
    rw [e] at hres
    exact putE_tn ad A2 c c2 l key ch w hr hc h2 hc2 q1 q2 q3 q4 q5 _ rfl hil (by omega) _ hres
   ·have e : putL l key ch = (l.take (lessN l key) ++ [⟨key,ch⟩]) ++ l.drop (lessN l key + 1):=by unfold putL;rw [q4,if_neg (by omega),if_pos rfl]
    rw [e] at hres
    exact putE_tt ad A2 c c2 l key ch w hr hc h2 hc2 q1 q2 q3 q4 q5 _ rfl hil (by omega) _ hres
end
section
open Go.WideMaps Go.Maps
theorem cell_in {w : World} {p : Addr} {u : Value} {cs : Array Value} {t : TypeId} {fr : Nat × Nat} (h : w.cell? p = some u) (hb : w.heap[p.block]? = some (.cells cs t fr)) : cs[p.off]? = some u:=by
 have : p.spot = none ∧ cs[p.off]? = some u:=by simpa [World.cell?,hb] using h
 exact this.2
theorem add_blk (a : Addr) (n : Nat) : (a.add n).block = a.block ∧ (a.add n).off = a.off + n:=by
 unfold Addr.add;split <;> simp_all
theorem C_sep {α : Type} {d : Kd α} {w w1 : World} {g : Nat} {cs : Array Value} {t : TypeId} {fr : Nat × Nat} {A : Option Addr} {n : Nat} {l : List α} (h : Kd.C d w A n l) (hg : w.heap[g]? = some (.cells cs t fr)) (ho : Only g w w1)
  (hsep : ∀ (x : α) (c : List Value) (o : Nat),d.K w x c → (∀ (i : Nat) (u : Value),c[i]? = some u → cs[o + i]? = some u) → False) (hK : ∀ (x : α) (c : List Value),d.K w x c → d.K w1 x c) : Kd.C d w1 A n l:=by
 obtain ⟨h1,h2,h3⟩:=h
 refine ⟨h1,h2,fun h0=>?_⟩
 obtain ⟨ad,e,hc⟩:=h3 h0
 refine ⟨ad,e,fun j x hx=>?_⟩
 obtain ⟨c,h4,h5,h6⟩:=hc j x hx
 refine ⟨c,h4,hK x c h5,fun i u hu=>?_⟩
 have hb : ad.block ≠ g:=fun e=>hsep x c (ad.off + j * d.sz) h5 (fun i u hu=>by
  have:=cell_in (h6 i u hu) (by rw [(add_blk _ _).1,e];exact hg)
  rwa [(add_blk _ _).2,← Nat.add_assoc] at this)
 exact ho.cell (by rw [(add_blk _ _).1];exact hb) (h6 i u hu)
/-- cells among which there is a string in the first place alone, no bool anywhere, and no slice behind the first -/
def WorkLike (cs : Array Value) : Prop:=(∀ (k : Nat) (s : ByteArray),cs[k]? = some (Value.string s) → k = 0) ∧ (∀ (k : Nat) (b : Bool),cs[k]? ≠ some (Value.bool b)) ∧ (∀ (A : Option Addr) (n c : Nat),cs[1]? ≠ some (Value.slice A n c))
theorem work_like (s : ByteArray) (i : Int) (A2 : Option Addr) (n2 c2 : Nat) (A3 : Option Addr) (n3 c3 : Nat) (l e : Int) : WorkLike #[.string s,.int .i64 i,.slice A2 n2 c2,.slice A3 n3 c3,.int .u64 l,.int .i64 e]:=by
 refine ⟨fun k s h=>?_,fun k b h=>?_,fun A n c h=>?_⟩
 ·rcases k with _ | _ | _ | _ | _ | _ | k <;> simp at h ⊢
 ·rcases k with _ | _ | _ | _ | _ | _ | k <;> simp at h
 ·simp at h
section
variable {w w1 : World} {g : Nat} {cs : Array Value} {t : TypeId} {fr : Nat × Nat} {A : Option Addr} {n : Nat}
theorem keepV {l : List S47} (h : Kd.C k47 w A n l) (hg : w.heap[g]? = some (.cells cs t fr)) (hw : WorkLike cs) (ho : Only g w w1) : Kd.C k47 w1 A n l :=
 C_sep h hg ho (fun x c o hk hc=>by obtain rfl:=k47_open hk;exact hw.2.1 _ _ (hc 2 _ rfl)) (fun x c hk=>by obtain rfl:=k47_open hk;exact k47_mk w1 x)
theorem keepPt {l : List S40} (h : Kd.C k40 w A n l) (hg : w.heap[g]? = some (.cells cs t fr)) (hw : WorkLike cs) (ho : Only g w w1) : Kd.C k40 w1 A n l :=
 C_sep h hg ho (fun x c o hk hc=>by obtain rfl:=k40_open hk;exact absurd (hw.1 _ _ (hc 1 _ rfl)) (by omega)) (fun x c hk=>by obtain rfl:=k40_open hk;exact k40_mk w1 x)
theorem keepE {l : List S56} (h : Kd.C k56 w A n l) (hg : w.heap[g]? = some (.cells cs t fr)) (hw : WorkLike cs) (ho : Only g w w1) : Kd.C k56 w1 A n l :=
 C_sep h hg ho (fun x c o hk hc=>by
  obtain ⟨A1,c1,rfl,_,_⟩:=k56_open hk
  have h0:=hw.1 _ _ (hc 0 _ rfl)
  have h1:=hc 1 _ rfl
  rw [show o + 1 = 1 by omega] at h1
  exact hw.2.2 _ _ _ h1) (fun x c hk=>by obtain ⟨A1,c1,rfl,h1,h2⟩:=k56_open hk;exact k56_mk w1 x h1 (keepV h2 hg hw ho))
theorem keepU {l : List S101} (h : Kd.C k101 w A n l) (hg : w.heap[g]? = some (.cells cs t fr)) (hw : WorkLike cs) (ho : Only g w w1) : Kd.C k101 w1 A n l :=
 C_sep h hg ho (fun x c o hk hc=>by
  obtain ⟨A1,c1,rfl,_,_⟩:=k101_open hk
  exact absurd (hw.1 _ _ (hc 1 _ rfl)) (by omega)) (fun x c hk=>by obtain ⟨A1,c1,rfl,h1,h2⟩:=k101_open hk;exact k101_mk w1 x h1 (keepPt h2 hg hw ho))
end
end
section
open Go.WideMaps Go.Maps
attribute [local go_sem] Oper.semAt_some
theorem versions_no (fv : Value) (g : Nat) (c0 c1 c2 c3 c4 : Value) (e : Int) (key : ByteArray) (w : World) (he : e ≠ 0) (h : w.heap[g]? = some (.cells #[c0,c1,c2,c3,c4,.int .i64 e] 87 (0,0))) :
  Calls Tryz.prog 84 #[.pointer (some ⟨g,0,none⟩),.string key,fv] w fun x w'=>x = .returned (.tuple #[]) ∧ w' = w:=by
 have d5:=zb h 5 (.int .i64 e)
 have q0 : (e == 0) = false:=beq_eq_false_iff_ne.2 he
 have q1 : (e != 0) = true:=by rw [bne,q0];rfl
 clear h he
 go_enter Tryz.func84,Tryz.ntmps84
 go_wp2
 first | go_end0 | (simp only [Exit.inBlock,Exit.then];refine bodyPost_ret (results_none rfl _ _ _) rfl ?_) | refine bodyPost_ret (results_none rfl _ _ _) rfl ?_
 exact ⟨rfl,rfl⟩
/-- a bucket and the error behind 'versions' -/
def versR (b : S26) (key : ByteArray) (r : List S47 × Int) : S26 × Int :=
 if r.2 = 0 then (⟨b.f0,b.f1,(putE b.f2 key r.1).1,b.f3,b.f4⟩,(putE b.f2 key r.1).2) else (b,r.2)
def VersPost (g : Nat) (b : S26) (A3 : Option Addr) (c3 : Nat) (er : Int) (w : World) (x : Ending) (w' : World) : Prop :=
 ∃ A2 c2,x = .returned (.tuple #[]) ∧ b.f2.length ≤ c2 ∧ Hid (Kd.C k56 w' A2 b.f2.length b.f2) ∧ Hid (w'.heap[g]? = some (.cells #[.string b.f0,.int .i64 b.f1,.slice A2 b.f2.length c2,.slice A3 b.f3.length c3,.int .u64 b.f4,.int .i64 er] 87 (0,0))) ∧ Hid (Only g w w')
theorem only_below {g : Nat} {w w1 w2 : World} (h : Hid (Only g w w1)) (hb : Below w1.heap.size w1 w2) : Hid (Only g w w2) :=
 ⟨hb.os.trans h.out.os,hb.tape.trans h.out.tape,hb.output.trans h.out.output,Nat.le_trans h.out.size hb.size,fun k hk hg=>(hb.block k (Nat.lt_of_lt_of_le hk h.out.size)).trans (h.out.block k hk hg)⟩
theorem versions_go (f : Nat) (cb : Array Value) (g : Nat) (b : S26) (A2 A3 : Option Addr) (c2 c3 : Nat) (key : ByteArray) (r : List S47 × Int) (w : World) (h : w.heap[g]? = some (.cells #[.string b.f0,.int .i64 b.f1,.slice A2 b.f2.length c2,.slice A3 b.f3.length c3,.int .u64 b.f4,.int .i64 0] 87 (0,0))) (h2 : Kd.C k56 w A2 b.f2.length b.f2) (g2 : b.f2.length ≤ c2)
  (hn : ∀ x ∈ b.f2,x.f1.length ≤ 1000000) (eg : ∀ args w,(callFunc f args).run Tryz.prog w = .ok (.enter f args) w)
  (hd : ∀ A' c' W,Below w.heap.size w W → (getE b.f2 key).length ≤ c' → Kd.C k47 W A' (getE b.f2 key).length (getE b.f2 key) → Calls Tryz.prog f (#[.slice A' (getE b.f2 key).length c'] ++ cb) W (VPost r.1 r.2 W)) :
  Calls Tryz.prog 84 #[.pointer (some ⟨g,0,none⟩),.string key,.func (.func f) #[] cb] w (VersPost g (versR b key r).1 A3 c3 (versR b key r).2 w):=by
 have H:=zh h
 have a2:=zb h 2 (.slice A2 b.f2.length c2)
 have a5:=zb h 5 (.int .i64 0)
 have HGT:=zh (getE.walk A2 c2 b.f2 key w h2 hn)
 have HD:=zh hd;clear hd
 have HWL:=zh (work_like b.f0 b.f1 A2 b.f2.length c2 A3 b.f3.length c3 b.f4 0)
 have H2:=zh (fun (W : World) (ho : Only g w W)=>keepE h2 h HWL.out ho)
 generalize getE b.f2 key = old at *
 obtain ⟨rl,er⟩:=r
 by_cases he : er = 0
 ·subst he
  have e : versR b key (rl,0) = (⟨b.f0,b.f1,(putE b.f2 key rl).1,b.f3,b.f4⟩,(putE b.f2 key rl).2):=by unfold versR;rw [if_pos rfl]
  rw [e]
  have HNO:=zh (fun (W : World) hW=>no.walk g (.string b.f0) (.int .i64 b.f1) (.slice A2 b.f2.length c2) (.slice A3 b.f3.length c3) (.int .u64 b.f4) 0 0 false W hW)
  rw [noR_f] at HNO
  have HPU:=zh (fun (W : World) (A4 : Option Addr) (c4 : Nat) (hW : Kd.C k56 W A2 b.f2.length b.f2) (h4 : Kd.C k47 W A4 rl.length rl) (g4 : rl.length ≤ c4)=>putE.walk A2 A4 c2 c4 b.f2 key rl W hW g2 h4 g4)
  generalize putE b.f2 key rl = p at *
  obtain ⟨pl,pe⟩:=p
  clear h h2 hn e
  go_enter Tryz.func84,Tryz.ntmps84
  go_wp2_with (first
   | (go_at_call 49;go_must (refine HGT.out.mono ?_;rintro e w1 ⟨A1,c1,rfl,hc1,hC1,hb⟩;have HB1:=zh hb;have HC1:=hC1;have K1:=zk H hb;have a5:=zb K1.out 5 (.int .i64 0);clear hb hC1))
   | (go_at_fn f;go_must (refine (HD.out A1 c1 _ HB1.out hc1 HC1.out).mono ?_;rintro e w3 ⟨A4,c4,rfl,hc4,hC4,hb⟩;have HB3:=keepB HB1 hb;have HC4:=hC4;have K3:=zk K1 hb;clear hb hC4))
   | (go_at_call 45;go_must (refine (HNO.out _ K3.out).mono ?_;rintro e w5 ⟨rfl,hk5,ho5⟩;have K5:=hk5;have HO5:=only_trans (only_below (zh (Only.refl g w)) HB3.out) ho5;have HC5:=zh (keepV HC4.out K3.out HWL.out ho5.out);have b5:=zb K5.out 5 (.int .i64 0);have b2:=zb K5.out 2 (.slice A2 b.f2.length c2);clear hk5 ho5))
   | (go_at_call 132;go_must (refine (HPU.out _ A4 c4 (H2.out _ HO5.out) HC5.out hc4).mono ?_;rintro e w6 ⟨A6,c6,rfl,hc6,hC6,hb⟩;have HC6:=hC6;have HO6:=only_below HO5 hb;have K6:=zk K5 hb;clear hb hC6))
   | ((with_reducible refine gate_store (t:=22) (p:=50) (v:=.tmp 46) rfl ?_);go_must (refine zq 22 (.tmp 50) (.tmp 46) g 2 87 (.slice A6 pl.length c6) K6 (by kernel_rfl) ?_;intro w7 hk7 ho7))
   | ((with_reducible refine gate_store (t:=30) (p:=52) (v:=.tmp 47) rfl ?_);go_must (refine zq 30 (.tmp 52) (.tmp 47) g 5 87 (.int .i64 pe) hk7 (by kernel_rfl) ?_;intro w8 hk8 ho8)))
  go_end0
  have HLW:=work_like b.f0 b.f1 A2 b.f2.length c2 A3 b.f3.length c3 b.f4 0
  have HCF : Kd.C k56 w8 A6 pl.length pl:=keepE (keepE HC6.out K6.out HLW ho7.out) hk7.out (work_like b.f0 b.f1 A6 pl.length c6 A3 b.f3.length c3 b.f4 0) ho8.out
  exact ⟨A6,c6,rfl,hc6,HCF,hk8.out,only_trans (only_trans HO6 ho7) ho8⟩
 ·have e : versR b key (rl,er) = (b,er):=by unfold versR;rw [if_neg he]
  rw [e]
  have HNO:=zh (fun (W : World) hW=>no.walk g (.string b.f0) (.int .i64 b.f1) (.slice A2 b.f2.length c2) (.slice A3 b.f3.length c3) (.int .u64 b.f4) 0 er true W hW)
  rw [noR_0] at HNO
  have q0 : (er == 0) = false:=beq_eq_false_iff_ne.2 he
  have q1 : (er != 0) = true:=by rw [bne,q0];rfl
  clear h h2 hn e he
  go_enter Tryz.func84,Tryz.ntmps84
  go_wp2_with (first
   | (go_at_call 49;go_must (refine HGT.out.mono ?_;rintro e w1 ⟨A1,c1,rfl,hc1,hC1,hb⟩;have HB1:=zh hb;have HC1:=hC1;have K1:=zk H hb;have a5:=zb K1.out 5 (.int .i64 0);clear hb hC1))
   | (go_at_fn f;go_must (refine (HD.out A1 c1 _ HB1.out hc1 HC1.out).mono ?_;rintro e w3 ⟨A4,c4,rfl,hc4,hC4,hb⟩;have HB3:=keepB HB1 hb;have HC4:=hC4;have K3:=zk K1 hb;clear hb hC4))
   | (go_at_call 45;go_must (refine (HNO.out _ K3.out).mono ?_;rintro e w5 ⟨rfl,hk5,ho5⟩;have K5:=hk5;have HO5:=only_trans (only_below (zh (Only.refl g w)) HB3.out) ho5;have b5:=zb K5.out 5 (.int .i64 er);clear hk5 ho5)))
  go_end0
  exact ⟨A2,c2,rfl,g2,H2.out _ HO5.out,K5,HO5⟩
end
section
open Go.WideMaps Go.Maps
attribute [local go_sem] Oper.semAt_some
theorem close1_ok (b x : S26) (A2 A3 B2 B3 : Option Addr) (c2 c3 d2 d3 : Nat) (ge gw gb : Nat) (er : Int) (u : FrameMode) (w : World) (he : w.heap[ge]? = some (.cells #[.int .i64 er] 30 (0,0))) (hw : w.heap[gw]? = some (.cells #[.string x.f0,.int .i64 x.f1,.slice B2 x.f2.length d2,.slice B3 x.f3.length d3,.int .u64 x.f4] 26 (0,0))) (hb : w.heap[gb]? = some (.cells #[.string b.f0,.int .i64 b.f1,.slice A2 b.f2.length c2,.slice A3 b.f3.length c3,.int .u64 b.f4] 26 (0,0))) (hz : er = 0) :
  CallsD Tryz.prog 80 #[.pointer (some ⟨ge,0,none⟩),.pointer (some ⟨gw,0,none⟩),.pointer (some ⟨gb,0,none⟩)] u w fun e u' w'=>u' = u ∧ (e = .returned (.tuple #[]) ∧ (Hid (w'.heap[gb]? = some (.cells #[.string b.f0,.int .i64 b.f1,.slice A2 b.f2.length c2,.slice A3 b.f3.length c3,.int .u64 b.f4] 26 (0,0))) ∧ Hid (Only gb w w'))):=by
 have HB:=zh hb
 have e0:=zb he 0 (.int .i64 er)
 have x0:=zb hw 0 (.string x.f0)
 have x1:=zb hw 1 (.int .i64 x.f1)
 have x2:=zb hw 2 (.slice B2 x.f2.length d2)
 have x3:=zb hw 3 (.slice B3 x.f3.length d3)
 have x4:=zb hw 4 (.int .u64 x.f4)
 have q0 : (er == 0) = true:=beq_iff_eq.2 hz
 have q1 : (er != 0) = false:=by rw [bne,q0];rfl
 clear he hw hb hz
 go_enter_d Tryz.func80,Tryz.ntmps80
 go_wp2
 go_end0
 first | exact ⟨rfl,rfl,HB,Only.refl _ _⟩ | exact ⟨rfl,HB,Only.refl _ _⟩ | exact ⟨HB,Only.refl _ _⟩
theorem close1_err (b x : S26) (A2 A3 B2 B3 : Option Addr) (c2 c3 d2 d3 : Nat) (ge gw gb : Nat) (er : Int) (u : FrameMode) (w : World) (he : w.heap[ge]? = some (.cells #[.int .i64 er] 30 (0,0))) (hw : w.heap[gw]? = some (.cells #[.string x.f0,.int .i64 x.f1,.slice B2 x.f2.length d2,.slice B3 x.f3.length d3,.int .u64 x.f4] 26 (0,0))) (hb : w.heap[gb]? = some (.cells #[.string b.f0,.int .i64 b.f1,.slice A2 b.f2.length c2,.slice A3 b.f3.length c3,.int .u64 b.f4] 26 (0,0))) (hz : er ≠ 0) :
  CallsD Tryz.prog 80 #[.pointer (some ⟨ge,0,none⟩),.pointer (some ⟨gw,0,none⟩),.pointer (some ⟨gb,0,none⟩)] u w fun e u' w'=>u' = u ∧ (e = .returned (.tuple #[]) ∧ (Hid (w'.heap[gb]? = some (.cells #[.string x.f0,.int .i64 x.f1,.slice B2 x.f2.length d2,.slice B3 x.f3.length d3,.int .u64 x.f4] 26 (0,0))) ∧ Hid (Only gb w w'))):=by
 have HB:=zh hb
 have e0:=zb he 0 (.int .i64 er)
 have x0:=zb hw 0 (.string x.f0)
 have x1:=zb hw 1 (.int .i64 x.f1)
 have x2:=zb hw 2 (.slice B2 x.f2.length d2)
 have x3:=zb hw 3 (.slice B3 x.f3.length d3)
 have x4:=zb hw 4 (.int .u64 x.f4)
 have q0 : (er == 0) = false:=beq_eq_false_iff_ne.2 hz
 have q1 : (er != 0) = true:=by rw [bne,q0];rfl
 clear he hw hb hz
 go_enter_d Tryz.func80,Tryz.ntmps80
 go_wp2_with ((with_reducible refine gate_store (t:=26) (p:=2) (v:=.tmp 5) rfl ?_);go_must (refine zs 26 (.tmp 2) (.tmp 5) gb 0 26 [.string x.f0,.int .i64 x.f1,.slice B2 x.f2.length d2,.slice B3 x.f3.length d3,.int .u64 x.f4] HB isz_bucket ?_;intro w1 hk1 ho1))
 go_end0
 first | exact ⟨rfl,rfl,hk1,ho1⟩ | exact ⟨rfl,hk1,ho1⟩ | exact ⟨hk1,ho1⟩
theorem hidOnly {g k : Nat} {w w1 w2 : World} (h : Only g w w1) (ho : Only k w1 w2) (hk : w.heap.size ≤ k) : Only g w w2 :=
 ⟨ho.os.trans h.os,ho.tape.trans h.tape,ho.output.trans h.output,Nat.le_trans h.size ho.size,fun i hi hg=>(ho.block i (Nat.lt_of_lt_of_le hi h.size) (by omega)).trans (h.block i hi hg)⟩
theorem leaves_tmps {P : Program} {fn : Func} {tm tm' : Array Value} {R : Ending → World → Prop} (h : ∀ w,(results fn tm').run P w = (results fn tm).run P w) : ∀ (ds : List Deferred) (u : FrameMode) (w : World),Leaves P fn tm R ds u w → Leaves P fn tm' R ds u w:=by
 intro ds
 induction ds with
 | nil =>
  intro u w hl
  cases u with
  | run=>exact hl
  | returning=>obtain ⟨v,h1,h2⟩:=hl;exact ⟨v,(h w).trans h1,h2⟩
  | panicking chain=>exact hl
 | cons d ds ih =>
  intro u w hl
  obtain ⟨hu,fv,cap,f,args,ht,hi,hc⟩:=hl
  refine ⟨hu,fv,cap,f,args,ht,hi,hc.mono fun e u' w' he=>?_⟩
  cases e with
  | returned v=>exact ih _ _ he
  | panicked chain=>exact ih _ _ he
  | outgrown=>exact he
theorem closeQ {R : Ending → World → Prop} {c : List PanicEntry} {a : Act} {w : World} {k : Tmp} {v : Value} (h4 : k ≠ 4) (h5 : k ≠ 5) (h : bodyPostD Tryz.prog Tryz.f36 R (.panic c) (a.put (some k) v) w) : bodyPostD Tryz.prog Tryz.f36 R (.panic c) a w:=by
 refine leaves_tmps (fun w=>?_) _ _ _ h
 have e4 : (a.put (some k) v).tmps[4]? = a.tmps[4]?:=by simp [Act.put,Array.getElem?_setIfInBounds,h4]
 have e5 : (a.put (some k) v).tmps[5]? = a.tmps[5]?:=by simp [Act.put,Array.getElem?_setIfInBounds,h5]
 simp only [results,Tryz.results36]
 simp [e4,e5]
theorem close_ok (b x : S26) (A2 A3 B2 B3 : Option Addr) (c2 c3 d2 d3 : Nat) (g : Nat) (w : World) (h : w.heap[g]? = some (.cells #[.string b.f0,.int .i64 b.f1,.slice A2 b.f2.length c2,.slice A3 b.f3.length c3,.int .u64 b.f4,.int .i64 0] 87 (0,0))) (h2 : Kd.C k56 w A2 b.f2.length b.f2) (g2 : b.f2.length ≤ c2) (h3 : Kd.C k101 w A3 b.f3.length b.f3) (g3 : b.f3.length ≤ c3) (q2 : indexB b.f2 = true) (q3 : checkB b.f3 = true) (q4 : octB b.f2 b.f3 ≤ 20000) :
  Calls Tryz.prog 36 #[.pointer (some ⟨g,0,none⟩),.agg #[.string x.f0,.int .i64 x.f1,.slice B2 x.f2.length d2,.slice B3 x.f3.length d3,.int .u64 x.f4]] w fun y w'=>y = .returned (.tuple #[.agg #[.string b.f0,.int .i64 b.f1,.slice A2 b.f2.length c2,.slice A3 b.f3.length c3,.int .u64 b.f4],.int .i64 0]) ∧ Hid (Only g w w'):=by
 have H:=zh h
 have HOC:=zh (fun (W : World) (hW : Below w.heap.size w W)=>octets_calls (w:=W) b.f0 b.f1 b.f2 b.f3 b.f4 (Kd.C_below h2 hW) g2 (Kd.C_below h3 hW) g3 q2 q3)
 have HNO:=zh (fun (W : World) hW=>no.walk g (.string b.f0) (.int .i64 b.f1) (.slice A2 b.f2.length c2) (.slice A3 b.f3.length c3) (.int .u64 b.f4) 0 6 false W hW)
 rw [noR_f] at HNO
 have dq : decide (20000 < octB b.f2 b.f3) = false:=decide_eq_false (by omega)
 generalize octB b.f2 b.f3 = oc at *
 have hgl:=blk_lt h
 clear h h2 h3 q4
 go_enter_defers Tryz.func36,Tryz.ntmps36
 go_wp2_with (first
  | ((with_reducible refine gate_dst (N:=3) rfl ?_);go_must (refine zbx 3 #[.string x.f0,.int .i64 x.f1,.slice B2 x.f2.length d2,.slice B3 x.f3.length d3,.int .u64 x.f4] 26 ?_;intro gw hgw w1 hb1 hbel1;have KW1:=zh hb1;have HB1:=zh hbel1;have GW:=zh (show w.heap.size ≤ gw by rw [hgw];exact Nat.le_refl _);have LW:=zh (blk_lt hb1);clear hb1 hbel1 hgw))
  | ((with_reducible refine gate_dst (N:=4) rfl ?_);go_must (refine zbx 4 #[.string ⟨#[]⟩,.int .i64 0,.slice none 0 0,.slice none 0 0,.int .u64 0] 26 ?_;intro gb hgb w2 hb2 hbel2;have KB2:=zh hb2;have HB2:=keepB HB1 hbel2;have GB:=zh (show gw < gb by rw [hgb];exact LW.out);have KW2:=zk KW1 hbel2;have LB:=zh (blk_lt hb2);clear hb2 hbel2 hgb))
  | ((with_reducible refine gate_dst (N:=5) rfl ?_);go_must (refine zbx 5 #[.int .i64 0] 30 ?_;intro ge hge w3 hb3 hbel3;have KE3:=zh hb3;have HB3:=keepB HB2 hbel3;have GE:=zh (show gb < ge by rw [hge];exact LB.out);have KW3:=zk KW2 hbel3;have KB3:=zk KB2 hbel3;have K3:=zk H HB3.out;obtain ⟨a0,a1,a2,a3,a4,a5⟩:=zz6 K3.out;clear hb3 hbel3 hge))
  | (go_at_call 69;go_must (refine (HOC.out _ HB3.out).mono ?_;rintro y w4 ⟨rfl,hb⟩;have HB4:=keepB HB3 hb;have K4:=zk K3 hb;have KW4:=zk KW3 hb;have KB4:=zk KB3 hb;have KE4:=zk KE3 hb;clear hb))
  | (go_at_call 45;go_must (refine (HNO.out _ K4.out).mono ?_;rintro y w5 ⟨rfl,hk5,ho5⟩;have K5:=hk5;have HO5:=ho5;obtain ⟨b0,b1,b2,b3,b4,b5⟩:=zz6 hk5.out;clear hk5 ho5)))
 have nw : Hid (gw ≠ g):=by have:=GW.out;unfold Hid;omega
 have nb : Hid (gb ≠ g):=by have:=GW.out;have:=GB.out;unfold Hid;omega
 have ne : Hid (ge ≠ g):=by have:=GW.out;have:=GB.out;have:=GE.out;unfold Hid;omega
 have KW5:=zh (blk_drew (HO5.out.blk KW4.out nw.out))
 have KB5:=zh (blk_drew (HO5.out.blk KB4.out nb.out))
 have KE5:=zh (blk_drew (HO5.out.blk KE4.out ne.out))
 have K6:=zh (blk_drew K5.out)
 have HO6:=zh ((only_trans (only_below (zh (Only.refl g w)) HB4.out) HO5).out.drewN 1)
 clear K3 KW1 KW2 KW3 KB2 KB3 KE3 KW4 KB4 KE4 HB1 HB2 HB3 HB4 HO5 H HNO
 refine wp_region_held_drew (S:=fun W=>W.cell? ⟨g,0,none⟩ = some (.string b.f0) ∧ W.cell? ⟨g,1,none⟩ = some (.int .i64 b.f1) ∧ W.cell? ⟨g,2,none⟩ = some (.slice A2 b.f2.length c2) ∧ W.cell? ⟨g,3,none⟩ = some (.slice A3 b.f3.length c3) ∧ W.cell? ⟨g,4,none⟩ = some (.int .u64 b.f4) ∧ W.cell? ⟨g,5,none⟩ = some (.int .i64 0) ∧ W.heap[gw]? = some (.cells #[.string x.f0,.int .i64 x.f1,.slice B2 x.f2.length d2,.slice B3 x.f3.length d3,.int .u64 x.f4] 26 (0,0)) ∧ (∃ q0 q1 q2 q3 q4,W.heap[gb]? = some (.cells #[q0,q1,q2,q3,q4] 26 (0,0))) ∧ (∃ q0,W.heap[ge]? = some (.cells #[q0] 30 (0,0))) ∧ Only g w W) (by kernel_rfl) ?_ (fun hHeld=>?_)
 ·exact ⟨zj K6 0,zj K6 1,zj K6 2,zj K6 3,zj K6 4,zj K6 5,KW5.out,⟨_,_,_,_,_,KB5.out⟩,⟨_,KE5.out⟩,HO6.out⟩
 have GWB:=zh (show w.heap.size ≤ gb by have:=GW.out;have:=GB.out;omega)
 have GWE:=zh (show w.heap.size ≤ ge by have:=GWB.out;have:=GE.out;omega)
 clear KW5 KB5 KE5 K6 HO6
 generalize w5.drew = w6 at hHeld ⊢
 refine tk (i:=0) (v:=?v0g1) rfl hHeld (Or.inl ⟨rfl,?y0g1⟩) ?r0g1 (hQ:=fun _ _ _ h=>closeQ (by decide) (by decide) h)
 case y0g1=>(rintro w ⟨s0,s1,s2,s3,s4,s5,s6,s7,s8,s9⟩;go_simp;try with_reducible rfl)
 try simp only [zN]
 refine tk (i:=1) (v:=?v1g1) rfl hHeld (Or.inl ⟨rfl,?y1g1⟩) ?r1g1 (hQ:=fun _ _ _ h=>closeQ (by decide) (by decide) h)
 case y1g1=>(rintro w ⟨s0,s1,s2,s3,s4,s5,s6,s7,s8,s9⟩;go_simp;try with_reducible rfl)
 try simp only [zN]
 refine tk (i:=2) (v:=?v2g1) rfl hHeld (Or.inl ⟨rfl,?y2g1⟩) ?r2g1 (hQ:=fun _ _ _ h=>closeQ (by decide) (by decide) h)
 case y2g1=>(rintro w ⟨s0,s1,s2,s3,s4,s5,s6,s7,s8,s9⟩;go_simp;try with_reducible rfl)
 try simp only [zN]
 refine tk (i:=3) (v:=?v3g1) rfl hHeld (Or.inl ⟨rfl,?y3g1⟩) ?r3g1 (hQ:=fun _ _ _ h=>closeQ (by decide) (by decide) h)
 case y3g1=>(rintro w ⟨s0,s1,s2,s3,s4,s5,s6,s7,s8,s9⟩;go_simp;try with_reducible rfl)
 try simp only [zN]
 refine tk (i:=4) (v:=?v4g1) rfl hHeld (Or.inl ⟨rfl,?y4g1⟩) ?r4g1 (hQ:=fun _ _ _ h=>closeQ (by decide) (by decide) h)
 case y4g1=>(rintro w ⟨s0,s1,s2,s3,s4,s5,s6,s7,s8,s9⟩;go_simp;try with_reducible rfl)
 try simp only [zN]
 refine tk (i:=5) (v:=?v5g1) rfl hHeld (Or.inl ⟨rfl,?y5g1⟩) ?r5g1 (hQ:=fun _ _ _ h=>closeQ (by decide) (by decide) h)
 case y5g1=>(rintro w ⟨s0,s1,s2,s3,s4,s5,s6,s7,s8,s9⟩;go_simp;try with_reducible rfl)
 try simp only [zN]
 refine tk (i:=6) (v:=?v6g1) rfl hHeld (Or.inl ⟨rfl,?y6g1⟩) ?r6g1 (hQ:=fun _ _ _ h=>closeQ (by decide) (by decide) h)
 case y6g1=>(rintro w ⟨s0,s1,s2,s3,s4,s5,s6,s7,s8,s9⟩;go_simp;try with_reducible rfl)
 try simp only [zN]
 refine tk (i:=7) (v:=?v7g1) rfl hHeld (Or.inl ⟨rfl,?y7g1⟩) ?r7g1 (hQ:=fun _ _ _ h=>closeQ (by decide) (by decide) h)
 case y7g1=>(rintro w ⟨s0,s1,s2,s3,s4,s5,s6,s7,s8,s9⟩;go_simp;try with_reducible rfl)
 try simp only [zN]
 refine wpAnyH_ready (rs:=[8]) (by kernel_rfl) (by simp) ?_
 refine AllReadyH.cons (o:=_) rfl (fun K hK=>?_) AllReadyH.nil
 rw [if_pos (by rfl)]
 obtain ⟨s0,s1,s2,s3,s4,s5,s6,s7,s8,s9⟩:=hHeld
 obtain ⟨q0,q1,q2,q3,q4,s7⟩:=s7
 refine wp_store_row rfl 26 (.tmp 4) (.tmp 25) rfl gb 0 _ 26 (.agg #[.string b.f0,.int .i64 b.f1,.slice A2 b.f2.length c2,.slice A3 b.f3.length c3,.int .u64 b.f4]) [.string b.f0,.int .i64 b.f1,.slice A2 b.f2.length c2,.slice A3 b.f3.length c3,.int .u64 b.f4] rfl rfl s7 rfl isz_bucket (by show 0 + 5 ≤ 5;decide) (by simp [Value.oneCell']) ?_
 intro w7 hk7 ho7
 have KB7:=hk7
 have HO7:=zh (hidOnly s9 ho7.out GWB.out)
 refine hK.out _ _ ⟨Only.cell ho7.out (p:=⟨g,0,none⟩) (Ne.symm nb.out) s0,Only.cell ho7.out (p:=⟨g,1,none⟩) (Ne.symm nb.out) s1,Only.cell ho7.out (p:=⟨g,2,none⟩) (Ne.symm nb.out) s2,Only.cell ho7.out (p:=⟨g,3,none⟩) (Ne.symm nb.out) s3,Only.cell ho7.out (p:=⟨g,4,none⟩) (Ne.symm nb.out) s4,Only.cell ho7.out (p:=⟨g,5,none⟩) (Ne.symm nb.out) s5,ho7.out.blk s6 (Nat.ne_of_lt GB.out),⟨_,_,_,_,_,hk7.out⟩,(by obtain ⟨z,s8⟩:=s8;exact ⟨z,ho7.out.blk s8 (Nat.ne_of_gt GE.out)⟩),HO7.out⟩ (fun hHeld=>?_)
 clear hK K s7 hk7 ho7 HO7 s0 s1 s2 s3 s4 s5 s6 s8 s9
 try simp only [zN]
 refine wpAnyH_ready (rs:=[9]) (by kernel_rfl) (by simp) ?_
 refine AllReadyH.cons (o:=_) rfl (fun K hK=>?_) AllReadyH.nil
 rw [if_pos (by rfl)]
 obtain ⟨s0,s1,s2,s3,s4,s5,s6,s7,s8,s9⟩:=hHeld
 obtain ⟨q0,s8⟩:=s8
 refine wp_store_row rfl 30 (.tmp 5) (.tmp 29) rfl ge 0 _ 30 (.int .i64 0) [.int .i64 0] rfl rfl s8 rfl (by kernel_rfl) (by show 0 + 1 ≤ 1;decide) (by simp [Value.oneCell']) ?_
 intro w8 hk8 ho8
 have KB8:=zl ho8 KB7 (Nat.ne_of_lt GE.out)
 have KE8:=hk8
 have HO8:=zh (hidOnly s9 ho8.out GWE.out)
 have KW8:=zh (ho8.out.blk s6 (Nat.ne_of_lt (Nat.lt_trans GB.out GE.out)))
 refine hK.out _ _ ⟨Only.cell ho8.out (p:=⟨g,0,none⟩) (Ne.symm ne.out) s0,Only.cell ho8.out (p:=⟨g,1,none⟩) (Ne.symm ne.out) s1,Only.cell ho8.out (p:=⟨g,2,none⟩) (Ne.symm ne.out) s2,Only.cell ho8.out (p:=⟨g,3,none⟩) (Ne.symm ne.out) s3,Only.cell ho8.out (p:=⟨g,4,none⟩) (Ne.symm ne.out) s4,Only.cell ho8.out (p:=⟨g,5,none⟩) (Ne.symm ne.out) s5,KW8.out,⟨_,_,_,_,_,KB8.out⟩,⟨_,hk8.out⟩,HO8.out⟩ (fun hHeld=>?_)
 clear hK K s7 s8 hHeld hk8 ho8 s0 s1 s2 s3 s4 s5 s6 s9
 try simp only [zN]
 refine wpAnyH_done (by kernel_rfl) ?_ _
 go_wp2
 refine leaves_cons (f:=80) (args:=#[.pointer (some ⟨ge,0,none⟩),.pointer (some ⟨gw,0,none⟩),.pointer (some ⟨gb,0,none⟩)]) (by simp) (by simp [go_sem]) ?_
 refine (close1_ok b x A2 A3 B2 B3 c2 c3 d2 d3 ge gw gb 0 .returning _ KE8.out KW8.out KB8.out rfl).mono ?_
 rintro y u' w9 ⟨rfl,rfl,hk9,ho9⟩
 have KE9:=zl ho9 KE8 (Nat.ne_of_gt GE.out)
 have z0:=zb hk9.out 0 (.string b.f0)
 have z1:=zb hk9.out 1 (.int .i64 b.f1)
 have z2:=zb hk9.out 2 (.slice A2 b.f2.length c2)
 have z3:=zb hk9.out 3 (.slice A3 b.f3.length c3)
 have z4:=zb hk9.out 4 (.int .u64 b.f4)
 have z5:=zb KE9.out 0 (.int .i64 0)
 simp only [Leaves,settle]
 refine ⟨.tuple #[.agg #[.string b.f0,.int .i64 b.f1,.slice A2 b.f2.length c2,.slice A3 b.f3.length c3,.int .u64 b.f4],.int .i64 0],?_,rfl,zh (hidOnly HO8.out ho9.out GWB.out)⟩
 simp [results,Tryz.results36,go_sem,z0,z1,z2,z3,z4,z5]
theorem close_big (b x : S26) (A2 A3 B2 B3 : Option Addr) (c2 c3 d2 d3 : Nat) (g : Nat) (w : World) (h : w.heap[g]? = some (.cells #[.string b.f0,.int .i64 b.f1,.slice A2 b.f2.length c2,.slice A3 b.f3.length c3,.int .u64 b.f4,.int .i64 0] 87 (0,0))) (h2 : Kd.C k56 w A2 b.f2.length b.f2) (g2 : b.f2.length ≤ c2) (h3 : Kd.C k101 w A3 b.f3.length b.f3) (g3 : b.f3.length ≤ c3) (q2 : indexB b.f2 = true) (q3 : checkB b.f3 = true) (q4 : ¬ octB b.f2 b.f3 ≤ 20000) :
  Calls Tryz.prog 36 #[.pointer (some ⟨g,0,none⟩),.agg #[.string x.f0,.int .i64 x.f1,.slice B2 x.f2.length d2,.slice B3 x.f3.length d3,.int .u64 x.f4]] w fun y w'=>y = .returned (.tuple #[.agg #[.string x.f0,.int .i64 x.f1,.slice B2 x.f2.length d2,.slice B3 x.f3.length d3,.int .u64 x.f4],.int .i64 6]) ∧ Hid (Only g w w'):=by
 have H:=zh h
 have HOC:=zh (fun (W : World) (hW : Below w.heap.size w W)=>octets_calls (w:=W) b.f0 b.f1 b.f2 b.f3 b.f4 (Kd.C_below h2 hW) g2 (Kd.C_below h3 hW) g3 q2 q3)
 have HNO:=zh (fun (W : World) hW=>no.walk g (.string b.f0) (.int .i64 b.f1) (.slice A2 b.f2.length c2) (.slice A3 b.f3.length c3) (.int .u64 b.f4) 0 6 true W hW)
 rw [noR_0] at HNO
 have dq : decide (20000 < octB b.f2 b.f3) = true:=decide_eq_true (by omega)
 generalize octB b.f2 b.f3 = oc at *
 have hgl:=blk_lt h
 clear h h2 h3 q4
 go_enter_defers Tryz.func36,Tryz.ntmps36
 go_wp2_with (first
  | ((with_reducible refine gate_dst (N:=3) rfl ?_);go_must (refine zbx 3 #[.string x.f0,.int .i64 x.f1,.slice B2 x.f2.length d2,.slice B3 x.f3.length d3,.int .u64 x.f4] 26 ?_;intro gw hgw w1 hb1 hbel1;have KW1:=zh hb1;have HB1:=zh hbel1;have GW:=zh (show w.heap.size ≤ gw by rw [hgw];exact Nat.le_refl _);have LW:=zh (blk_lt hb1);clear hb1 hbel1 hgw))
  | ((with_reducible refine gate_dst (N:=4) rfl ?_);go_must (refine zbx 4 #[.string ⟨#[]⟩,.int .i64 0,.slice none 0 0,.slice none 0 0,.int .u64 0] 26 ?_;intro gb hgb w2 hb2 hbel2;have KB2:=zh hb2;have HB2:=keepB HB1 hbel2;have GB:=zh (show gw < gb by rw [hgb];exact LW.out);have KW2:=zk KW1 hbel2;have LB:=zh (blk_lt hb2);clear hb2 hbel2 hgb))
  | ((with_reducible refine gate_dst (N:=5) rfl ?_);go_must (refine zbx 5 #[.int .i64 0] 30 ?_;intro ge hge w3 hb3 hbel3;have KE3:=zh hb3;have HB3:=keepB HB2 hbel3;have GE:=zh (show gb < ge by rw [hge];exact LB.out);have KW3:=zk KW2 hbel3;have KB3:=zk KB2 hbel3;have K3:=zk H HB3.out;obtain ⟨a0,a1,a2,a3,a4,a5⟩:=zz6 K3.out;clear hb3 hbel3 hge))
  | (go_at_call 69;go_must (refine (HOC.out _ HB3.out).mono ?_;rintro y w4 ⟨rfl,hb⟩;have HB4:=keepB HB3 hb;have K4:=zk K3 hb;have KW4:=zk KW3 hb;have KB4:=zk KB3 hb;have KE4:=zk KE3 hb;clear hb))
  | (go_at_call 45;go_must (refine (HNO.out _ K4.out).mono ?_;rintro y w5 ⟨rfl,hk5,ho5⟩;have K5:=hk5;have HO5:=ho5;obtain ⟨b0,b1,b2,b3,b4,b5⟩:=zz6 hk5.out;clear hk5 ho5)))
 have nw : Hid (gw ≠ g):=by have:=GW.out;unfold Hid;omega
 have nb : Hid (gb ≠ g):=by have:=GW.out;have:=GB.out;unfold Hid;omega
 have ne : Hid (ge ≠ g):=by have:=GW.out;have:=GB.out;have:=GE.out;unfold Hid;omega
 have KW5:=zh (blk_drew (HO5.out.blk KW4.out nw.out))
 have KB5:=zh (blk_drew (HO5.out.blk KB4.out nb.out))
 have KE5:=zh (blk_drew (HO5.out.blk KE4.out ne.out))
 have K6:=zh (blk_drew K5.out)
 have HO6:=zh ((only_trans (only_below (zh (Only.refl g w)) HB4.out) HO5).out.drewN 1)
 clear K3 KW1 KW2 KW3 KB2 KB3 KE3 KW4 KB4 KE4 HB1 HB2 HB3 HB4 HO5 H HNO
 refine wp_region_held_drew (S:=fun W=>W.cell? ⟨g,0,none⟩ = some (.string b.f0) ∧ W.cell? ⟨g,1,none⟩ = some (.int .i64 b.f1) ∧ W.cell? ⟨g,2,none⟩ = some (.slice A2 b.f2.length c2) ∧ W.cell? ⟨g,3,none⟩ = some (.slice A3 b.f3.length c3) ∧ W.cell? ⟨g,4,none⟩ = some (.int .u64 b.f4) ∧ W.cell? ⟨g,5,none⟩ = some (.int .i64 6) ∧ W.heap[gw]? = some (.cells #[.string x.f0,.int .i64 x.f1,.slice B2 x.f2.length d2,.slice B3 x.f3.length d3,.int .u64 x.f4] 26 (0,0)) ∧ (∃ q0 q1 q2 q3 q4,W.heap[gb]? = some (.cells #[q0,q1,q2,q3,q4] 26 (0,0))) ∧ (∃ q0,W.heap[ge]? = some (.cells #[q0] 30 (0,0))) ∧ Only g w W) (by kernel_rfl) ?_ (fun hHeld=>?_)
 ·exact ⟨zj K6 0,zj K6 1,zj K6 2,zj K6 3,zj K6 4,zj K6 5,KW5.out,⟨_,_,_,_,_,KB5.out⟩,⟨_,KE5.out⟩,HO6.out⟩
 have GWB:=zh (show w.heap.size ≤ gb by have:=GW.out;have:=GB.out;omega)
 have GWE:=zh (show w.heap.size ≤ ge by have:=GWB.out;have:=GE.out;omega)
 clear KW5 KB5 KE5 K6 HO6
 generalize w5.drew = w6 at hHeld ⊢
 refine tk (i:=0) (v:=?v0g2) rfl hHeld (Or.inl ⟨rfl,?y0g2⟩) ?r0g2 (hQ:=fun _ _ _ h=>closeQ (by decide) (by decide) h)
 case y0g2=>(rintro w ⟨s0,s1,s2,s3,s4,s5,s6,s7,s8,s9⟩;go_simp;try with_reducible rfl)
 try simp only [zN]
 refine tk (i:=1) (v:=?v1g2) rfl hHeld (Or.inl ⟨rfl,?y1g2⟩) ?r1g2 (hQ:=fun _ _ _ h=>closeQ (by decide) (by decide) h)
 case y1g2=>(rintro w ⟨s0,s1,s2,s3,s4,s5,s6,s7,s8,s9⟩;go_simp;try with_reducible rfl)
 try simp only [zN]
 refine tk (i:=2) (v:=?v2g2) rfl hHeld (Or.inl ⟨rfl,?y2g2⟩) ?r2g2 (hQ:=fun _ _ _ h=>closeQ (by decide) (by decide) h)
 case y2g2=>(rintro w ⟨s0,s1,s2,s3,s4,s5,s6,s7,s8,s9⟩;go_simp;try with_reducible rfl)
 try simp only [zN]
 refine tk (i:=3) (v:=?v3g2) rfl hHeld (Or.inl ⟨rfl,?y3g2⟩) ?r3g2 (hQ:=fun _ _ _ h=>closeQ (by decide) (by decide) h)
 case y3g2=>(rintro w ⟨s0,s1,s2,s3,s4,s5,s6,s7,s8,s9⟩;go_simp;try with_reducible rfl)
 try simp only [zN]
 refine tk (i:=4) (v:=?v4g2) rfl hHeld (Or.inl ⟨rfl,?y4g2⟩) ?r4g2 (hQ:=fun _ _ _ h=>closeQ (by decide) (by decide) h)
 case y4g2=>(rintro w ⟨s0,s1,s2,s3,s4,s5,s6,s7,s8,s9⟩;go_simp;try with_reducible rfl)
 try simp only [zN]
 refine tk (i:=5) (v:=?v5g2) rfl hHeld (Or.inl ⟨rfl,?y5g2⟩) ?r5g2 (hQ:=fun _ _ _ h=>closeQ (by decide) (by decide) h)
 case y5g2=>(rintro w ⟨s0,s1,s2,s3,s4,s5,s6,s7,s8,s9⟩;go_simp;try with_reducible rfl)
 try simp only [zN]
 refine tk (i:=6) (v:=?v6g2) rfl hHeld (Or.inl ⟨rfl,?y6g2⟩) ?r6g2 (hQ:=fun _ _ _ h=>closeQ (by decide) (by decide) h)
 case y6g2=>(rintro w ⟨s0,s1,s2,s3,s4,s5,s6,s7,s8,s9⟩;go_simp;try with_reducible rfl)
 try simp only [zN]
 refine tk (i:=7) (v:=?v7g2) rfl hHeld (Or.inl ⟨rfl,?y7g2⟩) ?r7g2 (hQ:=fun _ _ _ h=>closeQ (by decide) (by decide) h)
 case y7g2=>(rintro w ⟨s0,s1,s2,s3,s4,s5,s6,s7,s8,s9⟩;go_simp;try with_reducible rfl)
 try simp only [zN]
 refine wpAnyH_ready (rs:=[8]) (by kernel_rfl) (by simp) ?_
 refine AllReadyH.cons (o:=_) rfl (fun K hK=>?_) AllReadyH.nil
 rw [if_pos (by rfl)]
 obtain ⟨s0,s1,s2,s3,s4,s5,s6,s7,s8,s9⟩:=hHeld
 obtain ⟨q0,q1,q2,q3,q4,s7⟩:=s7
 refine wp_store_row rfl 26 (.tmp 4) (.tmp 25) rfl gb 0 _ 26 (.agg #[.string b.f0,.int .i64 b.f1,.slice A2 b.f2.length c2,.slice A3 b.f3.length c3,.int .u64 b.f4]) [.string b.f0,.int .i64 b.f1,.slice A2 b.f2.length c2,.slice A3 b.f3.length c3,.int .u64 b.f4] rfl rfl s7 rfl isz_bucket (by show 0 + 5 ≤ 5;decide) (by simp [Value.oneCell']) ?_
 intro w7 hk7 ho7
 have KB7:=hk7
 have HO7:=zh (hidOnly s9 ho7.out GWB.out)
 refine hK.out _ _ ⟨Only.cell ho7.out (p:=⟨g,0,none⟩) (Ne.symm nb.out) s0,Only.cell ho7.out (p:=⟨g,1,none⟩) (Ne.symm nb.out) s1,Only.cell ho7.out (p:=⟨g,2,none⟩) (Ne.symm nb.out) s2,Only.cell ho7.out (p:=⟨g,3,none⟩) (Ne.symm nb.out) s3,Only.cell ho7.out (p:=⟨g,4,none⟩) (Ne.symm nb.out) s4,Only.cell ho7.out (p:=⟨g,5,none⟩) (Ne.symm nb.out) s5,ho7.out.blk s6 (Nat.ne_of_lt GB.out),⟨_,_,_,_,_,hk7.out⟩,(by obtain ⟨z,s8⟩:=s8;exact ⟨z,ho7.out.blk s8 (Nat.ne_of_gt GE.out)⟩),HO7.out⟩ (fun hHeld=>?_)
 clear hK K s7 hk7 ho7 HO7 s0 s1 s2 s3 s4 s5 s6 s8 s9
 try simp only [zN]
 refine wpAnyH_ready (rs:=[9]) (by kernel_rfl) (by simp) ?_
 refine AllReadyH.cons (o:=_) rfl (fun K hK=>?_) AllReadyH.nil
 rw [if_pos (by rfl)]
 obtain ⟨s0,s1,s2,s3,s4,s5,s6,s7,s8,s9⟩:=hHeld
 obtain ⟨q0,s8⟩:=s8
 refine wp_store_row rfl 30 (.tmp 5) (.tmp 29) rfl ge 0 _ 30 (.int .i64 6) [.int .i64 6] rfl rfl s8 rfl (by kernel_rfl) (by show 0 + 1 ≤ 1;decide) (by simp [Value.oneCell']) ?_
 intro w8 hk8 ho8
 have KB8:=zl ho8 KB7 (Nat.ne_of_lt GE.out)
 have KE8:=hk8
 have HO8:=zh (hidOnly s9 ho8.out GWE.out)
 have KW8:=zh (ho8.out.blk s6 (Nat.ne_of_lt (Nat.lt_trans GB.out GE.out)))
 refine hK.out _ _ ⟨Only.cell ho8.out (p:=⟨g,0,none⟩) (Ne.symm ne.out) s0,Only.cell ho8.out (p:=⟨g,1,none⟩) (Ne.symm ne.out) s1,Only.cell ho8.out (p:=⟨g,2,none⟩) (Ne.symm ne.out) s2,Only.cell ho8.out (p:=⟨g,3,none⟩) (Ne.symm ne.out) s3,Only.cell ho8.out (p:=⟨g,4,none⟩) (Ne.symm ne.out) s4,Only.cell ho8.out (p:=⟨g,5,none⟩) (Ne.symm ne.out) s5,KW8.out,⟨_,_,_,_,_,KB8.out⟩,⟨_,hk8.out⟩,HO8.out⟩ (fun hHeld=>?_)
 clear hK K s7 s8 hHeld hk8 ho8 s0 s1 s2 s3 s4 s5 s6 s9
 try simp only [zN]
 refine wpAnyH_done (by kernel_rfl) ?_ _
 go_wp2
 refine leaves_cons (f:=80) (args:=#[.pointer (some ⟨ge,0,none⟩),.pointer (some ⟨gw,0,none⟩),.pointer (some ⟨gb,0,none⟩)]) (by simp) (by simp [go_sem]) ?_
 refine (close1_err b x A2 A3 B2 B3 c2 c3 d2 d3 ge gw gb 6 .returning _ KE8.out KW8.out KB8.out (by decide)).mono ?_
 rintro y u' w9 ⟨rfl,rfl,hk9,ho9⟩
 have KE9:=zl ho9 KE8 (Nat.ne_of_gt GE.out)
 have z0:=zb hk9.out 0 (.string x.f0)
 have z1:=zb hk9.out 1 (.int .i64 x.f1)
 have z2:=zb hk9.out 2 (.slice B2 x.f2.length d2)
 have z3:=zb hk9.out 3 (.slice B3 x.f3.length d3)
 have z4:=zb hk9.out 4 (.int .u64 x.f4)
 have z5:=zb KE9.out 0 (.int .i64 6)
 simp only [Leaves,settle]
 refine ⟨.tuple #[.agg #[.string x.f0,.int .i64 x.f1,.slice B2 x.f2.length d2,.slice B3 x.f3.length d3,.int .u64 x.f4],.int .i64 6],?_,rfl,zh (hidOnly HO8.out ho9.out GWB.out)⟩
 simp [results,Tryz.results36,go_sem,z0,z1,z2,z3,z4,z5]
theorem close_err (b x : S26) (A2 A3 B2 B3 : Option Addr) (c2 c3 d2 d3 : Nat) (e : Int) (g : Nat) (w : World) (h : w.heap[g]? = some (.cells #[.string b.f0,.int .i64 b.f1,.slice A2 b.f2.length c2,.slice A3 b.f3.length c3,.int .u64 b.f4,.int .i64 e] 87 (0,0))) (h2 : Kd.C k56 w A2 b.f2.length b.f2) (g2 : b.f2.length ≤ c2) (h3 : Kd.C k101 w A3 b.f3.length b.f3) (g3 : b.f3.length ≤ c3) (q4 : e ≠ 0) :
  Calls Tryz.prog 36 #[.pointer (some ⟨g,0,none⟩),.agg #[.string x.f0,.int .i64 x.f1,.slice B2 x.f2.length d2,.slice B3 x.f3.length d3,.int .u64 x.f4]] w fun y w'=>y = .returned (.tuple #[.agg #[.string x.f0,.int .i64 x.f1,.slice B2 x.f2.length d2,.slice B3 x.f3.length d3,.int .u64 x.f4],.int .i64 e]) ∧ Hid (Only g w w'):=by
 have H:=zh h
 have q0 : (e == 0) = false:=beq_eq_false_iff_ne.2 q4
 have HNO:=zh (fun (W : World) hW=>no.walk g (.string b.f0) (.int .i64 b.f1) (.slice A2 b.f2.length c2) (.slice A3 b.f3.length c3) (.int .u64 b.f4) e 6 false W hW)
 rw [noR_f] at HNO
 have hgl:=blk_lt h
 have QE:=zh q4
 clear h h2 h3 q4
 go_enter_defers Tryz.func36,Tryz.ntmps36
 go_wp2_with (first
  | ((with_reducible refine gate_dst (N:=3) rfl ?_);go_must (refine zbx 3 #[.string x.f0,.int .i64 x.f1,.slice B2 x.f2.length d2,.slice B3 x.f3.length d3,.int .u64 x.f4] 26 ?_;intro gw hgw w1 hb1 hbel1;have KW1:=zh hb1;have HB1:=zh hbel1;have GW:=zh (show w.heap.size ≤ gw by rw [hgw];exact Nat.le_refl _);have LW:=zh (blk_lt hb1);clear hb1 hbel1 hgw))
  | ((with_reducible refine gate_dst (N:=4) rfl ?_);go_must (refine zbx 4 #[.string ⟨#[]⟩,.int .i64 0,.slice none 0 0,.slice none 0 0,.int .u64 0] 26 ?_;intro gb hgb w2 hb2 hbel2;have KB2:=zh hb2;have HB2:=keepB HB1 hbel2;have GB:=zh (show gw < gb by rw [hgb];exact LW.out);have KW2:=zk KW1 hbel2;have LB:=zh (blk_lt hb2);clear hb2 hbel2 hgb))
  | ((with_reducible refine gate_dst (N:=5) rfl ?_);go_must (refine zbx 5 #[.int .i64 0] 30 ?_;intro ge hge w3 hb3 hbel3;have KE3:=zh hb3;have HB3:=keepB HB2 hbel3;have GE:=zh (show gb < ge by rw [hge];exact LB.out);have KW3:=zk KW2 hbel3;have KB3:=zk KB2 hbel3;have K3:=zk H HB3.out;obtain ⟨a0,a1,a2,a3,a4,a5⟩:=zz6 K3.out;clear hb3 hbel3 hge))
  | (go_at_call 45;go_must (refine (HNO.out _ K3.out).mono ?_;rintro y w5 ⟨rfl,hk5,ho5⟩;have HB4:=HB3;have KW4:=KW3;have KB4:=KB3;have KE4:=KE3;have K5:=hk5;have HO5:=ho5;obtain ⟨b0,b1,b2,b3,b4,b5⟩:=zz6 hk5.out;clear hk5 ho5)))
 have nw : Hid (gw ≠ g):=by have:=GW.out;unfold Hid;omega
 have nb : Hid (gb ≠ g):=by have:=GW.out;have:=GB.out;unfold Hid;omega
 have ne : Hid (ge ≠ g):=by have:=GW.out;have:=GB.out;have:=GE.out;unfold Hid;omega
 have KW5:=zh (blk_drew (HO5.out.blk KW4.out nw.out))
 have KB5:=zh (blk_drew (HO5.out.blk KB4.out nb.out))
 have KE5:=zh (blk_drew (HO5.out.blk KE4.out ne.out))
 have K6:=zh (blk_drew K5.out)
 have HO6:=zh ((only_trans (only_below (zh (Only.refl g w)) HB4.out) HO5).out.drewN 1)
 clear K3 KW1 KW2 KW3 KB2 KB3 KE3 KW4 KB4 KE4 HB1 HB2 HB3 HB4 HO5 H HNO
 refine wp_region_held_drew (S:=fun W=>W.cell? ⟨g,0,none⟩ = some (.string b.f0) ∧ W.cell? ⟨g,1,none⟩ = some (.int .i64 b.f1) ∧ W.cell? ⟨g,2,none⟩ = some (.slice A2 b.f2.length c2) ∧ W.cell? ⟨g,3,none⟩ = some (.slice A3 b.f3.length c3) ∧ W.cell? ⟨g,4,none⟩ = some (.int .u64 b.f4) ∧ W.cell? ⟨g,5,none⟩ = some (.int .i64 e) ∧ W.heap[gw]? = some (.cells #[.string x.f0,.int .i64 x.f1,.slice B2 x.f2.length d2,.slice B3 x.f3.length d3,.int .u64 x.f4] 26 (0,0)) ∧ (∃ q0 q1 q2 q3 q4,W.heap[gb]? = some (.cells #[q0,q1,q2,q3,q4] 26 (0,0))) ∧ (∃ q0,W.heap[ge]? = some (.cells #[q0] 30 (0,0))) ∧ Only g w W) (by kernel_rfl) ?_ (fun hHeld=>?_)
 ·exact ⟨zj K6 0,zj K6 1,zj K6 2,zj K6 3,zj K6 4,zj K6 5,KW5.out,⟨_,_,_,_,_,KB5.out⟩,⟨_,KE5.out⟩,HO6.out⟩
 have GWB:=zh (show w.heap.size ≤ gb by have:=GW.out;have:=GB.out;omega)
 have GWE:=zh (show w.heap.size ≤ ge by have:=GWB.out;have:=GE.out;omega)
 clear KW5 KB5 KE5 K6 HO6
 generalize w5.drew = w6 at hHeld ⊢
 refine tk (i:=0) (v:=?v0g3) rfl hHeld (Or.inl ⟨rfl,?y0g3⟩) ?r0g3 (hQ:=fun _ _ _ h=>closeQ (by decide) (by decide) h)
 case y0g3=>(rintro w ⟨s0,s1,s2,s3,s4,s5,s6,s7,s8,s9⟩;go_simp;try with_reducible rfl)
 try simp only [zN]
 refine tk (i:=1) (v:=?v1g3) rfl hHeld (Or.inl ⟨rfl,?y1g3⟩) ?r1g3 (hQ:=fun _ _ _ h=>closeQ (by decide) (by decide) h)
 case y1g3=>(rintro w ⟨s0,s1,s2,s3,s4,s5,s6,s7,s8,s9⟩;go_simp;try with_reducible rfl)
 try simp only [zN]
 refine tk (i:=2) (v:=?v2g3) rfl hHeld (Or.inl ⟨rfl,?y2g3⟩) ?r2g3 (hQ:=fun _ _ _ h=>closeQ (by decide) (by decide) h)
 case y2g3=>(rintro w ⟨s0,s1,s2,s3,s4,s5,s6,s7,s8,s9⟩;go_simp;try with_reducible rfl)
 try simp only [zN]
 refine tk (i:=3) (v:=?v3g3) rfl hHeld (Or.inl ⟨rfl,?y3g3⟩) ?r3g3 (hQ:=fun _ _ _ h=>closeQ (by decide) (by decide) h)
 case y3g3=>(rintro w ⟨s0,s1,s2,s3,s4,s5,s6,s7,s8,s9⟩;go_simp;try with_reducible rfl)
 try simp only [zN]
 refine tk (i:=4) (v:=?v4g3) rfl hHeld (Or.inl ⟨rfl,?y4g3⟩) ?r4g3 (hQ:=fun _ _ _ h=>closeQ (by decide) (by decide) h)
 case y4g3=>(rintro w ⟨s0,s1,s2,s3,s4,s5,s6,s7,s8,s9⟩;go_simp;try with_reducible rfl)
 try simp only [zN]
 refine tk (i:=5) (v:=?v5g3) rfl hHeld (Or.inl ⟨rfl,?y5g3⟩) ?r5g3 (hQ:=fun _ _ _ h=>closeQ (by decide) (by decide) h)
 case y5g3=>(rintro w ⟨s0,s1,s2,s3,s4,s5,s6,s7,s8,s9⟩;go_simp;try with_reducible rfl)
 try simp only [zN]
 refine tk (i:=6) (v:=?v6g3) rfl hHeld (Or.inl ⟨rfl,?y6g3⟩) ?r6g3 (hQ:=fun _ _ _ h=>closeQ (by decide) (by decide) h)
 case y6g3=>(rintro w ⟨s0,s1,s2,s3,s4,s5,s6,s7,s8,s9⟩;go_simp;try with_reducible rfl)
 try simp only [zN]
 refine tk (i:=7) (v:=?v7g3) rfl hHeld (Or.inl ⟨rfl,?y7g3⟩) ?r7g3 (hQ:=fun _ _ _ h=>closeQ (by decide) (by decide) h)
 case y7g3=>(rintro w ⟨s0,s1,s2,s3,s4,s5,s6,s7,s8,s9⟩;go_simp;try with_reducible rfl)
 try simp only [zN]
 refine wpAnyH_ready (rs:=[8]) (by kernel_rfl) (by simp) ?_
 refine AllReadyH.cons (o:=_) rfl (fun K hK=>?_) AllReadyH.nil
 rw [if_pos (by rfl)]
 obtain ⟨s0,s1,s2,s3,s4,s5,s6,s7,s8,s9⟩:=hHeld
 obtain ⟨q0,q1,q2,q3,q4,s7⟩:=s7
 refine wp_store_row rfl 26 (.tmp 4) (.tmp 25) rfl gb 0 _ 26 (.agg #[.string b.f0,.int .i64 b.f1,.slice A2 b.f2.length c2,.slice A3 b.f3.length c3,.int .u64 b.f4]) [.string b.f0,.int .i64 b.f1,.slice A2 b.f2.length c2,.slice A3 b.f3.length c3,.int .u64 b.f4] rfl rfl s7 rfl isz_bucket (by show 0 + 5 ≤ 5;decide) (by simp [Value.oneCell']) ?_
 intro w7 hk7 ho7
 have KB7:=hk7
 have HO7:=zh (hidOnly s9 ho7.out GWB.out)
 refine hK.out _ _ ⟨Only.cell ho7.out (p:=⟨g,0,none⟩) (Ne.symm nb.out) s0,Only.cell ho7.out (p:=⟨g,1,none⟩) (Ne.symm nb.out) s1,Only.cell ho7.out (p:=⟨g,2,none⟩) (Ne.symm nb.out) s2,Only.cell ho7.out (p:=⟨g,3,none⟩) (Ne.symm nb.out) s3,Only.cell ho7.out (p:=⟨g,4,none⟩) (Ne.symm nb.out) s4,Only.cell ho7.out (p:=⟨g,5,none⟩) (Ne.symm nb.out) s5,ho7.out.blk s6 (Nat.ne_of_lt GB.out),⟨_,_,_,_,_,hk7.out⟩,(by obtain ⟨z,s8⟩:=s8;exact ⟨z,ho7.out.blk s8 (Nat.ne_of_gt GE.out)⟩),HO7.out⟩ (fun hHeld=>?_)
 clear hK K s7 hk7 ho7 HO7 s0 s1 s2 s3 s4 s5 s6 s8 s9
 try simp only [zN]
 refine wpAnyH_ready (rs:=[9]) (by kernel_rfl) (by simp) ?_
 refine AllReadyH.cons (o:=_) rfl (fun K hK=>?_) AllReadyH.nil
 rw [if_pos (by rfl)]
 obtain ⟨s0,s1,s2,s3,s4,s5,s6,s7,s8,s9⟩:=hHeld
 obtain ⟨q0,s8⟩:=s8
 refine wp_store_row rfl 30 (.tmp 5) (.tmp 29) rfl ge 0 _ 30 (.int .i64 e) [.int .i64 e] rfl rfl s8 rfl (by kernel_rfl) (by show 0 + 1 ≤ 1;decide) (by simp [Value.oneCell']) ?_
 intro w8 hk8 ho8
 have KB8:=zl ho8 KB7 (Nat.ne_of_lt GE.out)
 have KE8:=hk8
 have HO8:=zh (hidOnly s9 ho8.out GWE.out)
 have KW8:=zh (ho8.out.blk s6 (Nat.ne_of_lt (Nat.lt_trans GB.out GE.out)))
 refine hK.out _ _ ⟨Only.cell ho8.out (p:=⟨g,0,none⟩) (Ne.symm ne.out) s0,Only.cell ho8.out (p:=⟨g,1,none⟩) (Ne.symm ne.out) s1,Only.cell ho8.out (p:=⟨g,2,none⟩) (Ne.symm ne.out) s2,Only.cell ho8.out (p:=⟨g,3,none⟩) (Ne.symm ne.out) s3,Only.cell ho8.out (p:=⟨g,4,none⟩) (Ne.symm ne.out) s4,Only.cell ho8.out (p:=⟨g,5,none⟩) (Ne.symm ne.out) s5,KW8.out,⟨_,_,_,_,_,KB8.out⟩,⟨_,hk8.out⟩,HO8.out⟩ (fun hHeld=>?_)
 clear hK K s7 s8 hHeld hk8 ho8 s0 s1 s2 s3 s4 s5 s6 s9
 try simp only [zN]
 refine wpAnyH_done (by kernel_rfl) ?_ _
 go_wp2
 refine leaves_cons (f:=80) (args:=#[.pointer (some ⟨ge,0,none⟩),.pointer (some ⟨gw,0,none⟩),.pointer (some ⟨gb,0,none⟩)]) (by simp) (by simp [go_sem]) ?_
 refine (close1_err b x A2 A3 B2 B3 c2 c3 d2 d3 ge gw gb e .returning _ KE8.out KW8.out KB8.out QE.out).mono ?_
 rintro y u' w9 ⟨rfl,rfl,hk9,ho9⟩
 have KE9:=zl ho9 KE8 (Nat.ne_of_gt GE.out)
 have z0:=zb hk9.out 0 (.string x.f0)
 have z1:=zb hk9.out 1 (.int .i64 x.f1)
 have z2:=zb hk9.out 2 (.slice B2 x.f2.length d2)
 have z3:=zb hk9.out 3 (.slice B3 x.f3.length d3)
 have z4:=zb hk9.out 4 (.int .u64 x.f4)
 have z5:=zb KE9.out 0 (.int .i64 e)
 simp only [Leaves,settle]
 refine ⟨.tuple #[.agg #[.string x.f0,.int .i64 x.f1,.slice B2 x.f2.length d2,.slice B3 x.f3.length d3,.int .u64 x.f4],.int .i64 e],?_,rfl,zh (hidOnly HO8.out ho9.out GWB.out)⟩
 simp [results,Tryz.results36,go_sem,z0,z1,z2,z3,z4,z5]
end
section
open Go.WideMaps Go.Maps
theorem bytes_inj {a b : ByteArray} (h : a.data.toList = b.data.toList) : a = b:=by
 cases a;cases b
 congr 1
 exact Array.ext' h
theorem cb_cons (a b : UInt8) (x y : List UInt8) : Go.Lib.compareBytes (a :: x) (b :: y) = if a < b then -1 else if b < a then 1 else Go.Lib.compareBytes x y:=rfl
theorem u8_cases (a b : UInt8) : a < b ∨ a = b ∨ b < a:=by
 rcases Nat.lt_trichotomy a.toNat b.toNat with h | h | h
 ·exact Or.inl (UInt8.lt_iff_toNat_lt.2 h)
 ·exact Or.inr (Or.inl (UInt8.toNat_inj.1 h))
 ·exact Or.inr (Or.inr (UInt8.lt_iff_toNat_lt.2 h))
theorem u8_irrefl (a : UInt8) : ¬ a < a:=fun h=>Nat.lt_irrefl _ (UInt8.lt_iff_toNat_lt.1 h)
theorem u8_asymm {a b : UInt8} (h : a < b) : ¬ b < a:=fun h'=>by
 have h1:=UInt8.lt_iff_toNat_lt.1 h
 have h2:=UInt8.lt_iff_toNat_lt.1 h'
 omega
theorem u8_trans {a b c : UInt8} (h : a < b) (h' : b < c) : a < c:=UInt8.lt_iff_toNat_lt.2 (Nat.lt_trans (UInt8.lt_iff_toNat_lt.1 h) (UInt8.lt_iff_toNat_lt.1 h'))
theorem cb_refl : ∀ x : List UInt8,Go.Lib.compareBytes x x = 0
 | []=>rfl
 | a :: x=>by rw [cb_cons,if_neg (u8_irrefl a),if_neg (u8_irrefl a)];exact cb_refl x
theorem cb_eq : ∀ {x y : List UInt8},Go.Lib.compareBytes x y = 0 → x = y
 | [],[],_=>rfl
 | [],_ :: _,h=>by exact absurd h (by simp [Go.Lib.compareBytes])
 | _ :: _,[],h=>by exact absurd h (by simp [Go.Lib.compareBytes])
 | a :: x,b :: y,h=>by
  rw [cb_cons] at h
  rcases u8_cases a b with h1 | rfl | h1
  ·rw [if_pos h1] at h;exact absurd h (by decide)
  ·rw [if_neg (u8_irrefl a),if_neg (u8_irrefl a)] at h;rw [cb_eq h]
  ·rw [if_neg (u8_asymm h1),if_pos h1] at h;exact absurd h (by decide)
theorem cb_neg : ∀ x y : List UInt8,Go.Lib.compareBytes y x = - Go.Lib.compareBytes x y
 | [],[]=>rfl
 | [],_ :: _=>rfl
 | _ :: _,[]=>rfl
 | a :: x,b :: y=>by
  rw [cb_cons,cb_cons]
  rcases u8_cases a b with h1 | rfl | h1
  ·rw [if_neg (u8_asymm h1),if_pos h1,if_pos h1];rfl
  ·simp only [if_neg (u8_irrefl a)];exact cb_neg x y
  ·rw [if_pos h1,if_neg (u8_asymm h1),if_pos h1]
theorem cb_trans : ∀ {x y z : List UInt8},Go.Lib.compareBytes x y < 0 → Go.Lib.compareBytes y z < 0 → Go.Lib.compareBytes x z < 0
 | [],[],_,h,_=>by exact absurd h (by decide)
 | [],_ :: _,[],_,h=>by exact absurd h (by simp [Go.Lib.compareBytes])
 | [],_ :: _,_ :: _,_,_=>by simp [Go.Lib.compareBytes]
 | _ :: _,[],_,h,_=>by exact absurd h (by simp [Go.Lib.compareBytes])
 | _ :: _,_ :: _,[],_,h=>by exact absurd h (by simp [Go.Lib.compareBytes])
 | a :: x,b :: y,c :: z,h,h'=>by
  rw [cb_cons] at h h' ⊢
  rcases u8_cases a b with h1 | rfl | h1
  ·rcases u8_cases b c with h2 | rfl | h2
   ·rw [if_pos (u8_trans h1 h2)];decide
   ·rw [if_pos h1];decide
   ·rw [if_neg (u8_asymm h2),if_pos h2] at h';exact absurd h' (by decide)
  ·rcases u8_cases a c with h2 | rfl | h2
   ·rw [if_pos h2];decide
   ·rw [if_neg (u8_irrefl a),if_neg (u8_irrefl a)] at h h' ⊢
    exact cb_trans h h'
   ·rw [if_neg (u8_asymm h2),if_pos h2] at h';exact absurd h' (by decide)
  ·rw [if_neg (u8_asymm h1),if_pos h1] at h;exact absurd h (by decide)
/-- a stands ahead of b. -/
def ltN (a b : ByteArray) : Prop:=Go.Lib.compareBytes a.data.toList b.data.toList < 0
theorem ltN_irrefl (a : ByteArray) : ¬ ltN a a:=by unfold ltN;rw [cb_refl];decide
theorem ltN_trans {a b c : ByteArray} (h : ltN a b) (h' : ltN b c) : ltN a c:=cb_trans h h'
theorem ltN_of {a b : ByteArray} (h : a ≠ b) (h' : ¬ ltN b a) : ltN a b:=by
 unfold ltN at *
 have h1:=cb_neg a.data.toList b.data.toList
 have h2 : Go.Lib.compareBytes a.data.toList b.data.toList ≠ 0:=fun e=>h (bytes_inj (cb_eq e))
 omega
theorem bytes_eq {a b : ByteArray} (h : a.toList = b.toList) : a = b:=by
 rw [Lib.toList_data,Lib.toList_data] at h
 cases a;cases b
 congr 1
 exact Array.toList_inj.1 h
theorem bless_iff : ∀ x y : List UInt8,Op.bytesLess x y = true ↔ Go.Lib.compareBytes x y < 0
 | [],[]=>by simp [Op.bytesLess,Go.Lib.compareBytes]
 | [],b :: y=>by simp [Op.bytesLess,Go.Lib.compareBytes]
 | a :: x,[]=>by simp [Op.bytesLess,Go.Lib.compareBytes]
 | a :: x,b :: y=>by
  have ih:=bless_iff x y
  unfold Op.bytesLess
  rw [cb_cons]
  by_cases h1 : a < b
  ·simp [h1]
  ·by_cases h2 : b < a
   ·have h3 : a ≠ b:=fun e=>by subst e;exact h1 h2
    simp [h1,h2,h3]
   ·have e : a = b:=UInt8.toNat_inj.1 (Nat.le_antisymm (Nat.le_of_not_lt h2) (Nat.le_of_not_lt h1))
    subst e
    simp only [h1,decide_false,Bool.false_or,beq_self_eq_true,Bool.true_and,if_false]
    exact ih
theorem bless_ltN {a b : ByteArray} : Op.bytesLess a.toList b.toList = true ↔ ltN a b:=by
 rw [Lib.toList_data,Lib.toList_data,bless_iff]
 rfl
end
section
open Go.WideMaps Go.Maps
def SE (l : List S56) : Prop:=l.Pairwise (fun a b=>ltN a.f0 b.f0)
def gtK (key : ByteArray) (x : S56) : Bool:=Op.bytesLess key.toList x.f0.toList
theorem ltK_lt {key : ByteArray} {x : S56} : ltK key x = true ↔ ltN x.f0 key:=bless_ltN
theorem gtK_lt {key : ByteArray} {x : S56} : gtK key x = true ↔ ltN key x.f0:=bless_ltN
theorem eqK_eq {key : ByteArray} {x : S56} : eqK key x = true ↔ x.f0 = key:=by
 unfold eqK
 rw [beq_iff_eq]
 exact ⟨bytes_eq,fun h=>by rw [h]⟩
theorem up_pair {l : List S56} (h : ∀ j (hj : j < l.length),upB l j = true) : SE l:=by
 unfold SE
 rw [List.pairwise_iff_getElem]
 intro i j hi hj hij
 induction j with
 | zero=>omega
 | succ j ih =>
  have h1 : ltN l[j].f0 l[j + 1].f0:=by
   have:=h (j + 1) hj
   unfold upB at this
   rw [Nat.add_sub_cancel,getD_at l j _ (by omega),getD_at l (j + 1) _ hj] at this
   simp only [Nat.add_eq_zero_iff,Nat.one_ne_zero,and_false,decide_false,Bool.false_or] at this
   exact bless_ltN.1 this
  rcases Nat.eq_or_lt_of_le (Nat.le_of_lt_succ hij) with rfl | h2
  ·exact h1
  ·exact ltN_trans (ih (by omega) h2) h1
theorem pair_up {l : List S56} (h : SE l) (j : Nat) (hj : j < l.length) : upB l j = true:=by
 unfold upB
 rcases j with _ | j
 ·simp
 ·rw [Nat.add_sub_cancel,getD_at l j _ (by omega),getD_at l (j + 1) _ hj]
  unfold SE at h
  rw [List.pairwise_iff_getElem] at h
  rw [bless_ltN.2 (h j (j + 1) (by omega) hj (by omega))]
  simp
theorem allFrom_of {P : Nat → Bool} : ∀ (d i : Nat),(∀ j,i ≤ j → j < i + d → P j = true) → allFrom P i d = true
 | 0,_,_=>rfl
 | d + 1,i,h=>by
  show (P i && allFrom P (i + 1) d) = true
  rw [h i (Nat.le_refl _) (by omega),allFrom_of d (i + 1) (fun j h1 h2=>h j (by omega) (by omega))]
  rfl
theorem index_iff (l : List S56) : indexB l = true ↔ l.length ≤ 60 ∧ SE l ∧ ∀ x ∈ l,keyB x.f0 = true ∧ x.f1.length ≠ 0 ∧ chainB x.f1 = true:=by
 constructor
 ·intro h
  exact ⟨(index_at h).1,up_pair (fun j hj=>((index_at h).2 j hj).2.1),index_mem h⟩
 ·rintro ⟨h1,h2,h3⟩
  unfold indexB
  rw [decide_eq_true h1,Bool.true_and]
  refine allFrom_of _ _ (fun j _ hj=>?_)
  have hj' : j < l.length:=by omega
  obtain ⟨a,b,c⟩:=h3 _ (List.getElem_mem hj')
  unfold ixAt
  rw [getD_at l j _ hj',a,pair_up h2 j hj',c]
  simp only [Bool.true_and,Bool.and_true,Bool.not_eq_true',beq_eq_false_iff_ne]
  exact b
theorem SE_cons {x : S56} {l : List S56} (h : SE (x :: l)) : (∀ y ∈ l,ltN x.f0 y.f0) ∧ SE l:=List.pairwise_cons.1 h
theorem cut_less : ∀ {l : List S56} (key : ByteArray),SE l → l.take (lessN l key) = l.filter (ltK key)
 | [],_,_=>rfl
 | x :: l,key,h=>by
  obtain ⟨h1,h2⟩:=SE_cons h
  unfold lessN
  cases hx : ltK key x
  ·have : (x :: l).filter (ltK key) = []:=by
    rw [List.filter_eq_nil_iff]
    intro y hy hc
    rcases List.mem_cons.1 hy with rfl | hy
    ·rw [hx] at hc;cases hc
    ·have:=ltK_lt.2 (ltN_trans (h1 y hy) (ltK_lt.1 hc));rw [hx] at this;cases this
   rw [this];rfl
  ·rw [List.filter_cons_of_pos hx,List.length_cons,List.take_succ_cons]
   congr 1
   exact cut_less key h2
theorem cut_more : ∀ {l : List S56} (key : ByteArray),SE l → l.drop (lessN l key + (if l.any (eqK key) = true then 1 else 0)) = l.filter (gtK key)
 | [],_,_=>by simp
 | x :: l,key,h=>by
  obtain ⟨h1,h2⟩:=SE_cons h
  cases hx : ltK key x
  ·have hn : lessN (x :: l) key = 0:=by
    unfold lessN
    rw [List.length_eq_zero_iff,List.filter_eq_nil_iff]
    intro y hy hc
    rcases List.mem_cons.1 hy with rfl | hy
    ·rw [hx] at hc;cases hc
    ·have:=ltK_lt.2 (ltN_trans (h1 y hy) (ltK_lt.1 hc));rw [hx] at this;cases this
   have hxn : ¬ ltN x.f0 key:=fun hc=>by rw [ltK_lt.2 hc] at hx;cases hx
   have hall : ∀ y ∈ l,gtK key y = true:=fun y hy=>by
    by_cases he : x.f0 = key
    ·rw [gtK_lt,← he];exact h1 y hy
    ·rw [gtK_lt];exact ltN_trans (ltN_of (fun e=>he e.symm) hxn) (h1 y hy)
   have hfl : l.filter (gtK key) = l:=List.filter_eq_self.2 hall
   rw [hn]
   by_cases he : x.f0 = key
   ·have ha : (x :: l).any (eqK key) = true:=by rw [List.any_cons,eqK_eq.2 he];rfl
    have hg : gtK key x = false:=by
     cases hc : gtK key x
     ·rfl
     ·have:=gtK_lt.1 hc;rw [he] at this;exact absurd this (ltN_irrefl _)
    rw [ha,if_pos rfl,List.filter_cons_of_neg (by rw [hg];simp),hfl]
    rfl
   ·have hgx : gtK key x = true:=gtK_lt.2 (ltN_of (fun e=>he e.symm) hxn)
    have ha : (x :: l).any (eqK key) = false:=by
     rw [List.any_eq_false]
     intro y hy hc
     rcases List.mem_cons.1 hy with rfl | hy
     ·exact he (eqK_eq.1 hc)
     ·have:=gtK_lt.1 (hall y hy);rw [eqK_eq.1 hc] at this;exact ltN_irrefl _ this
    rw [ha,if_neg (by simp),List.filter_cons_of_pos hgx,hfl]
    rfl
  ·have hg : gtK key x = false:=by
    cases hc : gtK key x
    ·rfl
    ·exact absurd (ltN_trans (gtK_lt.1 hc) (ltK_lt.1 hx)) (ltN_irrefl _)
   have he : eqK key x = false:=by
    cases hc : eqK key x
    ·rfl
    ·have:=ltK_lt.1 hx;rw [eqK_eq.1 hc] at this;exact absurd this (ltN_irrefl _)
   have hn : lessN (x :: l) key = lessN l key + 1:=by unfold lessN;rw [List.filter_cons_of_pos hx];rfl
   rw [hn,List.any_cons,he,Bool.false_or,List.filter_cons_of_neg (by rw [hg];simp),← cut_more key h2,show lessN l key + 1 + (if l.any (eqK key) = true then 1 else 0) = (lessN l key + (if l.any (eqK key) = true then 1 else 0)) + 1 by omega]
   rfl
theorem putL_eq {l : List S56} (key : ByteArray) (ch : List S47) (h : SE l) : putL l key ch = l.filter (ltK key) ++ (if ch.length = 0 then [] else [⟨key,ch⟩]) ++ l.filter (gtK key):=by
 unfold putL
 rw [cut_less key h,cut_more key h]
theorem putL_mem {l : List S56} {key : ByteArray} {ch : List S47} (h : SE l) {x : S56} : x ∈ putL l key ch ↔ (x ∈ l ∧ x.f0 ≠ key) ∨ (ch.length ≠ 0 ∧ x = ⟨key,ch⟩):=by
 rw [putL_eq key ch h]
 simp only [List.mem_append,List.mem_filter,ltK_lt,gtK_lt]
 constructor
 ·rintro ((⟨h1,h2⟩ | h1) | ⟨h1,h2⟩)
  ·exact Or.inl ⟨h1,fun e=>by rw [e] at h2;exact ltN_irrefl _ h2⟩
  ·by_cases hc : ch.length = 0
   ·rw [if_pos hc] at h1;cases h1
   ·rw [if_neg hc] at h1;exact Or.inr ⟨hc,List.mem_singleton.1 h1⟩
  ·exact Or.inl ⟨h1,fun e=>by rw [e] at h2;exact ltN_irrefl _ h2⟩
 ·rintro (⟨h1,h2⟩ | ⟨h1,h2⟩)
  ·by_cases hl : ltN x.f0 key
   ·exact Or.inl (Or.inl ⟨h1,hl⟩)
   ·exact Or.inr ⟨h1,ltN_of (fun e=>h2 e.symm) hl⟩
  ·rw [if_neg h1];exact Or.inl (Or.inr (List.mem_singleton.2 h2))
theorem putL_SE {l : List S56} (key : ByteArray) (ch : List S47) (h : SE l) : SE (putL l key ch):=by
 rw [putL_eq key ch h]
 have f1 : SE (l.filter (ltK key)):=List.Pairwise.filter _ h
 have f2 : SE (l.filter (gtK key)):=List.Pairwise.filter _ h
 unfold SE at *
 rw [List.pairwise_append,List.pairwise_append]
 refine ⟨⟨f1,?_,fun a ha b hb=>?_⟩,f2,fun a ha b hb=>?_⟩
 ·by_cases hc : ch.length = 0
  ·rw [if_pos hc];exact List.Pairwise.nil
  ·rw [if_neg hc];exact List.pairwise_singleton _ _
 ·by_cases hc : ch.length = 0
  ·rw [if_pos hc] at hb;cases hb
  ·rw [if_neg hc] at hb;rw [List.mem_singleton.1 hb];exact ltK_lt.1 (List.mem_filter.1 ha).2
 ·have hb':=gtK_lt.1 (List.mem_filter.1 hb).2
  rcases List.mem_append.1 ha with ha | ha
  ·exact ltN_trans (ltK_lt.1 (List.mem_filter.1 ha).2) hb'
  ·by_cases hc : ch.length = 0
   ·rw [if_pos hc] at ha;cases ha
   ·rw [if_neg hc] at ha;rw [List.mem_singleton.1 ha];exact hb'
theorem putE_index {l : List S56} {key : ByteArray} {ch : List S47} (h : (putE l key ch).2 = 0) : indexB (putE l key ch).1 = true ∧ indexB l = true ∧ keyB key = true ∧ chainB ch = true ∧ (putE l key ch).1 = putL l key ch:=by
 unfold putE at h ⊢
 by_cases hb : indexB l = false ∨ keyB key = false ∨ chainB ch = false
 ·rw [if_pos hb] at h;cases h
 ·rw [if_neg hb] at h ⊢
  have q1 : indexB l = true:=by cases h : indexB l;exact absurd (Or.inl h) hb;rfl
  have q2 : keyB key = true:=by cases h : keyB key;exact absurd (Or.inr (Or.inl h)) hb;rfl
  have q3 : chainB ch = true:=by cases h : chainB ch;exact absurd (Or.inr (Or.inr h)) hb;rfl
  by_cases h60 : 60 < (putL l key ch).length
  ·rw [if_pos h60] at h;cases h
  ·rw [if_neg h60]
   refine ⟨?_,q1,q2,q3,rfl⟩
   obtain ⟨a,b,c⟩:=(index_iff l).1 q1
   refine (index_iff _).2 ⟨Nat.le_of_not_lt h60,putL_SE key ch b,fun x hx=>?_⟩
   rcases (putL_mem b).1 hx with ⟨h1,_⟩ | ⟨h1,rfl⟩
   ·exact c x h1
   ·exact ⟨q2,h1,q3⟩
theorem bucket_at {b : S26} (h : bucketB b = true) : headB b = true ∧ indexB b.f2 = true ∧ checkB b.f3 = true ∧ octB b.f2 b.f3 ≤ 20000 ∧ b.f2.all (nearB b.f4 b.f1) = true ∧ b.f3.any (updB b.f4) = false:=by
 unfold bucketB at h
 simp only [Bool.and_eq_true,decide_eq_true_eq,Bool.not_eq_true'] at h
 exact ⟨h.1,h.2.1,h.2.2.1,h.2.2.2.1,h.2.2.2.2.1,h.2.2.2.2.2⟩
end
section
open Go.WideMaps Go.Maps
attribute [local go_sem] Oper.semAt_some
section
variable {P : Program} {w : World} {ops : Array Oper} {rest : List Oper} {o : Oper} {a : Act} {Q : Exit → Act → World → Prop}
theorem only_setObj (g : Nat) (w : World) (o : Obj) : Only g w { w with heap:=w.heap.setIfInBounds g o } :=
 ⟨rfl,rfl,rfl,by simp,fun k hk hg=>by simp [Array.getElem?_setIfInBounds,Ne.symm hg]⟩
theorem run_insert_int (t kt et : TypeId) (q : IntKind) (ht : P.underlying t = some (.map kt et)) (hk : P.underlying kt = some (.int q)) (r : Nat) (es : Array MapEntry) (clock : Nat) (n : Int) (v : Value) (hr : w.heap[r]? = some (.map es clock))
  (hf : Instr.findNow (.int q) (.int q n) es.toList 0 = some none) :
  (Instr.mapUpdate t (.map (some r)) (.int q n) v).run P w = .ok () { w with heap:=w.heap.setIfInBounds r (.map (es.push ⟨.int q n,v,clock⟩) (clock + 1)) }:=by
 have h1:=MapKept.run_checkKey (P:=P) (w:=w) hk (k:=.int q n) (by simp [MapKept.IsKey]) false 9999
 have h2:=MapKept.run_getObj_map (P:=P) hr
 have h3:=MapKept.run_setObj_map (P:=P) (.map (es.push ⟨.int q n,v,clock⟩) (clock + 1)) hr
 simp [Instr.mapUpdate,run_underlying ht,h1,h2,Instr.findKey,run_underlying hk,hf,h3]
theorem wpList_insert_int (hN : o.dst = none) (hgd : o.guard = none) (t : TypeId) (m k x : Operand) (ho : o.op = .insert t m k x) (kt et : TypeId) (q : IntKind) (ht : P.underlying t = some (.map kt et)) (hk : P.underlying kt = some (.int q))
  (r : Nat) (es : Array MapEntry) (clock : Nat) (n : Int) (v : Value) (hm : a.eval m = .map (some r)) (hkv : a.eval k = .int q n) (hv : a.eval x = v) (hr : w.heap[r]? = some (.map es clock)) (hf : Instr.findNow (.int q) (.int q n) es.toList 0 = some none)
  (h : ∀ w1,Hid (w1.heap[r]? = some (.map (es.push ⟨.int q n,v,clock⟩) (clock + 1))) → Hid (Only r w w1) → wpList P ops Q rest a w1) : wpList P ops Q (o :: rest) a w:=by
 refine wpList_plain hgd fun K hK=>?_
 have hrun:=run_insert_int (P:=P) t kt et q ht hk r es clock n v hr hf
 unfold Oper.wp execOp
 simp only [ho,hm,hkv,hv,Sem.run_bind,Sem.run_pure,Result.andThen_ok,hrun]
 show K (a.put o.dst undef) _
 rw [hN]
 exact hK _ _ (h _ (by unfold Hid;simp [Array.getElem?_setIfInBounds,blk_lt hr]) (only_setObj _ _ _))
def lookOf (z : Value) (fr : Option (Nat × Value)) : Value × Bool:=match fr with | some p=>(p.2,true) | none=>(z,false)
theorem wpList_look_int (hgd : o.guard = none) (t : TypeId) (m k : Operand) (ho : o.op = .lookup t m k true) (kt et : TypeId) (q : IntKind) (ht : P.underlying t = some (.map kt et)) (hk : P.underlying kt = some (.int q))
  (r : Nat) (es : Array MapEntry) (clock : Nat) (n : Int) (hm : a.eval m = .map (some r)) (hkv : a.eval k = .int q n) (hr : w.heap[r]? = some (.map es clock)) (fr : Option (Nat × Value)) (hf : Instr.findNow (.int q) (.int q n) es.toList 0 = some fr)
  (z v : Value) (ok : Bool) (hz : ∀ w,(zeroValue et).run P w = .ok z w) (hv : lookOf z fr = (v,ok))
  (h : wpList P ops Q rest (a.put o.dst (.tuple #[v,.bool ok])) w) : wpList P ops Q (o :: rest) a w:=by
 refine wpList_plain hgd fun K hK=>?_
 have h1:=MapKept.run_checkKey (P:=P) (w:=w) hk (k:=.int q n) (by simp [MapKept.IsKey]) es.isEmpty 9999
 have h2:=MapKept.run_getObj_map (P:=P) hr
 have hrun : (Instr.lookup t (.map (some r)) (.int q n) true).run P w = .ok (.tuple #[v,.bool ok]) w:=by
  cases fr with
  | none =>
   injection hv with e1 e2
   subst e1;subst e2
   simp [Instr.lookup,run_underlying ht,h1,h2,Instr.findKey,run_underlying hk,hf,hz]
  | some p =>
   injection hv with e1 e2
   subst e1;subst e2
   simp [Instr.lookup,run_underlying ht,h1,h2,Instr.findKey,run_underlying hk,hf]
 unfold Oper.wp execOp
 simp only [ho,hm,hkv,Sem.run_bind,Sem.run_pure,Result.andThen_ok,hrun]
 exact hK _ _ h
end
def putV (l : List S47) (st : Int) (x : S47) : List S47 × Int :=
 if chainB l = false ∨ ¬ (0 ≤ st ∧ st ≤ 2) ∨ mayV x = false ∨ (0 < l.length ∧ x.f3 < (l.headD z47).f3) then ([],1)
 else if (layV st l x).2 ≠ 0 then ([],(layV st l x).2) else if 20 < (layV st l x).1.length then ([],6) else ((layV st l x).1,0)
def laysE : Array MapEntry:=#[⟨.int .i64 0,.func (.func 107) #[] #[],0⟩,⟨.int .i64 1,.func (.func 108) #[] #[],1⟩,⟨.int .i64 2,.func (.func 107) #[] #[],2⟩]
theorem chain_len {l : List S47} (h : chainB l = true) : l.length ≤ 20:=by
 unfold chainB at h
 simp only [Bool.and_eq_true,decide_eq_true_eq] at h
 exact h.1
section
variable {P : Program} {w : World} {ops : Array Oper} {rest : List Oper} {o : Oper} {a : Act} {Q : Exit → Act → World → Prop}
theorem makeMap_event {t : TypeId} (hgd : o.guard = none) (ho : o.op = .makeMap t none) (h : ∀ g,g = w.heap.size → ∀ w1,w1.heap[g]? = some (.map #[] 0) → Below w.heap.size w w1 → wpList P ops Q rest (a.put o.dst (.map (some g))) w1) : wpList P ops Q (o :: rest) a w:=by
 refine wpList_plain hgd fun K hK=>?_
 have hrun : (Instr.makeMap t none).run P w = .ok (.map (some w.heap.size)) (w.alloc (.map #[] 0)):=rfl
 unfold Oper.wp execOp
 simp only [ho,Option.map_none,Sem.run_bind,Sem.run_pure,Result.andThen_ok,hrun]
 exact hK _ _ (h _ rfl _ (blk_new w _) ((Below.refl _ _).alloc (Nat.le_refl _) _))
theorem gate_insert {t : TypeId} {m k v : Operand} (_ho : o.op = .insert t m k v) (h : wpList P ops Q (o :: rest) a w) : wpList P ops Q (o :: rest) a w:=h
theorem gate_lookup {t : TypeId} {m k : Operand} {c : Bool} (_ho : o.op = .lookup t m k c) (h : wpList P ops Q (o :: rest) a w) : wpList P ops Q (o :: rest) a w:=h
end
theorem put_no1 (A : Option Addr) (c : Nat) (l : List S47) (st : Int) (x : S47) (w : World) (hr : Kd.C k47 w A l.length l) (fr : Option (Nat × Value)) (lv : Value) (ok : Bool) (hf : Instr.findNow (.int .i64) (.int .i64 st) laysE.toList 0 = some fr) (hlv : lookOf .nilFunc fr = (lv,ok)) (h1 : chainB l = false) :
  Calls Tryz.prog 52 #[.slice A l.length c,.int .i64 st,.agg #[.int .u64 x.f0,.string x.f1,.bool x.f2,.int .i64 x.f3]] w (VPost [] 1 w):=by
 have HCK:=zh (fun (W : World) (h : Below w.heap.size w W)=>chain.walk A c l W (Kd.C_below hr h))
 have HMY:=zh (fun (W : World)=>mayV.walk x W)
 have HF:=zh hf;clear hf
 have HLV:=zh hlv;clear hlv
 rw [h1] at HCK
 rw [show errB false = 1 from rfl] at HCK
 clear h1 hr
 go_enter Tryz.func52,Tryz.ntmps52
 go_wp2_with (first
  | (((with_reducible refine gate_dst (N:=5) rfl ?_);go_must (refine zbx 5 #[.int .u64 x.f0,.string x.f1,.bool x.f2,.int .i64 x.f3] 47 ?_;intro gx hgx w1 hb1 hbel1;have KX:=zh hb1;have HB1:=zh hbel1;have GX:=zh (blk_lt hb1);clear hb1 hbel1 hgx));have GB0:=zh HB1.out.size)
  | (((with_reducible refine gate_dst (N:=13) rfl ?_);go_must (refine makeMap_event (t:=176) rfl rfl ?_;intro gm hgm w2 hm2 hbel2;have M2:=zh hm2;have GBX:=zh (show w.heap.size ≤ gm by rw [hgm];exact HB1.out.size);have HB2:=keepB HB1 hbel2;have K2:=zk KX hbel2;have GN:=zh (show gx ≠ gm by have:=GX.out;omega);clear hm2 hbel2 hgm));have GB : Hid (w.heap.size ≤ gm):=GBX)
  | ((with_reducible refine gate_insert (k:=.const (.int .i64 0)) rfl ?_);go_must (refine wpList_insert_int rfl rfl 176 (.tmp 13) _ _ rfl 3 173 .i64 Tryz.underlying176 Tryz.underlying3 gm #[] 0 0 _ rfl rfl rfl M2.out rfl ?_;intro w3 M3 HO3;have HB3:=zo HO3 HB2 GB;have K3:=zl HO3 K2 GN.out))
  | ((with_reducible refine gate_insert (k:=.const (.int .i64 1)) rfl ?_);go_must (refine wpList_insert_int rfl rfl 176 (.tmp 13) _ _ rfl 3 173 .i64 Tryz.underlying176 Tryz.underlying3 gm #[⟨.int .i64 0,.func (.func 107) #[] #[],0⟩] 1 1 _ rfl rfl rfl M3.out rfl ?_;intro w4 M4 HO4;have HB4:=zo HO4 HB3 GB;have K4:=zl HO4 K3 GN.out))
  | ((with_reducible refine gate_insert (k:=.const (.int .i64 2)) rfl ?_);go_must (refine wpList_insert_int rfl rfl 176 (.tmp 13) _ _ rfl 3 173 .i64 Tryz.underlying176 Tryz.underlying3 gm #[⟨.int .i64 0,.func (.func 107) #[] #[],0⟩,⟨.int .i64 1,.func (.func 108) #[] #[],1⟩] 2 2 _ rfl rfl rfl M4.out rfl ?_;intro w5 M5 HO5;have HB5:=zo HO5 HB4 GB;have K5:=zl HO5 K4 GN.out))
  | ((with_reducible refine gate_lookup (t:=176) rfl ?_);go_must (refine wpList_look_int rfl 176 _ _ rfl 3 173 .i64 Tryz.underlying176 Tryz.underlying3 gm laysE 3 st rfl rfl M5.out fr HF.out (.nilFunc) lv ok (fun w=>by kernel_rfl) HLV.out ?_)))
 clear M2 M3 M4 M5 HO3 HO4 HO5 K2 K3 K4 KX HB1 HB2 HB3 HB4 HF
 refine wp_region_held_drew (S:=fun W=>W.cell? ⟨gx,0,none⟩ = some (.int .u64 x.f0) ∧ W.cell? ⟨gx,1,none⟩ = some (.string x.f1) ∧ W.cell? ⟨gx,2,none⟩ = some (.bool x.f2) ∧ W.cell? ⟨gx,3,none⟩ = some (.int .i64 x.f3) ∧ Below w.heap.size w W) (by kernel_rfl) ?_ (fun hHeld=>?_)
 ·exact ⟨blk_cell (blk_drew K5.out) 0,blk_cell (blk_drew K5.out) 1,blk_cell (blk_drew K5.out) 2,blk_cell (blk_drew K5.out) 3,HB5.out.drew⟩
 clear K5 HB5
 refine zt 0 ?_;try simp only [zN]
 refine wpAnyH_ready (rs:=[1]) (by kernel_rfl) (by simp) ?_
 refine AllReadyH.cons (o:=_) rfl (fun K hK=>?_) AllReadyH.nil
 rw [if_pos (by rfl)]
 go_simp
 obtain ⟨s0,s1,s2,s3,s4⟩:=hHeld
 refine (HCK.out _ s4).mono ?_
 rintro e8 w8 ⟨rfl,hb8⟩
 refine hK.out _ _ ⟨keepc hb8 s0,keepc hb8 s1,keepc hb8 s2,keepc hb8 s3,s4.trans (hb8.mono s4.size)⟩ (fun hHeld=>?_)
 clear hK K hb8 s0 s1 s2 s3 s4
 try simp only [zN]
 refine zt 2 ?_;try simp only [zN];refine zt 3 ?_;try simp only [zN];refine zu 4 ?_;try simp only [zN];refine zu 5 ?_;try simp only [zN];refine zt 6 ?_;try simp only [zN];refine zt 7 ?_;try simp only [zN];refine zu 8 ?_;try simp only [zN];refine zu 9 ?_;try simp only [zN];refine zu 10 ?_;try simp only [zN];refine zt 11 ?_;try simp only [zN];refine zt 12 ?_;try simp only [zN];refine zu 13 ?_;try simp only [zN];refine zu 14 ?_;try simp only [zN];refine zu 15 ?_;try simp only [zN];refine zu 16 ?_;try simp only [zN];refine zu 17 ?_;try simp only [zN];refine zu 18 ?_;try simp only [zN];refine zu 19 ?_;try simp only [zN];refine zu 20 ?_;try simp only [zN];refine zu 21 ?_;try simp only [zN];refine zu 22 ?_;try simp only [zN];refine zu 23 ?_;try simp only [zN];refine zu 24 ?_;try simp only [zN];refine zt 25 ?_;try simp only [zN]
 refine wpAnyH_done (by kernel_rfl) ?_ _
 go_wp2
 go_ret2
 exact VPost.nil hHeld.2.2.2.2
theorem put_no2 (A : Option Addr) (c : Nat) (l : List S47) (st : Int) (x : S47) (w : World) (hr : Kd.C k47 w A l.length l) (fr : Option (Nat × Value)) (lv : Value) (hf : Instr.findNow (.int .i64) (.int .i64 st) laysE.toList 0 = some fr) (hlv : lookOf .nilFunc fr = (lv,false)) (h1 : chainB l = true) :
  Calls Tryz.prog 52 #[.slice A l.length c,.int .i64 st,.agg #[.int .u64 x.f0,.string x.f1,.bool x.f2,.int .i64 x.f3]] w (VPost [] 1 w):=by
 have HCK:=zh (fun (W : World) (h : Below w.heap.size w W)=>chain.walk A c l W (Kd.C_below hr h))
 have HMY:=zh (fun (W : World)=>mayV.walk x W)
 have HF:=zh hf;clear hf
 have HLV:=zh hlv;clear hlv
 rw [h1] at HCK
 rw [show errB true = 0 from rfl] at HCK
 clear h1 hr
 go_enter Tryz.func52,Tryz.ntmps52
 go_wp2_with (first
  | (((with_reducible refine gate_dst (N:=5) rfl ?_);go_must (refine zbx 5 #[.int .u64 x.f0,.string x.f1,.bool x.f2,.int .i64 x.f3] 47 ?_;intro gx hgx w1 hb1 hbel1;have KX:=zh hb1;have HB1:=zh hbel1;have GX:=zh (blk_lt hb1);clear hb1 hbel1 hgx));have GB0:=zh HB1.out.size)
  | (((with_reducible refine gate_dst (N:=13) rfl ?_);go_must (refine makeMap_event (t:=176) rfl rfl ?_;intro gm hgm w2 hm2 hbel2;have M2:=zh hm2;have GBX:=zh (show w.heap.size ≤ gm by rw [hgm];exact HB1.out.size);have HB2:=keepB HB1 hbel2;have K2:=zk KX hbel2;have GN:=zh (show gx ≠ gm by have:=GX.out;omega);clear hm2 hbel2 hgm));have GB : Hid (w.heap.size ≤ gm):=GBX)
  | ((with_reducible refine gate_insert (k:=.const (.int .i64 0)) rfl ?_);go_must (refine wpList_insert_int rfl rfl 176 (.tmp 13) _ _ rfl 3 173 .i64 Tryz.underlying176 Tryz.underlying3 gm #[] 0 0 _ rfl rfl rfl M2.out rfl ?_;intro w3 M3 HO3;have HB3:=zo HO3 HB2 GB;have K3:=zl HO3 K2 GN.out))
  | ((with_reducible refine gate_insert (k:=.const (.int .i64 1)) rfl ?_);go_must (refine wpList_insert_int rfl rfl 176 (.tmp 13) _ _ rfl 3 173 .i64 Tryz.underlying176 Tryz.underlying3 gm #[⟨.int .i64 0,.func (.func 107) #[] #[],0⟩] 1 1 _ rfl rfl rfl M3.out rfl ?_;intro w4 M4 HO4;have HB4:=zo HO4 HB3 GB;have K4:=zl HO4 K3 GN.out))
  | ((with_reducible refine gate_insert (k:=.const (.int .i64 2)) rfl ?_);go_must (refine wpList_insert_int rfl rfl 176 (.tmp 13) _ _ rfl 3 173 .i64 Tryz.underlying176 Tryz.underlying3 gm #[⟨.int .i64 0,.func (.func 107) #[] #[],0⟩,⟨.int .i64 1,.func (.func 108) #[] #[],1⟩] 2 2 _ rfl rfl rfl M4.out rfl ?_;intro w5 M5 HO5;have HB5:=zo HO5 HB4 GB;have K5:=zl HO5 K4 GN.out))
  | ((with_reducible refine gate_lookup (t:=176) rfl ?_);go_must (refine wpList_look_int rfl 176 _ _ rfl 3 173 .i64 Tryz.underlying176 Tryz.underlying3 gm laysE 3 st rfl rfl M5.out fr HF.out (.nilFunc) lv false (fun w=>by kernel_rfl) HLV.out ?_)))
 clear M2 M3 M4 M5 HO3 HO4 HO5 K2 K3 K4 KX HB1 HB2 HB3 HB4 HF
 refine wp_region_held_drew (S:=fun W=>W.cell? ⟨gx,0,none⟩ = some (.int .u64 x.f0) ∧ W.cell? ⟨gx,1,none⟩ = some (.string x.f1) ∧ W.cell? ⟨gx,2,none⟩ = some (.bool x.f2) ∧ W.cell? ⟨gx,3,none⟩ = some (.int .i64 x.f3) ∧ Below w.heap.size w W) (by kernel_rfl) ?_ (fun hHeld=>?_)
 ·exact ⟨blk_cell (blk_drew K5.out) 0,blk_cell (blk_drew K5.out) 1,blk_cell (blk_drew K5.out) 2,blk_cell (blk_drew K5.out) 3,HB5.out.drew⟩
 clear K5 HB5
 refine zt 0 ?_;try simp only [zN]
 refine wpAnyH_ready (rs:=[1]) (by kernel_rfl) (by simp) ?_
 refine AllReadyH.cons (o:=_) rfl (fun K hK=>?_) AllReadyH.nil
 rw [if_pos (by rfl)]
 go_simp
 obtain ⟨s0,s1,s2,s3,s4⟩:=hHeld
 refine (HCK.out _ s4).mono ?_
 rintro e8 w8 ⟨rfl,hb8⟩
 refine hK.out _ _ ⟨keepc hb8 s0,keepc hb8 s1,keepc hb8 s2,keepc hb8 s3,s4.trans (hb8.mono s4.size)⟩ (fun hHeld=>?_)
 clear hK K hb8 s0 s1 s2 s3 s4
 try simp only [zN]
 refine zt 2 ?_;try simp only [zN];refine zt 3 ?_;try simp only [zN];refine zt 4 ?_;try simp only [zN];refine zt 5 ?_;try simp only [zN];refine zt 6 ?_;try simp only [zN];refine zt 7 ?_;try simp only [zN];refine zu 8 ?_;try simp only [zN];refine zu 9 ?_;try simp only [zN];refine zu 10 ?_;try simp only [zN];refine zt 11 ?_;try simp only [zN];refine zt 12 ?_;try simp only [zN];refine zu 13 ?_;try simp only [zN];refine zu 14 ?_;try simp only [zN];refine zu 15 ?_;try simp only [zN];refine zu 16 ?_;try simp only [zN];refine zu 17 ?_;try simp only [zN];refine zu 18 ?_;try simp only [zN];refine zu 19 ?_;try simp only [zN];refine zu 20 ?_;try simp only [zN];refine zu 21 ?_;try simp only [zN];refine zu 22 ?_;try simp only [zN];refine zu 23 ?_;try simp only [zN];refine zu 24 ?_;try simp only [zN];refine zt 25 ?_;try simp only [zN]
 refine wpAnyH_done (by kernel_rfl) ?_ _
 go_wp2
 go_ret2
 exact VPost.nil hHeld.2.2.2.2
theorem put_no3 (A : Option Addr) (c : Nat) (l : List S47) (st : Int) (x : S47) (w : World) (hr : Kd.C k47 w A l.length l) (fr : Option (Nat × Value)) (lv : Value) (hf : Instr.findNow (.int .i64) (.int .i64 st) laysE.toList 0 = some fr) (hlv : lookOf .nilFunc fr = (lv,true)) (h1 : chainB l = true) (h2 : mayV x = false) :
  Calls Tryz.prog 52 #[.slice A l.length c,.int .i64 st,.agg #[.int .u64 x.f0,.string x.f1,.bool x.f2,.int .i64 x.f3]] w (VPost [] 1 w):=by
 have HCK:=zh (fun (W : World) (h : Below w.heap.size w W)=>chain.walk A c l W (Kd.C_below hr h))
 have HMY:=zh (fun (W : World)=>mayV.walk x W)
 have HF:=zh hf;clear hf
 have HLV:=zh hlv;clear hlv
 rw [h1] at HCK
 rw [show errB true = 0 from rfl] at HCK
 rw [h2] at HMY
 clear h1 h2 hr
 go_enter Tryz.func52,Tryz.ntmps52
 go_wp2_with (first
  | (((with_reducible refine gate_dst (N:=5) rfl ?_);go_must (refine zbx 5 #[.int .u64 x.f0,.string x.f1,.bool x.f2,.int .i64 x.f3] 47 ?_;intro gx hgx w1 hb1 hbel1;have KX:=zh hb1;have HB1:=zh hbel1;have GX:=zh (blk_lt hb1);clear hb1 hbel1 hgx));have GB0:=zh HB1.out.size)
  | (((with_reducible refine gate_dst (N:=13) rfl ?_);go_must (refine makeMap_event (t:=176) rfl rfl ?_;intro gm hgm w2 hm2 hbel2;have M2:=zh hm2;have GBX:=zh (show w.heap.size ≤ gm by rw [hgm];exact HB1.out.size);have HB2:=keepB HB1 hbel2;have K2:=zk KX hbel2;have GN:=zh (show gx ≠ gm by have:=GX.out;omega);clear hm2 hbel2 hgm));have GB : Hid (w.heap.size ≤ gm):=GBX)
  | ((with_reducible refine gate_insert (k:=.const (.int .i64 0)) rfl ?_);go_must (refine wpList_insert_int rfl rfl 176 (.tmp 13) _ _ rfl 3 173 .i64 Tryz.underlying176 Tryz.underlying3 gm #[] 0 0 _ rfl rfl rfl M2.out rfl ?_;intro w3 M3 HO3;have HB3:=zo HO3 HB2 GB;have K3:=zl HO3 K2 GN.out))
  | ((with_reducible refine gate_insert (k:=.const (.int .i64 1)) rfl ?_);go_must (refine wpList_insert_int rfl rfl 176 (.tmp 13) _ _ rfl 3 173 .i64 Tryz.underlying176 Tryz.underlying3 gm #[⟨.int .i64 0,.func (.func 107) #[] #[],0⟩] 1 1 _ rfl rfl rfl M3.out rfl ?_;intro w4 M4 HO4;have HB4:=zo HO4 HB3 GB;have K4:=zl HO4 K3 GN.out))
  | ((with_reducible refine gate_insert (k:=.const (.int .i64 2)) rfl ?_);go_must (refine wpList_insert_int rfl rfl 176 (.tmp 13) _ _ rfl 3 173 .i64 Tryz.underlying176 Tryz.underlying3 gm #[⟨.int .i64 0,.func (.func 107) #[] #[],0⟩,⟨.int .i64 1,.func (.func 108) #[] #[],1⟩] 2 2 _ rfl rfl rfl M4.out rfl ?_;intro w5 M5 HO5;have HB5:=zo HO5 HB4 GB;have K5:=zl HO5 K4 GN.out))
  | ((with_reducible refine gate_lookup (t:=176) rfl ?_);go_must (refine wpList_look_int rfl 176 _ _ rfl 3 173 .i64 Tryz.underlying176 Tryz.underlying3 gm laysE 3 st rfl rfl M5.out fr HF.out (.nilFunc) lv true (fun w=>by kernel_rfl) HLV.out ?_)))
 clear M2 M3 M4 M5 HO3 HO4 HO5 K2 K3 K4 KX HB1 HB2 HB3 HB4 HF
 refine wp_region_held_drew (S:=fun W=>W.cell? ⟨gx,0,none⟩ = some (.int .u64 x.f0) ∧ W.cell? ⟨gx,1,none⟩ = some (.string x.f1) ∧ W.cell? ⟨gx,2,none⟩ = some (.bool x.f2) ∧ W.cell? ⟨gx,3,none⟩ = some (.int .i64 x.f3) ∧ Below w.heap.size w W) (by kernel_rfl) ?_ (fun hHeld=>?_)
 ·exact ⟨blk_cell (blk_drew K5.out) 0,blk_cell (blk_drew K5.out) 1,blk_cell (blk_drew K5.out) 2,blk_cell (blk_drew K5.out) 3,HB5.out.drew⟩
 clear K5 HB5
 refine zt 0 ?_;try simp only [zN]
 refine wpAnyH_ready (rs:=[1]) (by kernel_rfl) (by simp) ?_
 refine AllReadyH.cons (o:=_) rfl (fun K hK=>?_) AllReadyH.nil
 rw [if_pos (by rfl)]
 go_simp
 obtain ⟨s0,s1,s2,s3,s4⟩:=hHeld
 refine (HCK.out _ s4).mono ?_
 rintro e8 w8 ⟨rfl,hb8⟩
 refine hK.out _ _ ⟨keepc hb8 s0,keepc hb8 s1,keepc hb8 s2,keepc hb8 s3,s4.trans (hb8.mono s4.size)⟩ (fun hHeld=>?_)
 clear hK K hb8 s0 s1 s2 s3 s4
 try simp only [zN]
 refine zt 2 ?_;try simp only [zN];refine zt 3 ?_;try simp only [zN];refine zt 4 ?_;try simp only [zN];refine zt 5 ?_;try simp only [zN];refine zt 6 ?_;try simp only [zN];refine zt 7 ?_;try simp only [zN];refine zt 8 ?_;try simp only [zN]
 refine wpAnyH_ready (rs:=[9]) (by kernel_rfl) (by simp) ?_
 refine AllReadyH.cons (o:=_) rfl (fun K hK=>?_) AllReadyH.nil
 rw [if_pos (by rfl)]
 go_simp
 obtain ⟨s0,s1,s2,s3,s4⟩:=hHeld
 refine (HMY.out _).mono ?_
 rintro e8 w8 ⟨rfl,hb8⟩
 refine hK.out _ _ ⟨keepc hb8 s0,keepc hb8 s1,keepc hb8 s2,keepc hb8 s3,s4.trans (hb8.mono s4.size)⟩ (fun hHeld=>?_)
 clear hK K hb8 s0 s1 s2 s3 s4
 try simp only [zN]
 refine zt 10 ?_;try simp only [zN];refine zt 11 ?_;try simp only [zN];refine zt 12 ?_;try simp only [zN];refine zu 13 ?_;try simp only [zN];refine zu 14 ?_;try simp only [zN];refine zu 15 ?_;try simp only [zN];refine zu 16 ?_;try simp only [zN];refine zu 17 ?_;try simp only [zN];refine zu 18 ?_;try simp only [zN];refine zu 19 ?_;try simp only [zN];refine zu 20 ?_;try simp only [zN];refine zu 21 ?_;try simp only [zN];refine zu 22 ?_;try simp only [zN];refine zu 23 ?_;try simp only [zN];refine zu 24 ?_;try simp only [zN];refine zt 25 ?_;try simp only [zN]
 refine wpAnyH_done (by kernel_rfl) ?_ _
 go_wp2
 go_ret2
 exact VPost.nil hHeld.2.2.2.2
theorem put_no4 (A : Option Addr) (c : Nat) (l : List S47) (st : Int) (x : S47) (w : World) (hr : Kd.C k47 w A l.length l) (fr : Option (Nat × Value)) (lv : Value) (hf : Instr.findNow (.int .i64) (.int .i64 st) laysE.toList 0 = some fr) (hlv : lookOf .nilFunc fr = (lv,true)) (h1 : chainB l = true) (h2 : mayV x = true) (h3 : 0 < l.length) (y : Int) (hy : y = l[0].f3) (h4 : x.f3 < y) :
  Calls Tryz.prog 52 #[.slice A l.length c,.int .i64 st,.agg #[.int .u64 x.f0,.string x.f1,.bool x.f2,.int .i64 x.f3]] w (VPost [] 1 w):=by
 have HCK:=zh (fun (W : World) (h : Below w.heap.size w W)=>chain.walk A c l W (Kd.C_below hr h))
 have HMY:=zh (fun (W : World)=>mayV.walk x W)
 have HF:=zh hf;clear hf
 have HLV:=zh hlv;clear hlv
 have d0 : decide ((0 : Int) < (l.length : Int)) = true:=decide_eq_true (by omega)
 have d0n : decide (0 < l.length) = true:=decide_eq_true (by omega)
 have d9 : (0 : Int) < (l.length : Int):=by omega
 obtain ⟨ad,e',g0,g1,g2,g3⟩:=atVersion hr (Below.refl _ _) 0 h3;clear g0 g1 g2
 subst e'
 have G3:=zh g3;clear g3
 rw [Nat.zero_mul,Addr.add_zero',← hy] at G3
 rw [h1] at HCK
 rw [show errB true = 0 from rfl] at HCK
 rw [h2] at HMY
 have d1 : decide (x.f3 < y) = true:=decide_eq_true h4
 clear h1 h2 hr hy
 go_enter Tryz.func52,Tryz.ntmps52
 go_wp2_with (first
  | (((with_reducible refine gate_dst (N:=5) rfl ?_);go_must (refine zbx 5 #[.int .u64 x.f0,.string x.f1,.bool x.f2,.int .i64 x.f3] 47 ?_;intro gx hgx w1 hb1 hbel1;have KX:=zh hb1;have HB1:=zh hbel1;have GX:=zh (blk_lt hb1);clear hb1 hbel1 hgx));have GB0:=zh HB1.out.size)
  | (((with_reducible refine gate_dst (N:=13) rfl ?_);go_must (refine makeMap_event (t:=176) rfl rfl ?_;intro gm hgm w2 hm2 hbel2;have M2:=zh hm2;have GBX:=zh (show w.heap.size ≤ gm by rw [hgm];exact HB1.out.size);have HB2:=keepB HB1 hbel2;have K2:=zk KX hbel2;have GN:=zh (show gx ≠ gm by have:=GX.out;omega);clear hm2 hbel2 hgm));have GB : Hid (w.heap.size ≤ gm):=GBX)
  | ((with_reducible refine gate_insert (k:=.const (.int .i64 0)) rfl ?_);go_must (refine wpList_insert_int rfl rfl 176 (.tmp 13) _ _ rfl 3 173 .i64 Tryz.underlying176 Tryz.underlying3 gm #[] 0 0 _ rfl rfl rfl M2.out rfl ?_;intro w3 M3 HO3;have HB3:=zo HO3 HB2 GB;have K3:=zl HO3 K2 GN.out))
  | ((with_reducible refine gate_insert (k:=.const (.int .i64 1)) rfl ?_);go_must (refine wpList_insert_int rfl rfl 176 (.tmp 13) _ _ rfl 3 173 .i64 Tryz.underlying176 Tryz.underlying3 gm #[⟨.int .i64 0,.func (.func 107) #[] #[],0⟩] 1 1 _ rfl rfl rfl M3.out rfl ?_;intro w4 M4 HO4;have HB4:=zo HO4 HB3 GB;have K4:=zl HO4 K3 GN.out))
  | ((with_reducible refine gate_insert (k:=.const (.int .i64 2)) rfl ?_);go_must (refine wpList_insert_int rfl rfl 176 (.tmp 13) _ _ rfl 3 173 .i64 Tryz.underlying176 Tryz.underlying3 gm #[⟨.int .i64 0,.func (.func 107) #[] #[],0⟩,⟨.int .i64 1,.func (.func 108) #[] #[],1⟩] 2 2 _ rfl rfl rfl M4.out rfl ?_;intro w5 M5 HO5;have HB5:=zo HO5 HB4 GB;have K5:=zl HO5 K4 GN.out))
  | ((with_reducible refine gate_lookup (t:=176) rfl ?_);go_must (refine wpList_look_int rfl 176 _ _ rfl 3 173 .i64 Tryz.underlying176 Tryz.underlying3 gm laysE 3 st rfl rfl M5.out fr HF.out (.nilFunc) lv true (fun w=>by kernel_rfl) HLV.out ?_)))
 clear M2 M3 M4 M5 HO3 HO4 HO5 K2 K3 K4 KX HB1 HB2 HB3 HB4 HF
 refine wp_region_held_drew (S:=fun W=>W.cell? ⟨gx,0,none⟩ = some (.int .u64 x.f0) ∧ W.cell? ⟨gx,1,none⟩ = some (.string x.f1) ∧ W.cell? ⟨gx,2,none⟩ = some (.bool x.f2) ∧ W.cell? ⟨gx,3,none⟩ = some (.int .i64 x.f3) ∧ Below w.heap.size w W ∧ W.cell? ⟨ad.block,ad.off + 3,none⟩ = some (.int .i64 y)) (by kernel_rfl) ?_ (fun hHeld=>?_)
 ·exact ⟨blk_cell (blk_drew K5.out) 0,blk_cell (blk_drew K5.out) 1,blk_cell (blk_drew K5.out) 2,blk_cell (blk_drew K5.out) 3,HB5.out.drew,keepc HB5.out.drew G3.out⟩
 clear K5 HB5
 refine zt 0 ?_;try simp only [zN]
 refine wpAnyH_ready (rs:=[1]) (by kernel_rfl) (by simp) ?_
 refine AllReadyH.cons (o:=_) rfl (fun K hK=>?_) AllReadyH.nil
 rw [if_pos (by rfl)]
 go_simp
 obtain ⟨s0,s1,s2,s3,s4,s5⟩:=hHeld
 refine (HCK.out _ s4).mono ?_
 rintro e8 w8 ⟨rfl,hb8⟩
 refine hK.out _ _ ⟨keepc hb8 s0,keepc hb8 s1,keepc hb8 s2,keepc hb8 s3,s4.trans (hb8.mono s4.size),keepc hb8 s5⟩ (fun hHeld=>?_)
 clear hK K hb8 s0 s1 s2 s3 s4 s5
 try simp only [zN]
 refine zt 2 ?_;try simp only [zN];refine zt 3 ?_;try simp only [zN];refine zt 4 ?_;try simp only [zN];refine zt 5 ?_;try simp only [zN];refine zt 6 ?_;try simp only [zN];refine zt 7 ?_;try simp only [zN];refine zt 8 ?_;try simp only [zN]
 refine wpAnyH_ready (rs:=[9]) (by kernel_rfl) (by simp) ?_
 refine AllReadyH.cons (o:=_) rfl (fun K hK=>?_) AllReadyH.nil
 rw [if_pos (by rfl)]
 go_simp
 obtain ⟨s0,s1,s2,s3,s4,s5⟩:=hHeld
 refine (HMY.out _).mono ?_
 rintro e8 w8 ⟨rfl,hb8⟩
 refine hK.out _ _ ⟨keepc hb8 s0,keepc hb8 s1,keepc hb8 s2,keepc hb8 s3,s4.trans (hb8.mono s4.size),keepc hb8 s5⟩ (fun hHeld=>?_)
 clear hK K hb8 s0 s1 s2 s3 s4 s5
 try simp only [zN]
 refine zt 10 ?_;try simp only [zN];refine zt 11 ?_;try simp only [zN];refine zt 12 ?_;try simp only [zN];refine zt 13 ?_;try simp only [zN];refine zt 14 ?_;try simp only [zN];refine zt 15 ?_;try simp only [zN];refine zt 16 ?_;try simp only [zN];refine zt 17 ?_;try simp only [zN];refine zt 18 ?_;try simp only [zN];refine zt 19 ?_;try simp only [zN];refine zt 20 ?_;try simp only [zN];refine zt 21 ?_;try simp only [zN];refine zt 22 ?_;try simp only [zN];refine zt 23 ?_;try simp only [zN];refine zt 24 ?_;try simp only [zN];refine zt 25 ?_;try simp only [zN]
 refine wpAnyH_done (by kernel_rfl) ?_ _
 go_wp2
 go_ret2
 exact VPost.nil hHeld.2.2.2.2.1
end
section
open Go.WideMaps Go.Maps
attribute [local go_sem] Oper.semAt_some
theorem put_yes0 (A : Option Addr) (c : Nat) (l : List S47) (st : Int) (x : S47) (w : World) (hr : Kd.C k47 w A l.length l) (fr : Option (Nat × Value)) (hf : Instr.findNow (.int .i64) (.int .i64 st) laysE.toList 0 = some fr) (h1 : chainB l = true) (fid : Nat) (L : List S47) (er : Int) (res : List S47) (rer : Int) (hlv : lookOf .nilFunc fr = (.func (.func fid) #[] #[],true)) (eg : ∀ args w,(callFunc fid args).run Tryz.prog w = .ok (.enter fid args) w) (hl : ∀ W,Below w.heap.size w W → Calls Tryz.prog fid #[.slice A l.length c,.agg #[.int .u64 x.f0,.string x.f1,.bool x.f2,.int .i64 x.f3]] W (VPost L er W)) (hres : (er == 0) = false ∧ res = [] ∧ rer = er ∨ (er == 0) = true ∧ 20 < L.length ∧ res = [] ∧ rer = 6 ∨ (er == 0) = true ∧ L.length ≤ 20 ∧ res = L ∧ rer = 0) (h2 : mayV x = true) (h3 : l.length = 0) :
  Calls Tryz.prog 52 #[.slice A l.length c,.int .i64 st,.agg #[.int .u64 x.f0,.string x.f1,.bool x.f2,.int .i64 x.f3]] w (VPost res rer w):=by
 have HCK:=zh (fun (W : World) (h : Below w.heap.size w W)=>chain.walk A c l W (Kd.C_below hr h))
 have HMY:=zh (fun (W : World)=>mayV.walk x W)
 have HF:=zh hf;clear hf
 have HLV:=zh hlv;clear hlv
 have HL:=zh hl;clear hl
 have d0 : decide ((0 : Int) < (l.length : Int)) = false:=decide_eq_false (by omega)
 have d0n : decide (0 < l.length) = false:=decide_eq_false (by omega)
 have d0p : ¬ 0 < l.length:=by omega
 clear h3
 rw [h1] at HCK
 rw [show errB true = 0 from rfl] at HCK
 rw [h2] at HMY
 clear h1 h2 hr
 go_enter Tryz.func52,Tryz.ntmps52
 go_wp2_with (first
  | (((with_reducible refine gate_dst (N:=5) rfl ?_);go_must (refine zbx 5 #[.int .u64 x.f0,.string x.f1,.bool x.f2,.int .i64 x.f3] 47 ?_;intro gx hgx w1 hb1 hbel1;have KX:=zh hb1;have HB1:=zh hbel1;have GX:=zh (blk_lt hb1);clear hb1 hbel1 hgx));have GB0:=zh HB1.out.size)
  | (((with_reducible refine gate_dst (N:=13) rfl ?_);go_must (refine makeMap_event (t:=176) rfl rfl ?_;intro gm hgm w2 hm2 hbel2;have M2:=zh hm2;have GBX:=zh (show w.heap.size ≤ gm by rw [hgm];exact HB1.out.size);have HB2:=keepB HB1 hbel2;have K2:=zk KX hbel2;have GN:=zh (show gx ≠ gm by have:=GX.out;omega);clear hm2 hbel2 hgm));have GB : Hid (w.heap.size ≤ gm):=GBX)
  | ((with_reducible refine gate_insert (k:=.const (.int .i64 0)) rfl ?_);go_must (refine wpList_insert_int rfl rfl 176 (.tmp 13) _ _ rfl 3 173 .i64 Tryz.underlying176 Tryz.underlying3 gm #[] 0 0 _ rfl rfl rfl M2.out rfl ?_;intro w3 M3 HO3;have HB3:=zo HO3 HB2 GB;have K3:=zl HO3 K2 GN.out))
  | ((with_reducible refine gate_insert (k:=.const (.int .i64 1)) rfl ?_);go_must (refine wpList_insert_int rfl rfl 176 (.tmp 13) _ _ rfl 3 173 .i64 Tryz.underlying176 Tryz.underlying3 gm #[⟨.int .i64 0,.func (.func 107) #[] #[],0⟩] 1 1 _ rfl rfl rfl M3.out rfl ?_;intro w4 M4 HO4;have HB4:=zo HO4 HB3 GB;have K4:=zl HO4 K3 GN.out))
  | ((with_reducible refine gate_insert (k:=.const (.int .i64 2)) rfl ?_);go_must (refine wpList_insert_int rfl rfl 176 (.tmp 13) _ _ rfl 3 173 .i64 Tryz.underlying176 Tryz.underlying3 gm #[⟨.int .i64 0,.func (.func 107) #[] #[],0⟩,⟨.int .i64 1,.func (.func 108) #[] #[],1⟩] 2 2 _ rfl rfl rfl M4.out rfl ?_;intro w5 M5 HO5;have HB5:=zo HO5 HB4 GB;have K5:=zl HO5 K4 GN.out))
  | ((with_reducible refine gate_lookup (t:=176) rfl ?_);go_must (refine wpList_look_int rfl 176 _ _ rfl 3 173 .i64 Tryz.underlying176 Tryz.underlying3 gm laysE 3 st rfl rfl M5.out fr HF.out (.nilFunc) (.func (.func fid) #[] #[]) true (fun w=>by kernel_rfl) HLV.out ?_)))
 clear M2 M3 M4 M5 HO3 HO4 HO5 K2 K3 K4 KX HB1 HB2 HB3 HB4 HF
 refine wp_region_held_drew (S:=fun W=>W.cell? ⟨gx,0,none⟩ = some (.int .u64 x.f0) ∧ W.cell? ⟨gx,1,none⟩ = some (.string x.f1) ∧ W.cell? ⟨gx,2,none⟩ = some (.bool x.f2) ∧ W.cell? ⟨gx,3,none⟩ = some (.int .i64 x.f3) ∧ Below w.heap.size w W) (by kernel_rfl) ?_ (fun hHeld=>?_)
 ·exact ⟨blk_cell (blk_drew K5.out) 0,blk_cell (blk_drew K5.out) 1,blk_cell (blk_drew K5.out) 2,blk_cell (blk_drew K5.out) 3,HB5.out.drew⟩
 clear K5 HB5
 refine zt 0 ?_;try simp only [zN]
 refine wpAnyH_ready (rs:=[1]) (by kernel_rfl) (by simp) ?_
 refine AllReadyH.cons (o:=_) rfl (fun K hK=>?_) AllReadyH.nil
 rw [if_pos (by rfl)]
 go_simp
 obtain ⟨s0,s1,s2,s3,s4⟩:=hHeld
 refine (HCK.out _ s4).mono ?_
 rintro e8 w8 ⟨rfl,hb8⟩
 refine hK.out _ _ ⟨keepc hb8 s0,keepc hb8 s1,keepc hb8 s2,keepc hb8 s3,s4.trans (hb8.mono s4.size)⟩ (fun hHeld=>?_)
 clear hK K hb8 s0 s1 s2 s3 s4
 try simp only [zN]
 refine zt 2 ?_;try simp only [zN];refine zt 3 ?_;try simp only [zN];refine zt 4 ?_;try simp only [zN];refine zt 5 ?_;try simp only [zN];refine zt 6 ?_;try simp only [zN];refine zt 7 ?_;try simp only [zN];refine zt 8 ?_;try simp only [zN]
 refine wpAnyH_ready (rs:=[9]) (by kernel_rfl) (by simp) ?_
 refine AllReadyH.cons (o:=_) rfl (fun K hK=>?_) AllReadyH.nil
 rw [if_pos (by rfl)]
 go_simp
 obtain ⟨s0,s1,s2,s3,s4⟩:=hHeld
 refine (HMY.out _).mono ?_
 rintro e8 w8 ⟨rfl,hb8⟩
 refine hK.out _ _ ⟨keepc hb8 s0,keepc hb8 s1,keepc hb8 s2,keepc hb8 s3,s4.trans (hb8.mono s4.size)⟩ (fun hHeld=>?_)
 clear hK K hb8 s0 s1 s2 s3 s4
 try simp only [zN]
 refine zt 10 ?_;try simp only [zN];refine zt 11 ?_;try simp only [zN];refine zt 12 ?_;try simp only [zN];refine zt 13 ?_;try simp only [zN];refine zt 14 ?_;try simp only [zN];refine zt 15 ?_;try simp only [zN];refine zt 16 ?_;try simp only [zN];refine zu 17 ?_;try simp only [zN];refine zu 18 ?_;try simp only [zN];refine zu 19 ?_;try simp only [zN];refine zu 20 ?_;try simp only [zN];refine zu 21 ?_;try simp only [zN];refine zu 22 ?_;try simp only [zN];refine zu 23 ?_;try simp only [zN];refine zt 24 ?_;try simp only [zN];refine zt 25 ?_;try simp only [zN]
 refine wpAnyH_done (by kernel_rfl) ?_ _
 obtain ⟨s0,s1,s2,s3,s4⟩:=hHeld
 try clear s5
 rcases hres with ⟨q1,rfl,rfl⟩ | ⟨q1,q2,rfl,rfl⟩ | ⟨q1,q2,rfl,rfl⟩
 ·have q9 : (rer != 0) = true:=by rw [bne,q1];rfl
  go_wp2_with (go_at_fn fid;refine (HL.out _ s4).mono ?_;rintro e w9 ⟨A9,c9,rfl,hc9,hC9,hb9⟩;have HC9:=hC9;have HB9:=zh (s4.trans (hb9.mono s4.size));clear hb9 hC9)
  go_ret2
  exact VPost.nil HB9.out
 ·have q9 : (er != 0) = false:=by rw [bne,q1];rfl
  have q3 : decide ((20 : Int) < (L.length : Int)) = true:=decide_eq_true (by omega)
  go_wp2_with (go_at_fn fid;refine (HL.out _ s4).mono ?_;rintro e w9 ⟨A9,c9,rfl,hc9,hC9,hb9⟩;have HC9:=hC9;have HB9:=zh (s4.trans (hb9.mono s4.size));clear hb9 hC9)
  go_ret2
  exact VPost.nil HB9.out
 ·have q9 : (er != 0) = false:=by rw [bne,q1];rfl
  have q3 : decide ((20 : Int) < (res.length : Int)) = false:=decide_eq_false (by omega)
  go_wp2_with (go_at_fn fid;refine (HL.out _ s4).mono ?_;rintro e w9 ⟨A9,c9,rfl,hc9,hC9,hb9⟩;have HC9:=hC9;have HB9:=zh (s4.trans (hb9.mono s4.size));clear hb9 hC9)
  go_ret2
  exact ⟨A9,c9,rfl,hc9,HC9,HB9.out⟩
end
section
open Go.WideMaps Go.Maps
attribute [local go_sem] Oper.semAt_some
theorem put_yes1 (A : Option Addr) (c : Nat) (l : List S47) (st : Int) (x : S47) (w : World) (hr : Kd.C k47 w A l.length l) (fr : Option (Nat × Value)) (hf : Instr.findNow (.int .i64) (.int .i64 st) laysE.toList 0 = some fr) (h1 : chainB l = true) (fid : Nat) (L : List S47) (er : Int) (res : List S47) (rer : Int) (hlv : lookOf .nilFunc fr = (.func (.func fid) #[] #[],true)) (eg : ∀ args w,(callFunc fid args).run Tryz.prog w = .ok (.enter fid args) w) (hl : ∀ W,Below w.heap.size w W → Calls Tryz.prog fid #[.slice A l.length c,.agg #[.int .u64 x.f0,.string x.f1,.bool x.f2,.int .i64 x.f3]] W (VPost L er W)) (hres : (er == 0) = false ∧ res = [] ∧ rer = er ∨ (er == 0) = true ∧ 20 < L.length ∧ res = [] ∧ rer = 6 ∨ (er == 0) = true ∧ L.length ≤ 20 ∧ res = L ∧ rer = 0) (h2 : mayV x = true) (h3 : 0 < l.length) (y : Int) (hy : y = l[0].f3) (h4 : ¬ x.f3 < y) :
  Calls Tryz.prog 52 #[.slice A l.length c,.int .i64 st,.agg #[.int .u64 x.f0,.string x.f1,.bool x.f2,.int .i64 x.f3]] w (VPost res rer w):=by
 have HCK:=zh (fun (W : World) (h : Below w.heap.size w W)=>chain.walk A c l W (Kd.C_below hr h))
 have HMY:=zh (fun (W : World)=>mayV.walk x W)
 have HF:=zh hf;clear hf
 have HLV:=zh hlv;clear hlv
 have HL:=zh hl;clear hl
 have d0 : decide ((0 : Int) < (l.length : Int)) = true:=decide_eq_true (by omega)
 have d0n : decide (0 < l.length) = true:=decide_eq_true (by omega)
 have d9 : (0 : Int) < (l.length : Int):=by omega
 obtain ⟨ad,e',g0,g1,g2,g3⟩:=atVersion hr (Below.refl _ _) 0 h3;clear g0 g1 g2
 subst e'
 have G3:=zh g3;clear g3
 rw [Nat.zero_mul,Addr.add_zero',← hy] at G3
 rw [h1] at HCK
 rw [show errB true = 0 from rfl] at HCK
 rw [h2] at HMY
 have d1 : decide (x.f3 < y) = false:=decide_eq_false h4
 clear h1 h2 hr hy
 go_enter Tryz.func52,Tryz.ntmps52
 go_wp2_with (first
  | (((with_reducible refine gate_dst (N:=5) rfl ?_);go_must (refine zbx 5 #[.int .u64 x.f0,.string x.f1,.bool x.f2,.int .i64 x.f3] 47 ?_;intro gx hgx w1 hb1 hbel1;have KX:=zh hb1;have HB1:=zh hbel1;have GX:=zh (blk_lt hb1);clear hb1 hbel1 hgx));have GB0:=zh HB1.out.size)
  | (((with_reducible refine gate_dst (N:=13) rfl ?_);go_must (refine makeMap_event (t:=176) rfl rfl ?_;intro gm hgm w2 hm2 hbel2;have M2:=zh hm2;have GBX:=zh (show w.heap.size ≤ gm by rw [hgm];exact HB1.out.size);have HB2:=keepB HB1 hbel2;have K2:=zk KX hbel2;have GN:=zh (show gx ≠ gm by have:=GX.out;omega);clear hm2 hbel2 hgm));have GB : Hid (w.heap.size ≤ gm):=GBX)
  | ((with_reducible refine gate_insert (k:=.const (.int .i64 0)) rfl ?_);go_must (refine wpList_insert_int rfl rfl 176 (.tmp 13) _ _ rfl 3 173 .i64 Tryz.underlying176 Tryz.underlying3 gm #[] 0 0 _ rfl rfl rfl M2.out rfl ?_;intro w3 M3 HO3;have HB3:=zo HO3 HB2 GB;have K3:=zl HO3 K2 GN.out))
  | ((with_reducible refine gate_insert (k:=.const (.int .i64 1)) rfl ?_);go_must (refine wpList_insert_int rfl rfl 176 (.tmp 13) _ _ rfl 3 173 .i64 Tryz.underlying176 Tryz.underlying3 gm #[⟨.int .i64 0,.func (.func 107) #[] #[],0⟩] 1 1 _ rfl rfl rfl M3.out rfl ?_;intro w4 M4 HO4;have HB4:=zo HO4 HB3 GB;have K4:=zl HO4 K3 GN.out))
  | ((with_reducible refine gate_insert (k:=.const (.int .i64 2)) rfl ?_);go_must (refine wpList_insert_int rfl rfl 176 (.tmp 13) _ _ rfl 3 173 .i64 Tryz.underlying176 Tryz.underlying3 gm #[⟨.int .i64 0,.func (.func 107) #[] #[],0⟩,⟨.int .i64 1,.func (.func 108) #[] #[],1⟩] 2 2 _ rfl rfl rfl M4.out rfl ?_;intro w5 M5 HO5;have HB5:=zo HO5 HB4 GB;have K5:=zl HO5 K4 GN.out))
  | ((with_reducible refine gate_lookup (t:=176) rfl ?_);go_must (refine wpList_look_int rfl 176 _ _ rfl 3 173 .i64 Tryz.underlying176 Tryz.underlying3 gm laysE 3 st rfl rfl M5.out fr HF.out (.nilFunc) (.func (.func fid) #[] #[]) true (fun w=>by kernel_rfl) HLV.out ?_)))
 clear M2 M3 M4 M5 HO3 HO4 HO5 K2 K3 K4 KX HB1 HB2 HB3 HB4 HF
 refine wp_region_held_drew (S:=fun W=>W.cell? ⟨gx,0,none⟩ = some (.int .u64 x.f0) ∧ W.cell? ⟨gx,1,none⟩ = some (.string x.f1) ∧ W.cell? ⟨gx,2,none⟩ = some (.bool x.f2) ∧ W.cell? ⟨gx,3,none⟩ = some (.int .i64 x.f3) ∧ Below w.heap.size w W ∧ W.cell? ⟨ad.block,ad.off + 3,none⟩ = some (.int .i64 y)) (by kernel_rfl) ?_ (fun hHeld=>?_)
 ·exact ⟨blk_cell (blk_drew K5.out) 0,blk_cell (blk_drew K5.out) 1,blk_cell (blk_drew K5.out) 2,blk_cell (blk_drew K5.out) 3,HB5.out.drew,keepc HB5.out.drew G3.out⟩
 clear K5 HB5
 refine zt 0 ?_;try simp only [zN]
 refine wpAnyH_ready (rs:=[1]) (by kernel_rfl) (by simp) ?_
 refine AllReadyH.cons (o:=_) rfl (fun K hK=>?_) AllReadyH.nil
 rw [if_pos (by rfl)]
 go_simp
 obtain ⟨s0,s1,s2,s3,s4,s5⟩:=hHeld
 refine (HCK.out _ s4).mono ?_
 rintro e8 w8 ⟨rfl,hb8⟩
 refine hK.out _ _ ⟨keepc hb8 s0,keepc hb8 s1,keepc hb8 s2,keepc hb8 s3,s4.trans (hb8.mono s4.size),keepc hb8 s5⟩ (fun hHeld=>?_)
 clear hK K hb8 s0 s1 s2 s3 s4 s5
 try simp only [zN]
 refine zt 2 ?_;try simp only [zN];refine zt 3 ?_;try simp only [zN];refine zt 4 ?_;try simp only [zN];refine zt 5 ?_;try simp only [zN];refine zt 6 ?_;try simp only [zN];refine zt 7 ?_;try simp only [zN];refine zt 8 ?_;try simp only [zN]
 refine wpAnyH_ready (rs:=[9]) (by kernel_rfl) (by simp) ?_
 refine AllReadyH.cons (o:=_) rfl (fun K hK=>?_) AllReadyH.nil
 rw [if_pos (by rfl)]
 go_simp
 obtain ⟨s0,s1,s2,s3,s4,s5⟩:=hHeld
 refine (HMY.out _).mono ?_
 rintro e8 w8 ⟨rfl,hb8⟩
 refine hK.out _ _ ⟨keepc hb8 s0,keepc hb8 s1,keepc hb8 s2,keepc hb8 s3,s4.trans (hb8.mono s4.size),keepc hb8 s5⟩ (fun hHeld=>?_)
 clear hK K hb8 s0 s1 s2 s3 s4 s5
 try simp only [zN]
 refine zt 10 ?_;try simp only [zN];refine zt 11 ?_;try simp only [zN];refine zt 12 ?_;try simp only [zN];refine zt 13 ?_;try simp only [zN];refine zt 14 ?_;try simp only [zN];refine zt 15 ?_;try simp only [zN];refine zt 16 ?_;try simp only [zN];refine zt 17 ?_;try simp only [zN];refine zt 18 ?_;try simp only [zN];refine zt 19 ?_;try simp only [zN];refine zt 20 ?_;try simp only [zN];refine zt 21 ?_;try simp only [zN];refine zt 22 ?_;try simp only [zN];refine zt 23 ?_;try simp only [zN];refine zt 24 ?_;try simp only [zN];refine zt 25 ?_;try simp only [zN]
 refine wpAnyH_done (by kernel_rfl) ?_ _
 obtain ⟨s0,s1,s2,s3,s4,s5⟩:=hHeld
 try clear s5
 rcases hres with ⟨q1,rfl,rfl⟩ | ⟨q1,q2,rfl,rfl⟩ | ⟨q1,q2,rfl,rfl⟩
 ·have q9 : (rer != 0) = true:=by rw [bne,q1];rfl
  go_wp2_with (go_at_fn fid;refine (HL.out _ s4).mono ?_;rintro e w9 ⟨A9,c9,rfl,hc9,hC9,hb9⟩;have HC9:=hC9;have HB9:=zh (s4.trans (hb9.mono s4.size));clear hb9 hC9)
  go_ret2
  exact VPost.nil HB9.out
 ·have q9 : (er != 0) = false:=by rw [bne,q1];rfl
  have q3 : decide ((20 : Int) < (L.length : Int)) = true:=decide_eq_true (by omega)
  go_wp2_with (go_at_fn fid;refine (HL.out _ s4).mono ?_;rintro e w9 ⟨A9,c9,rfl,hc9,hC9,hb9⟩;have HC9:=hC9;have HB9:=zh (s4.trans (hb9.mono s4.size));clear hb9 hC9)
  go_ret2
  exact VPost.nil HB9.out
 ·have q9 : (er != 0) = false:=by rw [bne,q1];rfl
  have q3 : decide ((20 : Int) < (res.length : Int)) = false:=decide_eq_false (by omega)
  go_wp2_with (go_at_fn fid;refine (HL.out _ s4).mono ?_;rintro e w9 ⟨A9,c9,rfl,hc9,hC9,hb9⟩;have HC9:=hC9;have HB9:=zh (s4.trans (hb9.mono s4.size));clear hb9 hC9)
  go_ret2
  exact ⟨A9,c9,rfl,hc9,HC9,HB9.out⟩
theorem putV_yes {l : List S47} {st : Int} {x : S47} (h : ¬ (chainB l = false ∨ ¬ (0 ≤ st ∧ st ≤ 2) ∨ mayV x = false ∨ (0 < l.length ∧ x.f3 < (l.headD z47).f3))) :
  ((layV st l x).2 == 0) = false ∧ (putV l st x).1 = [] ∧ (putV l st x).2 = (layV st l x).2 ∨ ((layV st l x).2 == 0) = true ∧ 20 < (layV st l x).1.length ∧ (putV l st x).1 = [] ∧ (putV l st x).2 = 6 ∨ ((layV st l x).2 == 0) = true ∧ (layV st l x).1.length ≤ 20 ∧ (putV l st x).1 = (layV st l x).1 ∧ (putV l st x).2 = 0:=by
 unfold putV
 rw [if_neg h]
 by_cases h1 : (layV st l x).2 = 0
 ·rw [if_neg (by simpa using h1)]
  by_cases h2 : 20 < (layV st l x).1.length
  ·rw [if_pos h2];exact Or.inr (Or.inl ⟨by simpa using h1,h2,rfl,rfl⟩)
  ·rw [if_neg h2];exact Or.inr (Or.inr ⟨by simpa using h1,by omega,rfl,rfl⟩)
 ·rw [if_pos h1];exact Or.inl ⟨by simpa using h1,rfl,rfl⟩
theorem head_f3 (l : List S47) (h : 0 < l.length) : (l.headD z47).f3 = l[0].f3:=by cases l with | nil=>simp at h | cons a l=>rfl
theorem putV.walk (A : Option Addr) (c : Nat) (l : List S47) (st : Int) (x : S47) (w : World) (hr : Kd.C k47 w A l.length l) :
  Calls Tryz.prog 52 #[.slice A l.length c,.int .i64 st,.agg #[.int .u64 x.f0,.string x.f1,.bool x.f2,.int .i64 x.f3]] w (VPost (putV l st x).1 (putV l st x).2 w):=by
 have fnd : ∃ fr,Instr.findNow (.int .i64) (.int .i64 st) laysE.toList 0 = some fr ∧ (¬ (0 ≤ st ∧ st ≤ 2) → lookOf .nilFunc fr = (.nilFunc,false)) ∧ (st = 1 → lookOf .nilFunc fr = (.func (.func 108) #[] #[],true)) ∧ (0 ≤ st ∧ st ≤ 2 → st ≠ 1 → lookOf .nilFunc fr = (.func (.func 107) #[] #[],true)):=by
  by_cases e0 : st = 0
  ·subst e0;exact ⟨_,rfl,fun h=>absurd ⟨by decide,by decide⟩ h,fun h=>(by cases h),fun _ _=>rfl⟩
  ·by_cases e1 : st = 1
   ·subst e1;exact ⟨_,rfl,fun h=>absurd ⟨by decide,by decide⟩ h,fun _=>rfl,fun _ h=>absurd rfl h⟩
   ·by_cases e2 : st = 2
    ·subst e2;exact ⟨_,rfl,fun h=>absurd ⟨by decide,by decide⟩ h,fun h=>(by cases h),fun _ _=>rfl⟩
    ·have b0 : (st == 0) = false:=beq_eq_false_iff_ne.2 e0
     have b1 : (st == 1) = false:=beq_eq_false_iff_ne.2 e1
     have b2 : (st == 2) = false:=beq_eq_false_iff_ne.2 e2
     exact ⟨none,by simp [laysE,Instr.findNow,Instr.sameNow,b0,b1,b2],fun _=>rfl,fun h=>absurd h e1,fun h=>by omega⟩
 obtain ⟨fr,hf,n1,n2,n3⟩:=fnd
 by_cases hb : chainB l = false ∨ ¬ (0 ≤ st ∧ st ≤ 2) ∨ mayV x = false ∨ (0 < l.length ∧ x.f3 < (l.headD z47).f3)
 ·have e : putV l st x = ([],1):=by unfold putV;rw [if_pos hb]
  rw [e]
  cases h1 : chainB l
  ·by_cases hs : 0 ≤ st ∧ st ≤ 2
   ·by_cases hs1 : st = 1
    ·exact put_no1 A c l st x w hr fr _ _ hf (n2 hs1) h1
    ·exact put_no1 A c l st x w hr fr _ _ hf (n3 hs hs1) h1
   ·exact put_no1 A c l st x w hr fr _ _ hf (n1 hs) h1
  ·by_cases hs : 0 ≤ st ∧ st ≤ 2
   ·obtain ⟨lv,hlv⟩ : ∃ lv,lookOf .nilFunc fr = (lv,true):=by
     by_cases hs1 : st = 1
     ·exact ⟨_,n2 hs1⟩
     ·exact ⟨_,n3 hs hs1⟩
    cases h2 : mayV x
    ·exact put_no3 A c l st x w hr fr lv hf hlv h1 h2
    ·rcases hb with h | h | h | ⟨h3,h4⟩
     ·rw [h1] at h;cases h
     ·exact absurd hs h
     ·rw [h2] at h;cases h
     ·exact put_no4 A c l st x w hr fr lv hf hlv h1 h2 h3 _ rfl (by rw [← head_f3 l h3];exact h4)
   ·exact put_no2 A c l st x w hr fr _ hf (n1 hs) h1
 ·have hres:=putV_yes hb
  have h1 : chainB l = true:=by cases h : chainB l;exact absurd (Or.inl h) hb;rfl
  have h2 : mayV x = true:=by cases h : mayV x;exact absurd (Or.inr (Or.inr (Or.inl h))) hb;rfl
  have hs : 0 ≤ st ∧ st ≤ 2:=by
   by_cases h : 0 ≤ st ∧ st ≤ 2
   ·exact h
   ·exact absurd (Or.inr (Or.inl h)) hb
  have hlen:=chain_len h1
  obtain ⟨fid,hlv,eg,hl⟩ : ∃ fid,lookOf .nilFunc fr = (.func (.func fid) #[] #[],true) ∧ (∀ args w,(callFunc fid args).run Tryz.prog w = .ok (.enter fid args) w) ∧ ∀ W,Below w.heap.size w W → Calls Tryz.prog fid #[.slice A l.length c,.agg #[.int .u64 x.f0,.string x.f1,.bool x.f2,.int .i64 x.f3]] W (VPost (layV st l x).1 (layV st l x).2 W):=by
   by_cases hs1 : st = 1
   ·refine ⟨_,n2 hs1,enters Tryz.func108 (by kernel_rfl) (by kernel_rfl),fun W hW=>?_⟩
    rw [hs1]
    exact ahead.walk A c l x W (Kd.C_below hr hW) (by omega)
   ·refine ⟨_,n3 hs hs1,enters Tryz.func107 (by kernel_rfl) (by kernel_rfl),fun W hW=>?_⟩
    have : layV st l x = (⟨0,x.f1,x.f2,x.f3⟩ :: delV 0 l,0):=by unfold layV;rw [if_neg hs1]
    rw [this]
    exact over.walk A c l x W (Kd.C_below hr hW) (by omega)
  rcases Nat.eq_zero_or_pos l.length with h3 | h3
  ·exact put_yes0 A c l st x w hr fr hf h1 fid _ _ _ _ hlv eg hl hres h2 h3
  ·exact put_yes1 A c l st x w hr fr hf h1 fid _ _ _ _ hlv eg hl hres h2 h3 _ rfl (by rw [← head_f3 l h3];intro h;exact hb (Or.inr (Or.inr (Or.inr ⟨h3,h⟩))))
end
section
open Go.WideMaps Go.Maps
def hasId (l : List S47) (id : Int) : Bool:=l.any (idB id)
def dropV (l : List S47) (id : Int) : List S47 × Int:=if chainB l = false then ([],1) else if hasId l id = false then ([],4) else (delV id l,0)
def deleteV (l : List S47) (st id t : Int) : List S47 × Int:=if st = 0 then dropV l 0 else putV l st ⟨if st = 2 then 0 else id,⟨#[]⟩,true,t⟩
def atV (l : List S47) (i : Int) : S47 × Int:=if chainB l = false then (z47,1) else if i < 0 ∨ (l.length : Int) ≤ i then (z47,4) else (l.getD i.toNat z47,if (l.getD i.toNat z47).f2 = true then 13 else 0)
theorem pos_has (l : List S47) (id : Int) : decide (posI (l.findIdx? (idB id)) < 0) = !(hasId l id):=by
 have:=pos_any l (idB id)
 unfold hasId
 rw [← this,← decide_not]
 congr 1
 rw [eq_iff_iff]
 omega
theorem dropV.walk (A : Option Addr) (c : Nat) (l : List S47) (id : Int) (w : World) (hr : Kd.C k47 w A l.length l) :
  Calls Tryz.prog 86 #[.slice A l.length c,.int .u64 id] w (VPost (dropV l id).1 (dropV l id).2 w):=by
 have HB0 : Hid (Below w.heap.size w w):=Below.refl _ _
 have HCK:=zh (chain.walk A c l w hr)
 have HFD:=zh (fun (W : World) (h : Below w.heap.size w W)=>findV.walk A c l id W (Kd.C_below hr h))
 have HPH:=zh (pos_has l id)
 cases h1 : chainB l
 ·have e : dropV l id = ([],1):=by unfold dropV;rw [if_pos h1]
  rw [e]
  rw [h1] at HCK
  rw [show errB false = 1 from rfl] at HCK
  clear h1 hr e
  go_enter Tryz.func86,Tryz.ntmps86
  go_wp2_with (go_at_call 109;refine HCK.out.mono ?_;rintro e w1 ⟨rfl,hb⟩;have HB1:=zh hb;clear hb)
  go_ret2
  exact VPost.nil HB1.out
 ·have hn:=chain_len h1
  have HWO:=zh (fun (W : World) (h : Below w.heap.size w W)=>without.walk A c l id W (Kd.C_below hr h) (by omega))
  have HDL:=zh (delV_len id l)
  rw [h1] at HCK
  rw [show errB true = 0 from rfl] at HCK
  cases h2 : hasId l id
  ·have e : dropV l id = ([],4):=by unfold dropV;rw [if_neg (by simp [h1]),if_pos h2]
   rw [e]
   rw [h2] at HPH
   have d1 : decide (posI (l.findIdx? (idB id)) < 0) = true:=HPH.out
   generalize posI (l.findIdx? (idB id)) = r at *
   clear h1 h2 hr e HWO HPH
   go_enter Tryz.func86,Tryz.ntmps86
   go_wp2_with (first | (go_at_call 109;refine HCK.out.mono ?_;rintro e w1 ⟨rfl,hb⟩;have HB1:=zh hb;clear hb) | (go_at_call 130;refine (HFD.out _ HB1.out).mono ?_;rintro e w2 ⟨rfl,hb⟩;have HB2:=keepB HB1 hb;clear hb))
   go_ret2
   exact VPost.nil HB2.out
  ·have e : dropV l id = (delV id l,0):=by unfold dropV;rw [if_neg (by simp [h1]),if_neg (by simp [h2])]
   rw [e]
   rw [h2] at HPH
   have d1 : decide (posI (l.findIdx? (idB id)) < 0) = false:=HPH.out
   generalize posI (l.findIdx? (idB id)) = r at *
   clear h1 h2 hr e HPH
   go_enter Tryz.func86,Tryz.ntmps86
   go_wp2_with (first | (go_at_call 109;refine HCK.out.mono ?_;rintro e w1 ⟨rfl,hb⟩;have HB1:=zh hb;clear hb) | (go_at_call 130;refine (HFD.out _ HB1.out).mono ?_;rintro e w2 ⟨rfl,hb⟩;have HB2:=keepB HB1 hb;clear hb) | (go_at_call 133;refine (HWO.out _ HB2.out).mono ?_;rintro e w3 ⟨v3,rfl,hown,hb⟩;have HB3:=keepB HB2 hb;have HO3:=zh hown;clear hb hown))
   go_ret2
   exact VPost.own HO3.out rfl rfl (by have:=HDL.out;omega) HB3.out
theorem deleteV.walk (A : Option Addr) (c : Nat) (l : List S47) (st id q : Int) (w : World) (hr : Kd.C k47 w A l.length l) :
  Calls Tryz.prog 83 #[.slice A l.length c,.int .i64 st,.int .u64 id,.int .i64 q] w (VPost (deleteV l st id q).1 (deleteV l st id q).2 w):=by
 by_cases h0 : st = 0
 ·have e : deleteV l st id q = dropV l 0:=by unfold deleteV;rw [if_pos h0]
  rw [e]
  have HD:=zh (dropV.walk A c l 0 w hr)
  generalize dropV l 0 = r at *
  subst h0
  clear hr e
  go_enter Tryz.func83,Tryz.ntmps83
  go_wp2_with (go_at_call 86;refine HD.out.mono ?_;rintro e w1 ⟨A1,c1,rfl,hc1,hC1,hb⟩;have HC1:=hC1;have HB1:=zh hb;clear hb hC1)
  go_ret2
  exact ⟨A1,c1,rfl,hc1,HC1,HB1.out⟩
 ·have e : deleteV l st id q = putV l st ⟨if st = 2 then 0 else id,⟨#[]⟩,true,q⟩:=by unfold deleteV;rw [if_neg h0]
  rw [e]
  have HP:=zh (putV.walk A c l st ⟨if st = 2 then 0 else id,⟨#[]⟩,true,q⟩ w hr)
  have d0 : (st == 0) = false:=beq_eq_false_iff_ne.2 h0
  by_cases h2 : st = 2
  ·rw [if_pos h2] at HP ⊢
   generalize putV l st ⟨0,⟨#[]⟩,true,q⟩ = r at *
   have d2 : (st == 2) = true:=beq_iff_eq.2 h2
   clear hr e h0 h2
   go_enter Tryz.func83,Tryz.ntmps83
   go_wp2_with (go_at_call 52;refine HP.out.mono ?_;rintro e w1 ⟨A1,c1,rfl,hc1,hC1,hb⟩;have HC1:=hC1;have HB1:=zh hb;clear hb hC1)
   go_ret2
   exact ⟨A1,c1,rfl,hc1,HC1,HB1.out⟩
  ·rw [if_neg h2] at HP ⊢
   generalize putV l st ⟨id,⟨#[]⟩,true,q⟩ = r at *
   have d2 : (st == 2) = false:=beq_eq_false_iff_ne.2 h2
   clear hr e h0 h2
   go_enter Tryz.func83,Tryz.ntmps83
   go_wp2_with (go_at_call 52;refine HP.out.mono ?_;rintro e w1 ⟨A1,c1,rfl,hc1,hC1,hb⟩;have HC1:=hC1;have HB1:=zh hb;clear hb hC1)
   go_ret2
   exact ⟨A1,c1,rfl,hc1,HC1,HB1.out⟩
/-- a version and an error's number -/
def OnePost (v : S47) (er : Int) (w : World) (e : Ending) (w' : World) : Prop:=e = .returned (.tuple #[.agg #[.int .u64 v.f0,.string v.f1,.bool v.f2,.int .i64 v.f3],.int .i64 er]) ∧ Below w.heap.size w w'
theorem atV.walk (A : Option Addr) (c : Nat) (l : List S47) (i : Int) (w : World) (hr : Kd.C k47 w A l.length l) :
  Calls Tryz.prog 103 #[.slice A l.length c,.int .i64 i] w (OnePost (atV l i).1 (atV l i).2 w):=by
 have HCK:=zh (fun (W : World) (h : Below w.heap.size w W)=>chain.walk A c l W (Kd.C_below hr h))
 cases h1 : chainB l
 ·have e : atV l i = (z47,1):=by unfold atV;rw [if_pos h1]
  rw [e]
  rw [h1] at HCK
  rw [show errB false = 1 from rfl] at HCK
  clear h1 hr e
  go_enter Tryz.func103,Tryz.ntmps103
  go_wp2_with (first
   | ((with_reducible refine gate_dst (N:=4) rfl ?_);go_must (refine zbx 4 #[.int .u64 0,.string ⟨#[]⟩,.bool false,.int .i64 0] 47 ?_;intro gr hgr w1 hb1 hbel1;have K1:=zh hb1;have HB1:=zh hbel1;have GR:=zh (show w.heap.size ≤ gr by rw [hgr];exact Nat.le_refl _);clear hb1 hbel1 hgr))
   | (go_at_call 109;go_must (refine (HCK.out _ HB1.out).mono ?_;rintro e w2 ⟨rfl,hb⟩;have HB2:=keepB HB1 hb;have K2:=zk K1 hb;clear hb))
   | ((with_reducible refine gate_store (t:=47) (p:=4) (v:=.tmp 10) rfl ?_);go_must (refine zs 47 (.tmp 4) (.tmp 10) gr 0 47 [.int .u64 0,.string ⟨#[]⟩,.bool false,.int .i64 0] K2 isz_v ?_;intro w3 hk3 ho3;have K3 : Hid (w3.heap[gr]? = some (.cells #[.int .u64 0,.string ⟨#[]⟩,.bool false,.int .i64 0] 47 (0,0))):=hk3;have HB3:=zo ho3 HB2 GR;have z0:=blk_frozen K3.out 0;have c0:=zj K3 0;have c1:=zj K3 1;have c2:=zj K3 2;have c3:=zj K3 3;clear hk3 ho3)))
  exact bodyPost_ret (v:=.tuple #[.agg #[.int .u64 0,.string ⟨#[]⟩,.bool false,.int .i64 0],.int .i64 1]) (by simp [results,Tryz.results103,go_sem,c0,c1,c2,c3]) rfl ⟨rfl,HB3.out⟩
 ·rw [h1] at HCK
  rw [show errB true = 0 from rfl] at HCK
  have hlen:=chain_len h1
  by_cases h2 : i < 0 ∨ (l.length : Int) ≤ i
  ·have e : atV l i = (z47,4):=by unfold atV;rw [if_neg (by simp [h1]),if_pos h2]
   rw [e]
   by_cases h3 : i < 0
   ·clear h1 hr e h2
    go_enter Tryz.func103,Tryz.ntmps103
    go_wp2_with (first
     | ((with_reducible refine gate_dst (N:=4) rfl ?_);go_must (refine zbx 4 #[.int .u64 0,.string ⟨#[]⟩,.bool false,.int .i64 0] 47 ?_;intro gr hgr w1 hb1 hbel1;have K1:=zh hb1;have HB1:=zh hbel1;have GR:=zh (show w.heap.size ≤ gr by rw [hgr];exact Nat.le_refl _);clear hb1 hbel1 hgr))
     | (go_at_call 109;go_must (refine (HCK.out _ HB1.out).mono ?_;rintro e w2 ⟨rfl,hb⟩;have HB2:=keepB HB1 hb;have K2:=zk K1 hb;clear hb))
     | ((with_reducible refine gate_store (t:=47) (p:=4) (v:=.tmp 20) rfl ?_);go_must (refine zs 47 (.tmp 4) (.tmp 20) gr 0 47 [.int .u64 0,.string ⟨#[]⟩,.bool false,.int .i64 0] K2 isz_v ?_;intro w3 hk3 ho3;have K3 : Hid (w3.heap[gr]? = some (.cells #[.int .u64 0,.string ⟨#[]⟩,.bool false,.int .i64 0] 47 (0,0))):=hk3;have HB3:=zo ho3 HB2 GR;have z0:=blk_frozen K3.out 0;have c0:=zj K3 0;have c1:=zj K3 1;have c2:=zj K3 2;have c3:=zj K3 3;clear hk3 ho3)))
    exact bodyPost_ret (v:=.tuple #[.agg #[.int .u64 0,.string ⟨#[]⟩,.bool false,.int .i64 0],.int .i64 4]) (by simp [results,Tryz.results103,go_sem,c0,c1,c2,c3]) rfl ⟨rfl,HB3.out⟩
   ·have h4 : (l.length : Int) ≤ i:=by omega
    clear h1 hr e h2
    go_enter Tryz.func103,Tryz.ntmps103
    go_wp2_with (first
     | ((with_reducible refine gate_dst (N:=4) rfl ?_);go_must (refine zbx 4 #[.int .u64 0,.string ⟨#[]⟩,.bool false,.int .i64 0] 47 ?_;intro gr hgr w1 hb1 hbel1;have K1:=zh hb1;have HB1:=zh hbel1;have GR:=zh (show w.heap.size ≤ gr by rw [hgr];exact Nat.le_refl _);clear hb1 hbel1 hgr))
     | (go_at_call 109;go_must (refine (HCK.out _ HB1.out).mono ?_;rintro e w2 ⟨rfl,hb⟩;have HB2:=keepB HB1 hb;have K2:=zk K1 hb;clear hb))
     | ((with_reducible refine gate_store (t:=47) (p:=4) (v:=.tmp 20) rfl ?_);go_must (refine zs 47 (.tmp 4) (.tmp 20) gr 0 47 [.int .u64 0,.string ⟨#[]⟩,.bool false,.int .i64 0] K2 isz_v ?_;intro w3 hk3 ho3;have K3 : Hid (w3.heap[gr]? = some (.cells #[.int .u64 0,.string ⟨#[]⟩,.bool false,.int .i64 0] 47 (0,0))):=hk3;have HB3:=zo ho3 HB2 GR;have z0:=blk_frozen K3.out 0;have c0:=zj K3 0;have c1:=zj K3 1;have c2:=zj K3 2;have c3:=zj K3 3;clear hk3 ho3)))
    exact bodyPost_ret (v:=.tuple #[.agg #[.int .u64 0,.string ⟨#[]⟩,.bool false,.int .i64 0],.int .i64 4]) (by simp [results,Tryz.results103,go_sem,c0,c1,c2,c3]) rfl ⟨rfl,HB3.out⟩
  ·obtain ⟨k,rfl⟩ : ∃ k : Nat,i = k:=⟨i.toNat,by omega⟩
   have hk : k < l.length:=by omega
   have e : atV l (k : Int) = (l[k],if l[k].f2 = true then 13 else 0):=by
    unfold atV;rw [if_neg (by simp [h1]),if_neg h2];simp [List.getD_eq_getElem?_getD,hk]
   rw [e]
   obtain ⟨ad,e',g0,g1,g2,g3⟩:=atVersion hr (Below.refl _ _) k hk
   subst e'
   have G0:=zh g0;have G1:=zh g1;have G2:=zh g2;have G3:=zh g3
   generalize l[k] = x at *
   have d0 : (k : Int) < (l.length : Int):=by omega
   have d1 : ¬ ((k : Int) < 0):=by omega
   have d2 : (0 : Int) ≤ (k : Int):=by omega
   have d3 : ¬ ((l.length : Int) ≤ (k : Int)):=by omega
   clear h1 hr e h2 g0 g1 g2 g3
   cases hm : x.f2
   ·rw [hm] at G2
    go_enter Tryz.func103,Tryz.ntmps103
    go_wp2_with (first
     | ((with_reducible refine gate_dst (N:=4) rfl ?_);go_must (refine zbx 4 #[.int .u64 0,.string ⟨#[]⟩,.bool false,.int .i64 0] 47 ?_;intro gr hgr w1 hb1 hbel1;have K1:=zh hb1;have HB1:=zh hbel1;have GR:=zh (show w.heap.size ≤ gr by rw [hgr];exact Nat.le_refl _);clear hb1 hbel1 hgr))
     | (go_at_call 109;go_must (refine (HCK.out _ HB1.out).mono ?_;rintro e w2 ⟨rfl,hb⟩;have HB2:=keepB HB1 hb;have K2:=zk K1 hb;have a0:=keepc HB2.out G0.out;have a1:=keepc HB2.out G1.out;have a2:=keepc HB2.out G2.out;have a3:=keepc HB2.out G3.out;clear hb))
     | ((with_reducible refine gate_store (t:=47) (p:=4) (v:=.tmp 34) rfl ?_);go_must (refine zs 47 (.tmp 4) (.tmp 34) gr 0 47 [.int .u64 x.f0,.string x.f1,.bool false,.int .i64 x.f3] K2 isz_v ?_;intro w3 hk3 ho3;have K3 : Hid (w3.heap[gr]? = some (.cells #[.int .u64 x.f0,.string x.f1,.bool false,.int .i64 x.f3] 47 (0,0))):=hk3;have HB3:=zo ho3 HB2 GR;have z0:=blk_frozen K3.out 0;have c0:=zj K3 0;have c1:=zj K3 1;have c2:=zj K3 2;have c3:=zj K3 3;clear hk3 ho3)))
    refine bodyPost_ret (v:=.tuple #[.agg #[.int .u64 x.f0,.string x.f1,.bool false,.int .i64 x.f3],.int .i64 0]) ?_ rfl ?_
    ·simp [results,Tryz.results103,go_sem,c0,c1,c2,c3]
    ·exact ⟨(by first | (rw [hm];done) | (rw [hm];rfl)),HB3.out⟩
   ·rw [hm] at G2
    go_enter Tryz.func103,Tryz.ntmps103
    go_wp2_with (first
     | ((with_reducible refine gate_dst (N:=4) rfl ?_);go_must (refine zbx 4 #[.int .u64 0,.string ⟨#[]⟩,.bool false,.int .i64 0] 47 ?_;intro gr hgr w1 hb1 hbel1;have K1:=zh hb1;have HB1:=zh hbel1;have GR:=zh (show w.heap.size ≤ gr by rw [hgr];exact Nat.le_refl _);clear hb1 hbel1 hgr))
     | (go_at_call 109;go_must (refine (HCK.out _ HB1.out).mono ?_;rintro e w2 ⟨rfl,hb⟩;have HB2:=keepB HB1 hb;have K2:=zk K1 hb;have a0:=keepc HB2.out G0.out;have a1:=keepc HB2.out G1.out;have a2:=keepc HB2.out G2.out;have a3:=keepc HB2.out G3.out;clear hb))
     | ((with_reducible refine gate_store (t:=47) (p:=4) (v:=.tmp 30) rfl ?_);go_must (refine zs 47 (.tmp 4) (.tmp 30) gr 0 47 [.int .u64 x.f0,.string x.f1,.bool true,.int .i64 x.f3] K2 isz_v ?_;intro w3 hk3 ho3;have K3 : Hid (w3.heap[gr]? = some (.cells #[.int .u64 x.f0,.string x.f1,.bool true,.int .i64 x.f3] 47 (0,0))):=hk3;have HB3:=zo ho3 HB2 GR;have z0:=blk_frozen K3.out 0;have c0:=zj K3 0;have c1:=zj K3 1;have c2:=zj K3 2;have c3:=zj K3 3;clear hk3 ho3)))
    refine bodyPost_ret (v:=.tuple #[.agg #[.int .u64 x.f0,.string x.f1,.bool true,.int .i64 x.f3],.int .i64 13]) ?_ rfl ?_
    ·simp [results,Tryz.results103,go_sem,c0,c1,c2,c3]
    ·exact ⟨(by first | (rw [hm];done) | (rw [hm];rfl)),HB3.out⟩
theorem getV.walk (A : Option Addr) (c : Nat) (l : List S47) (w : World) (hr : Kd.C k47 w A l.length l) :
  Calls Tryz.prog 48 #[.slice A l.length c] w (OnePost (atV l 0).1 (atV l 0).2 w):=by
 have HCK:=zh (fun (W : World) (h : Below w.heap.size w W)=>atV.walk A c l 0 W (Kd.C_below hr h))
 generalize atV l 0 = r at *
 obtain ⟨x,er⟩:=r
 clear hr
 go_enter Tryz.func48,Tryz.ntmps48
 go_wp2_with (first
  | ((with_reducible refine gate_dst (N:=2) rfl ?_);go_must (refine zbx 2 #[.int .u64 0,.string ⟨#[]⟩,.bool false,.int .i64 0] 47 ?_;intro gr hgr w1 hb1 hbel1;have K1:=zh hb1;have HB1:=zh hbel1;have GR:=zh (show w.heap.size ≤ gr by rw [hgr];exact Nat.le_refl _);clear hb1 hbel1 hgr))
  | (go_at_call 103;go_must (refine (HCK.out _ HB1.out).mono ?_;rintro e w2 ⟨rfl,hb⟩;have HB2:=keepB HB1 hb;have K2:=zk K1 hb;clear hb))
  | ((with_reducible refine gate_store (t:=47) (p:=2) (v:=.tmp 6) rfl ?_);go_must (refine zs 47 (.tmp 2) (.tmp 6) gr 0 47 [.int .u64 x.f0,.string x.f1,.bool x.f2,.int .i64 x.f3] K2 isz_v ?_;intro w3 hk3 ho3;have K3 : Hid (w3.heap[gr]? = some (.cells #[.int .u64 x.f0,.string x.f1,.bool x.f2,.int .i64 x.f3] 47 (0,0))):=hk3;have HB3:=zo ho3 HB2 GR;have z0:=blk_frozen K3.out 0;have c0:=zj K3 0;have c1:=zj K3 1;have c2:=zj K3 2;have c3:=zj K3 3;clear hk3 ho3)))
 refine bodyPost_ret (v:=.tuple #[.agg #[.int .u64 x.f0,.string x.f1,.bool x.f2,.int .i64 x.f3],.int .i64 er]) ?_ rfl ?_
 ·simp [results,Tryz.results48,go_sem,c0,c1,c2,c3]
 ·exact ⟨rfl,HB3.out⟩
end
section
open Go.WideMaps Go.Maps
def closeR (x b : S26) (e : Int) : S26 × Int:=if e = 0 then (if octB b.f2 b.f3 ≤ 20000 then (b,0) else (x,6)) else (x,e)
/-- a bucket handed back: its cells -/
def BkAt (b : S26) (w : World) (v : Value) : Prop:=∃ A2 c2 A3 c3,v = .agg #[.string b.f0,.int .i64 b.f1,.slice A2 b.f2.length c2,.slice A3 b.f3.length c3,.int .u64 b.f4] ∧ b.f2.length ≤ c2 ∧ b.f3.length ≤ c3 ∧ Kd.C k56 w A2 b.f2.length b.f2 ∧ Kd.C k101 w A3 b.f3.length b.f3
theorem BkAt.below {b : S26} {w w1 : World} {v : Value} (h : BkAt b w v) (hb : Below w.heap.size w w1) : BkAt b w1 v:=by
 obtain ⟨A2,c2,A3,c3,rfl,h1,h2,h3,h4⟩:=h
 exact ⟨A2,c2,A3,c3,rfl,h1,h2,Kd.C_below h3 hb,Kd.C_below h4 hb⟩
theorem close.calls (b x : S26) (A2 A3 B2 B3 : Option Addr) (c2 c3 d2 d3 : Nat) (e : Int) (g : Nat) (w : World) (h : w.heap[g]? = some (.cells #[.string b.f0,.int .i64 b.f1,.slice A2 b.f2.length c2,.slice A3 b.f3.length c3,.int .u64 b.f4,.int .i64 e] 87 (0,0))) (h2 : Kd.C k56 w A2 b.f2.length b.f2) (g2 : b.f2.length ≤ c2) (h3 : Kd.C k101 w A3 b.f3.length b.f3) (g3 : b.f3.length ≤ c3)
  (h4 : Kd.C k56 w B2 x.f2.length x.f2) (g4 : x.f2.length ≤ d2) (h5 : Kd.C k101 w B3 x.f3.length x.f3) (g5 : x.f3.length ≤ d3) (q : e = 0 → indexB b.f2 = true ∧ checkB b.f3 = true) :
  Calls Tryz.prog 36 #[.pointer (some ⟨g,0,none⟩),.agg #[.string x.f0,.int .i64 x.f1,.slice B2 x.f2.length d2,.slice B3 x.f3.length d3,.int .u64 x.f4]] w fun y w'=>∃ v,y = .returned (.tuple #[v,.int .i64 (closeR x b e).2]) ∧ BkAt (closeR x b e).1 w' v ∧ Only g w w':=by
 have hw:=work_like b.f0 b.f1 A2 b.f2.length c2 A3 b.f3.length c3 b.f4 e
 by_cases he : e = 0
 ·subst he
  obtain ⟨q2,q3⟩:=q rfl
  by_cases ho : octB b.f2 b.f3 ≤ 20000
  ·have ec : closeR x b 0 = (b,0):=by unfold closeR;rw [if_pos rfl,if_pos ho]
   rw [ec]
   refine (close_ok b x A2 A3 B2 B3 c2 c3 d2 d3 g w h h2 g2 h3 g3 q2 q3 ho).mono ?_
   rintro y w' ⟨rfl,hO⟩
   exact ⟨_,rfl,⟨A2,c2,A3,c3,rfl,g2,g3,keepE h2 h hw hO.out,keepU h3 h hw hO.out⟩,hO.out⟩
  ·have ec : closeR x b 0 = (x,6):=by unfold closeR;rw [if_pos rfl,if_neg ho]
   rw [ec]
   refine (close_big b x A2 A3 B2 B3 c2 c3 d2 d3 g w h h2 g2 h3 g3 q2 q3 ho).mono ?_
   rintro y w' ⟨rfl,hO⟩
   exact ⟨_,rfl,⟨B2,d2,B3,d3,rfl,g4,g5,keepE h4 h hw hO.out,keepU h5 h hw hO.out⟩,hO.out⟩
 ·have ec : closeR x b e = (x,e):=by unfold closeR;rw [if_neg he]
  rw [ec]
  refine (close_err b x A2 A3 B2 B3 c2 c3 d2 d3 e g w h h2 g2 h3 g3 he).mono ?_
  rintro y w' ⟨rfl,hO⟩
  exact ⟨_,rfl,⟨B2,d2,B3,d3,rfl,g4,g5,keepE h4 h hw hO.out,keepU h5 h hw hO.out⟩,hO.out⟩
def versQ (b : S26) (key : ByteArray) (e : Int) (r : List S47 × Int) : S26 × Int:=if e = 0 then versR b key r else (b,e)
theorem versQ_f3 (b : S26) (key : ByteArray) (e : Int) (r : List S47 × Int) : (versQ b key e r).1.f3 = b.f3 ∧ (versQ b key e r).1.f0 = b.f0 ∧ (versQ b key e r).1.f1 = b.f1 ∧ (versQ b key e r).1.f4 = b.f4:=by
 unfold versQ versR
 by_cases h : e = 0
 ·rw [if_pos h]
  by_cases h2 : r.2 = 0
  ·rw [if_pos h2];exact ⟨rfl,rfl,rfl,rfl⟩
  ·rw [if_neg h2];exact ⟨rfl,rfl,rfl,rfl⟩
 ·rw [if_neg h];exact ⟨rfl,rfl,rfl,rfl⟩
theorem versQ_index (b : S26) (key : ByteArray) (e : Int) (r : List S47 × Int) (h : (versQ b key e r).2 = 0) : e = 0 ∧ r.2 = 0 ∧ indexB (versQ b key e r).1.f2 = true ∧ (versQ b key e r).1 = ⟨b.f0,b.f1,(putE b.f2 key r.1).1,b.f3,b.f4⟩ ∧ (putE b.f2 key r.1).2 = 0:=by
 unfold versQ versR at *
 by_cases h0 : e = 0
 ·rw [if_pos h0] at h ⊢
  by_cases h2 : r.2 = 0
  ·rw [if_pos h2] at h ⊢
   exact ⟨h0,h2,(putE_index h).1,rfl,h⟩
  ·rw [if_neg h2] at h;exact absurd h h2
 ·rw [if_neg h0] at h;exact absurd h h0
theorem versions.calls (f : Nat) (cb : Array Value) (g : Nat) (b : S26) (A2 A3 : Option Addr) (c2 c3 : Nat) (key : ByteArray) (e : Int) (r : List S47 × Int) (w : World) (h : w.heap[g]? = some (.cells #[.string b.f0,.int .i64 b.f1,.slice A2 b.f2.length c2,.slice A3 b.f3.length c3,.int .u64 b.f4,.int .i64 e] 87 (0,0))) (h2 : Kd.C k56 w A2 b.f2.length b.f2) (g2 : b.f2.length ≤ c2)
  (hn : e = 0 → ∀ x ∈ b.f2,x.f1.length ≤ 1000000) (eg : ∀ args w,(callFunc f args).run Tryz.prog w = .ok (.enter f args) w)
  (hd : e = 0 → ∀ A' c' W,Below w.heap.size w W → (getE b.f2 key).length ≤ c' → Kd.C k47 W A' (getE b.f2 key).length (getE b.f2 key) → Calls Tryz.prog f (#[.slice A' (getE b.f2 key).length c'] ++ cb) W (VPost r.1 r.2 W)) :
  Calls Tryz.prog 84 #[.pointer (some ⟨g,0,none⟩),.string key,.func (.func f) #[] cb] w (VersPost g (versQ b key e r).1 A3 c3 (versQ b key e r).2 w):=by
 unfold versQ
 by_cases he : e = 0
 ·subst he
  rw [if_pos rfl]
  exact versions_go f cb g b A2 A3 c2 c3 key r w h h2 g2 (hn rfl) eg (hd rfl)
 ·rw [if_neg he]
  refine (versions_no (.func (.func f) #[] cb) g _ _ _ _ _ e key w he h).mono ?_
  rintro y w' ⟨rfl,rfl⟩
  exact ⟨A2,c2,rfl,g2,h2,h,Only.refl _ _⟩
theorem laid1.walk (f : Nat) (cb : Array Value) (gd gi n c : Nat) (id : Int) (A : Option Addr) (r : List S47 × Int) (w : World) (hd : w.heap[gd]? = some (.cells #[.func (.func f) #[] cb] 113 (0,0))) (hi : w.heap[gi]? = some (.cells #[.int .u64 id] 24 (0,0)))
  (eg : ∀ args w,(callFunc f args).run Tryz.prog w = .ok (.enter f args) w) (hc : Calls Tryz.prog f (#[.slice A n c,.int .u64 id] ++ cb) w (VPost r.1 r.2 w)) :
  Calls Tryz.prog 106 #[.slice A n c,.pointer (some ⟨gd,0,none⟩),.pointer (some ⟨gi,0,none⟩)] w (VPost r.1 r.2 w):=by
 have d0:=zb hd 0 (.func (.func f) #[] cb)
 have i0:=zb hi 0 (.int .u64 id)
 have HC:=zh hc
 clear hd hi hc
 go_enter Tryz.func106,Tryz.ntmps106
 go_wp2_with (go_at_fn f;go_must (refine HC.out.mono ?_;rintro e w1 ⟨A1,c1,rfl,hc1,hC1,hb⟩;have HC1:=hC1;have HB1:=zh hb;clear hb hC1))
 go_ret2
 exact ⟨A1,c1,rfl,hc1,HC1,HB1.out⟩
end
section
open Go.WideMaps Go.Maps
attribute [local go_sem] Oper.semAt_some
def laidR (b : S26) (key : ByteArray) (f : List S47 → Int → List S47 × Int) : S26 × Int × Int :=
 let id:=if b.f1 = 1 then IntKind.u64.wrap (b.f4 + 1) else 0
 let b1 : S26:=if b.f1 = 1 then ⟨b.f0,b.f1,b.f2,b.f3,IntKind.u64.wrap (b.f4 + 1)⟩ else b
 let e1:=if b.f1 = 1 then noR (decide (281474976710655 ≤ b.f4)) 6 (openR b key) else openR b key
 let q:=versQ b1 key e1 (f (getE b.f2 key) id)
 let c:=closeR b q.1 q.2
 if c.2 = 0 then (c.1,id,0) else (b,0,c.2)
def BkPost (b : S26) (rest : List Value) (w : World) (e : Ending) (w' : World) : Prop:=∃ v,e = .returned (.tuple (#[v] ++ rest.toArray)) ∧ BkAt b w' v ∧ Below w.heap.size w w'
theorem open_0 {b : S26} {key : ByteArray} (h : openR b key = 0) : bucketB b = true ∧ keyB key = true:=by
 unfold openR at h
 by_cases hb : bucketB b = false ∨ keyB key = false
 ·rw [if_pos hb] at h;cases h
 ·exact ⟨by cases h : bucketB b;exact absurd (Or.inl h) hb;rfl,by cases h : keyB key;exact absurd (Or.inr h) hb;rfl⟩
theorem noR_zero {q : Bool} {er e : Int} (h : noR q er e = 0) : e = 0:=by
 unfold noR at h
 by_cases hb : q = true ∧ e = 0
 ·exact hb.2
 ·rw [if_neg hb] at h;exact h
theorem bk_like (s : ByteArray) (i : Int) (A2 : Option Addr) (n2 c2 : Nat) (A3 : Option Addr) (n3 c3 : Nat) (l : Int) : WorkLike #[.string s,.int .i64 i,.slice A2 n2 c2,.slice A3 n3 c3,.int .u64 l]:=by
 refine ⟨fun k s h=>?_,fun k b h=>?_,fun A n c h=>?_⟩
 ·rcases k with _ | _ | _ | _ | _ | k <;> simp at h ⊢
 ·rcases k with _ | _ | _ | _ | _ | k <;> simp at h
 ·simp at h
theorem laid_on_ok (b : S26) (A2 A3 : Option Addr) (c2 c3 : Nat) (key : ByteArray) (f : Nat) (cb : Array Value) (w : World) (h2 : Kd.C k56 w A2 b.f2.length b.f2) (g2 : b.f2.length ≤ c2) (h3 : Kd.C k101 w A3 b.f3.length b.f3) (g3 : b.f3.length ≤ c3) (hst : b.f1 = 1) (l2 : Int) (hl2 : IntKind.u64.wrap (b.f4 + 1) = l2)
  (eg : ∀ args w,(callFunc f args).run Tryz.prog w = .ok (.enter f args) w) (r : List S47 × Int)
  (hdo : ∀ A' c' W,Below w.heap.size w W → (getE b.f2 key).length ≤ c' → Kd.C k47 W A' (getE b.f2 key).length (getE b.f2 key) → Calls Tryz.prog f (#[.slice A' (getE b.f2 key).length c',.int .u64 l2] ++ cb) W (VPost r.1 r.2 W))
  (qb : S26) (qe : Int) (hq : versQ (⟨b.f0,b.f1,b.f2,b.f3,l2⟩ : S26) key (noR (decide (281474976710655 ≤ b.f4)) 6 (openR b key)) r = (qb,qe)) (ce : Int) (kb : S26) (hce : closeR b qb qe = (kb,ce)) (hz : ce = 0) :
  Calls Tryz.prog 50 #[.agg #[.string b.f0,.int .i64 b.f1,.slice A2 b.f2.length c2,.slice A3 b.f3.length c3,.int .u64 b.f4],.string key,.func (.func f) #[] cb] w (BkPost kb [.int .u64 l2,.int .i64 ce] w):=by
 have H2:=zh (fun (W : World) (h : Below w.heap.size w W)=>Kd.C_below h2 h)
 have H3:=zh (fun (W : World) (h : Below w.heap.size w W)=>Kd.C_below h3 h)
 have HOP:=zh (fun (W : World) (h : Below w.heap.size w W)=>open.walk b A2 A3 c2 c3 key W (Kd.C_below h2 h) g2 (Kd.C_below h3 h) g3)
 have HE1 : Hid ((noR (decide (281474976710655 ≤ b.f4)) 6 (openR b key)) = 0 → bucketB b = true ∧ keyB key = true):=fun h=>open_0 (noR_zero h)
 have hf3:=versQ_f3 (⟨b.f0,b.f1,b.f2,b.f3,l2⟩ : S26) key (noR (decide (281474976710655 ≤ b.f4)) 6 (openR b key)) r
 have HQI:=zh (versQ_index (⟨b.f0,b.f1,b.f2,b.f3,l2⟩ : S26) key (noR (decide (281474976710655 ≤ b.f4)) 6 (openR b key)) r)
 rw [hq] at hf3 HQI
 have HF:=zh hf3;clear hf3
 have HGQ : Hid (qe = 0 → indexB qb.f2 = true ∧ checkB qb.f3 = true):=fun h=>by
  have x1:=HQI.out h
  have x2:=(bucket_at (HE1.out x1.1).1).2.2.1
  refine ⟨x1.2.2.1,?_⟩
  have:=HF.out.1
  exact this.symm ▸ x2
 have HDO:=zh hdo;clear hdo
 have HVS:=zh (fun (g gd gi : Nat) (W : World) (hW : Below w.heap.size w W) (K : W.heap[g]? = some (.cells #[.string b.f0,.int .i64 b.f1,.slice A2 b.f2.length c2,.slice A3 b.f3.length c3,.int .u64 l2,.int .i64 (noR (decide (281474976710655 ≤ b.f4)) 6 (openR b key))] 87 (0,0))) (KD : W.heap[gd]? = some (.cells #[.func (.func f) #[] cb] 113 (0,0))) (KI : W.heap[gi]? = some (.cells #[.int .u64 l2] 24 (0,0))) =>
  versions.calls 106 #[.pointer (some ⟨gd,0,none⟩),.pointer (some ⟨gi,0,none⟩)] g (⟨b.f0,b.f1,b.f2,b.f3,l2⟩ : S26) A2 A3 c2 c3 key (noR (decide (281474976710655 ≤ b.f4)) 6 (openR b key)) r W K (Kd.C_below h2 hW) g2 (fun h x hx=>by have:=((index_mem (bucket_at (HE1.out h).1).2.1) x hx).2.2;have:=chain_le this;omega) (enters Tryz.func106 (by kernel_rfl) (by kernel_rfl))
   (fun h A' c' W' hW' hc' hC'=>laid1.walk f cb gd gi _ c' l2 A' r W' (blk_below KD hW') (blk_below KI hW') eg (HDO.out A' c' W' (hW.trans (hW'.mono hW.size)) hc' hC')))
 rw [hq] at HVS
 have HCL:=zh (fun (g : Nat) (A4 : Option Addr) (c4 : Nat) (W : World) (hW : Below w.heap.size w W) (K : W.heap[g]? = some (.cells #[.string qb.f0,.int .i64 qb.f1,.slice A4 qb.f2.length c4,.slice A3 qb.f3.length c3,.int .u64 qb.f4,.int .i64 qe] 87 (0,0))) (C4 : Kd.C k56 W A4 qb.f2.length qb.f2) (g4 : qb.f2.length ≤ c4) =>
  close.calls qb b A4 A3 A2 A3 c4 c3 c2 c3 qe g W K C4 g4 (by have:=HF.out.1;exact this.symm ▸ Kd.C_below h3 hW) (by have:=HF.out.1;exact this.symm ▸ g3) (Kd.C_below h2 hW) g2 (Kd.C_below h3 hW) g3 HGQ.out)
 rw [hce] at HCL
 have q0 : (ce == 0) = true:=beq_iff_eq.2 hz
 have q1 : (ce != 0) = false:=by rw [bne,q0];rfl
 have s1 : (b.f1 == 1) = true:=beq_iff_eq.2 hst
 have HNX:=zh (fun (g : Nat) (W : World) hW=>next.walk g (.string b.f0) (.int .i64 b.f1) (.slice A2 b.f2.length c2) (.slice A3 b.f3.length c3) b.f4 (openR b key) W hW)
 rw [hl2] at HNX
 generalize noR (decide (281474976710655 ≤ b.f4)) 6 (openR b key) = e1 at *
 generalize openR b key = e0 at *
 clear h2 h3 eg hq hce hst HE1 HQI HGQ
 go_enter Tryz.func50,Tryz.ntmps50
 go_wp2_with (first
  | ((with_reducible refine gate_dst (N:=3) rfl ?_);go_must (refine zbx 3 #[.string b.f0,.int .i64 b.f1,.slice A2 b.f2.length c2,.slice A3 b.f3.length c3,.int .u64 b.f4] 26 ?_;intro gx hgx w1 hb1 hbel1;have KX:=zh hb1;have HB:=zh hbel1;have L0:=zh (show w.heap.size ≤ gx by rw [hgx];exact Nat.le_refl _);have LX:=zh (blk_lt hb1);clear hb1 hbel1 hgx))
  | ((with_reducible refine gate_dst (N:=5) rfl ?_);go_must (refine zbx 5 #[.func (.func f) #[] cb] 113 ?_;intro gd hgd w2 hb2 hbel2;have KD:=zh hb2;have HB:=keepB HB hbel2;have L1:=zh (show gx < gd by rw [hgd];exact LX.out);have LD:=zh (blk_lt hb2);have KX:=zk KX hbel2;clear hb2 hbel2 hgd LX))
  | ((with_reducible refine gate_dst (N:=6) rfl ?_);go_must (refine zbx 6 #[.string ⟨#[]⟩,.int .i64 0,.slice none 0 0,.slice none 0 0,.int .u64 0] 26 ?_;intro gr hgr w3 hb3 hbel3;have KR:=zh hb3;have HB:=keepB HB hbel3;have L2:=zh (show gd < gr by rw [hgr];exact LD.out);have LR:=zh (blk_lt hb3);have KX:=zk KX hbel3;have KD:=zk KD hbel3;obtain ⟨a0,a1,a2,a3,a4⟩:=zz5 KX.out;clear hb3 hbel3 hgr LD))
  | (go_at_call 32;go_must (refine (HOP.out _ HB.out).mono ?_;rintro e w4 ⟨g,rfl,hgl,hk,hb⟩;have KG:=hk;have HB:=keepB HB (hb.out);have L3:=zh (show gr < g from Nat.lt_of_lt_of_le LR.out hgl);have LG:=zh (blk_lt hk.out);have KX:=zk KX hb.out;have KD:=zk KD hb.out;have KR:=zk KR hb.out;clear hk hb hgl LR a0 a1 a2 a3 a4))
  | ((with_reducible refine gate_dst (N:=10) rfl ?_);go_must (refine zbx 10 #[.int .u64 0] 24 ?_;intro gi hgi w5 hb5 hbel5;have KI:=zh hb5;have HB:=keepB HB hbel5;have L4:=zh (show g < gi by rw [hgi];exact LG.out);have KX:=zk KX hbel5;have KD:=zk KD hbel5;have KR:=zk KR hbel5;have KG:=zk KG hbel5;clear hb5 hbel5 hgi LG))
  | ((with_reducible refine gate_store (t:=24) (p:=10) (v:=.const (.int .u64 0)) rfl ?_);go_must (refine wpList_store_row rfl rfl 24 (.tmp 10) _ rfl gi 0 _ 24 (.int .u64 0) [.int .u64 0] rfl rfl KI.out rfl (by kernel_rfl) (by show 0 + 1 ≤ 1;decide) (by simp [Value.oneCell']) ?_;intro w6 hk ho;have KI:=hk;have HB:=zh (ho.out.below HB.out HB.out.size (by have:=L0.out;have:=L1.out;have:=L2.out;have:=L3.out;have:=L4.out;omega));have KX:=zl ho KX (by have:=L1.out;have:=L2.out;have:=L3.out;have:=L4.out;omega);have KD:=zl ho KD (by have:=L2.out;have:=L3.out;have:=L4.out;omega);have KR:=zl ho KR (by have:=L3.out;have:=L4.out;omega);have KG:=zl ho KG (by have:=L4.out;omega);have n1:=zb KX.out 1 (.int .i64 b.f1);clear hk ho))
  | (go_at_call 33;go_must (refine (HNX.out g _ KG.out).mono ?_;rintro e w7 ⟨rfl,hk,ho⟩;have KG:=hk;have HB:=zh (ho.out.below HB.out HB.out.size (by have:=L0.out;have:=L1.out;have:=L2.out;have:=L3.out;omega));have KX:=zl ho KX (by have:=L1.out;have:=L2.out;have:=L3.out;omega);have KD:=zl ho KD (by have:=L2.out;have:=L3.out;omega);have KR:=zl ho KR (by have:=L3.out;omega);have KI:=zl ho KI (by have:=L4.out;omega);clear hk ho n1))
  | ((with_reducible refine gate_store (t:=24) (p:=10) (v:=.tmp 20) rfl ?_);go_must (refine zq 24 (.tmp 10) (.tmp 20) gi 0 24 (.int .u64 l2) KI (by kernel_rfl) ?_;intro w8 hk ho;have KI:=hk;have HB:=zh (ho.out.below HB.out HB.out.size (by have:=L0.out;have:=L1.out;have:=L2.out;have:=L3.out;have:=L4.out;omega));have KX:=zl ho KX (by have:=L1.out;have:=L2.out;have:=L3.out;have:=L4.out;omega);have KD:=zl ho KD (by have:=L2.out;have:=L3.out;have:=L4.out;omega);have KR:=zl ho KR (by have:=L3.out;have:=L4.out;omega);have KG:=zl ho KG (by have:=L4.out;omega);clear hk ho))
  | (go_at_call 84;go_must (refine (HVS.out g gd gi _ HB.out KG.out KD.out KI.out).mono ?_;rintro e w9 ⟨A4,c4,rfl,hc4,hC4,hk,ho⟩;have KG:=hk;have HC4:=hC4;have HB:=zh (ho.out.below HB.out HB.out.size (by have:=L0.out;have:=L1.out;have:=L2.out;have:=L3.out;omega));have KX:=zl ho KX (by have:=L1.out;have:=L2.out;have:=L3.out;omega);have KD:=zl ho KD (by have:=L2.out;have:=L3.out;omega);have KR:=zl ho KR (by have:=L3.out;omega);have KI:=zl ho KI (by have:=L4.out;omega);obtain ⟨m0,m1,m2,m3,m4⟩:=zz5 KX.out;clear hk ho hC4))
  | (go_at_call 36;go_must (refine (HCL.out g A4 c4 _ HB.out KG.out HC4.out hc4).mono ?_;rintro e w10 ⟨v10,rfl,hv,ho⟩;obtain ⟨A5,c5,A6,c6,rfl,y1,y2,y3,y4⟩:=hv;have HB:=zh (ho.below HB.out HB.out.size (by have:=L0.out;have:=L1.out;have:=L2.out;have:=L3.out;omega));have KX:=zh (ho.blk KX.out (by have:=L1.out;have:=L2.out;have:=L3.out;omega));have KR:=zh (ho.blk KR.out (by have:=L3.out;omega));have KI:=zh (ho.blk KI.out (by have:=L4.out;omega));have Y3:=zh y3;have Y4:=zh y4;clear ho y3 y4 m0 m1 m2 m3 m4))
  | ((with_reducible refine gate_dst (N:=11) rfl ?_);go_must (refine zbx 11 #[.string ⟨#[]⟩,.int .i64 0,.slice none 0 0,.slice none 0 0,.int .u64 0] 26 ?_;intro go hgo w11 hb11 hbel11;have KO:=zh hb11;have LO:=zh (show gr < go by rw [hgo];exact blk_lt KR.out);have LI:=zh (show gi < go by rw [hgo];exact blk_lt KI.out);have L9:=zh (show w.heap.size ≤ go by rw [hgo];exact HB.out.size);have HB:=keepB HB hbel11;have KX:=zk KX hbel11;have KR:=zk KR hbel11;have KI:=zk KI hbel11;have Y3:=zc Y3 hbel11;have Y4:=zc Y4 hbel11;clear hb11 hbel11 hgo))
  | ((with_reducible refine gate_store (t:=26) (p:=11) (v:=.tmp 29) rfl ?_);go_must (refine zs 26 (.tmp 11) (.tmp 29) go 0 26 [.string kb.f0,.int .i64 kb.f1,.slice A5 kb.f2.length c5,.slice A6 kb.f3.length c6,.int .u64 kb.f4] KO isz_bucket ?_;intro w12 hk ho;have Y3:=zh (keepE Y3.out KO.out (bk_like _ _ _ _ _ _ _ _ _) ho.out);have Y4:=zh (keepU Y4.out KO.out (bk_like _ _ _ _ _ _ _ _ _) ho.out);have KO:=hk;have HB:=zo ho HB L9;have KX:=zl ho KX (by have:=L1.out;have:=L2.out;have:=LO.out;omega);have KR:=zl ho KR (by have:=LO.out;omega);have KI:=zl ho KI (by have:=LI.out;omega);obtain ⟨p0,p1,p2,p3,p4⟩:=zz5 KX.out;clear hk ho)))
 have Y3:=zc Y3 (below_drew (Below.refl _ w12))
 have Y4:=zc Y4 (below_drew (Below.refl _ w12))
 have KR:=zh (blk_drew KR.out)
 refine wp_region_held_drew (S:=fun W=>W.heap[go]? = some (.cells #[.string kb.f0,.int .i64 kb.f1,.slice A5 kb.f2.length c5,.slice A6 kb.f3.length c6,.int .u64 kb.f4] 26 (0,0)) ∧ W.cell? ⟨gi,0,none⟩ = some (.int .u64 l2) ∧ (∃ q0 q1 q2 q3 q4,W.heap[gr]? = some (.cells #[q0,q1,q2,q3,q4] 26 (0,0))) ∧ Below w.heap.size w W ∧ W.cell? ⟨go,0,none⟩ = some (.string kb.f0) ∧ W.cell? ⟨go,1,none⟩ = some (.int .i64 kb.f1) ∧ W.cell? ⟨go,2,none⟩ = some (.slice A5 kb.f2.length c5) ∧ W.cell? ⟨go,3,none⟩ = some (.slice A6 kb.f3.length c6) ∧ W.cell? ⟨go,4,none⟩ = some (.int .u64 kb.f4)) (by kernel_rfl) ?_ (fun hHeld=>?_)
 ·exact ⟨blk_drew KO.out,(blk_cell (blk_drew KI.out) 0).trans rfl,⟨_,_,_,_,_,KR.out⟩,HB.out.drew,blk_cell (blk_drew KO.out) 0,blk_cell (blk_drew KO.out) 1,blk_cell (blk_drew KO.out) 2,blk_cell (blk_drew KO.out) 3,blk_cell (blk_drew KO.out) 4⟩
 clear KO KI HB KX p0 p1 p2 p3 p4
 generalize w12.drew = w15 at hHeld Y3 Y4 KR ⊢
 refine zt 0 ?_;try simp only [zN];refine zt 1 ?_;try simp only [zN]
 refine wpAnyH_ready (rs:=[2]) (by kernel_rfl) (by simp) ?_
 refine AllReadyH.cons (o:=_) rfl (fun K hK=>?_) AllReadyH.nil
 rw [if_pos (by rfl)]
 obtain ⟨s0,s1,s2,s3,s4,s5,s6,s7,s8⟩:=hHeld
 obtain ⟨q0,q1,q2,q3,q4,s2⟩:=s2
 refine wp_store_row rfl 26 (.tmp 6) (.tmp 35) rfl gr 0 _ 26 (.agg #[.string kb.f0,.int .i64 kb.f1,.slice A5 kb.f2.length c5,.slice A6 kb.f3.length c6,.int .u64 kb.f4]) [.string kb.f0,.int .i64 kb.f1,.slice A5 kb.f2.length c5,.slice A6 kb.f3.length c6,.int .u64 kb.f4] rfl rfl s2 rfl isz_bucket (by show 0 + 5 ≤ 5;decide) (by simp [Value.oneCell']) ?_
 intro w14 hk ho
 have KZ : Hid (w14.heap[gr]? = some (.cells #[.string kb.f0,.int .i64 kb.f1,.slice A5 kb.f2.length c5,.slice A6 kb.f3.length c6,.int .u64 kb.f4] 26 (0,0))):=hk
 have HO:=ho
 have HBZ:=zh (ho.out.below s3 s3.size (by have:=L0.out;have:=L1.out;have:=L2.out;omega))
 have KO2:=zh (ho.out.blk s0 (by have:=LO.out;omega))
 have ngi : Hid (gi ≠ gr):=by have:=L3.out;have:=L4.out;unfold Hid;omega
 refine hK.out _ _ ⟨KO2.out,Only.cell ho.out (p:=⟨gi,0,none⟩) ngi.out s1,⟨_,_,_,_,_,hk.out⟩,HBZ.out,zj KO2 0,zj KO2 1,zj KO2 2,zj KO2 3,zj KO2 4⟩ (fun hHeld=>?_)
 clear hK K hk ho q0 q1 q2 q3 q4 s0 s1 s2 s3 s4 s5 s6 s7 s8
 try simp only [zN]
 refine zt 3 ?_;try simp only [zN];refine zt 4 ?_;try simp only [zN]
 refine wpAnyH_done (by kernel_rfl) ?_ _
 go_wp2
 have z0:=zb KZ.out 0 (.string kb.f0)
 have z1:=zb KZ.out 1 (.int .i64 kb.f1)
 have z2:=zb KZ.out 2 (.slice A5 kb.f2.length c5)
 have z3:=zb KZ.out 3 (.slice A6 kb.f3.length c6)
 have z4:=zb KZ.out 4 (.int .u64 kb.f4)
 subst hz
 refine bodyPost_ret (v:=.tuple #[.agg #[.string kb.f0,.int .i64 kb.f1,.slice A5 kb.f2.length c5,.slice A6 kb.f3.length c6,.int .u64 kb.f4],.int .u64 l2,.int .i64 0]) (by simp [results,Tryz.results50,go_sem,z0,z1,z2,z3,z4]) rfl ?_
 refine ⟨_,rfl,⟨A5,c5,A6,c6,rfl,y1,y2,keepE Y3.out KR.out (bk_like _ _ _ _ _ _ _ _ _) HO.out,keepU Y4.out KR.out (bk_like _ _ _ _ _ _ _ _ _) HO.out⟩,HBZ.out⟩
theorem laid_on_no (b : S26) (A2 A3 : Option Addr) (c2 c3 : Nat) (key : ByteArray) (f : Nat) (cb : Array Value) (w : World) (h2 : Kd.C k56 w A2 b.f2.length b.f2) (g2 : b.f2.length ≤ c2) (h3 : Kd.C k101 w A3 b.f3.length b.f3) (g3 : b.f3.length ≤ c3) (hst : b.f1 = 1) (l2 : Int) (hl2 : IntKind.u64.wrap (b.f4 + 1) = l2)
  (eg : ∀ args w,(callFunc f args).run Tryz.prog w = .ok (.enter f args) w) (r : List S47 × Int)
  (hdo : ∀ A' c' W,Below w.heap.size w W → (getE b.f2 key).length ≤ c' → Kd.C k47 W A' (getE b.f2 key).length (getE b.f2 key) → Calls Tryz.prog f (#[.slice A' (getE b.f2 key).length c',.int .u64 l2] ++ cb) W (VPost r.1 r.2 W))
  (qb : S26) (qe : Int) (hq : versQ (⟨b.f0,b.f1,b.f2,b.f3,l2⟩ : S26) key (noR (decide (281474976710655 ≤ b.f4)) 6 (openR b key)) r = (qb,qe)) (ce : Int) (kb : S26) (hce : closeR b qb qe = (kb,ce)) (hz : ce ≠ 0) :
  Calls Tryz.prog 50 #[.agg #[.string b.f0,.int .i64 b.f1,.slice A2 b.f2.length c2,.slice A3 b.f3.length c3,.int .u64 b.f4],.string key,.func (.func f) #[] cb] w (BkPost b [.int .u64 0,.int .i64 ce] w):=by
 have H2:=zh (fun (W : World) (h : Below w.heap.size w W)=>Kd.C_below h2 h)
 have H3:=zh (fun (W : World) (h : Below w.heap.size w W)=>Kd.C_below h3 h)
 have HOP:=zh (fun (W : World) (h : Below w.heap.size w W)=>open.walk b A2 A3 c2 c3 key W (Kd.C_below h2 h) g2 (Kd.C_below h3 h) g3)
 have HE1 : Hid ((noR (decide (281474976710655 ≤ b.f4)) 6 (openR b key)) = 0 → bucketB b = true ∧ keyB key = true):=fun h=>open_0 (noR_zero h)
 have hf3:=versQ_f3 (⟨b.f0,b.f1,b.f2,b.f3,l2⟩ : S26) key (noR (decide (281474976710655 ≤ b.f4)) 6 (openR b key)) r
 have HQI:=zh (versQ_index (⟨b.f0,b.f1,b.f2,b.f3,l2⟩ : S26) key (noR (decide (281474976710655 ≤ b.f4)) 6 (openR b key)) r)
 rw [hq] at hf3 HQI
 have HF:=zh hf3;clear hf3
 have HGQ : Hid (qe = 0 → indexB qb.f2 = true ∧ checkB qb.f3 = true):=fun h=>by
  have x1:=HQI.out h
  have x2:=(bucket_at (HE1.out x1.1).1).2.2.1
  refine ⟨x1.2.2.1,?_⟩
  have:=HF.out.1
  exact this.symm ▸ x2
 have HDO:=zh hdo;clear hdo
 have HVS:=zh (fun (g gd gi : Nat) (W : World) (hW : Below w.heap.size w W) (K : W.heap[g]? = some (.cells #[.string b.f0,.int .i64 b.f1,.slice A2 b.f2.length c2,.slice A3 b.f3.length c3,.int .u64 l2,.int .i64 (noR (decide (281474976710655 ≤ b.f4)) 6 (openR b key))] 87 (0,0))) (KD : W.heap[gd]? = some (.cells #[.func (.func f) #[] cb] 113 (0,0))) (KI : W.heap[gi]? = some (.cells #[.int .u64 l2] 24 (0,0))) =>
  versions.calls 106 #[.pointer (some ⟨gd,0,none⟩),.pointer (some ⟨gi,0,none⟩)] g (⟨b.f0,b.f1,b.f2,b.f3,l2⟩ : S26) A2 A3 c2 c3 key (noR (decide (281474976710655 ≤ b.f4)) 6 (openR b key)) r W K (Kd.C_below h2 hW) g2 (fun h x hx=>by have:=((index_mem (bucket_at (HE1.out h).1).2.1) x hx).2.2;have:=chain_le this;omega) (enters Tryz.func106 (by kernel_rfl) (by kernel_rfl))
   (fun h A' c' W' hW' hc' hC'=>laid1.walk f cb gd gi _ c' l2 A' r W' (blk_below KD hW') (blk_below KI hW') eg (HDO.out A' c' W' (hW.trans (hW'.mono hW.size)) hc' hC')))
 rw [hq] at HVS
 have HCL:=zh (fun (g : Nat) (A4 : Option Addr) (c4 : Nat) (W : World) (hW : Below w.heap.size w W) (K : W.heap[g]? = some (.cells #[.string qb.f0,.int .i64 qb.f1,.slice A4 qb.f2.length c4,.slice A3 qb.f3.length c3,.int .u64 qb.f4,.int .i64 qe] 87 (0,0))) (C4 : Kd.C k56 W A4 qb.f2.length qb.f2) (g4 : qb.f2.length ≤ c4) =>
  close.calls qb b A4 A3 A2 A3 c4 c3 c2 c3 qe g W K C4 g4 (by have:=HF.out.1;exact this.symm ▸ Kd.C_below h3 hW) (by have:=HF.out.1;exact this.symm ▸ g3) (Kd.C_below h2 hW) g2 (Kd.C_below h3 hW) g3 HGQ.out)
 rw [hce] at HCL
 have q0 : (ce == 0) = false:=beq_eq_false_iff_ne.2 hz
 have q1 : (ce != 0) = true:=by rw [bne,q0];rfl
 have s1 : (b.f1 == 1) = true:=beq_iff_eq.2 hst
 have HNX:=zh (fun (g : Nat) (W : World) hW=>next.walk g (.string b.f0) (.int .i64 b.f1) (.slice A2 b.f2.length c2) (.slice A3 b.f3.length c3) b.f4 (openR b key) W hW)
 rw [hl2] at HNX
 generalize noR (decide (281474976710655 ≤ b.f4)) 6 (openR b key) = e1 at *
 generalize openR b key = e0 at *
 clear h2 h3 eg hq hce hst HE1 HQI HGQ hz
 go_enter Tryz.func50,Tryz.ntmps50
 go_wp2_with (first
  | ((with_reducible refine gate_dst (N:=3) rfl ?_);go_must (refine zbx 3 #[.string b.f0,.int .i64 b.f1,.slice A2 b.f2.length c2,.slice A3 b.f3.length c3,.int .u64 b.f4] 26 ?_;intro gx hgx w1 hb1 hbel1;have KX:=zh hb1;have HB:=zh hbel1;have L0:=zh (show w.heap.size ≤ gx by rw [hgx];exact Nat.le_refl _);have LX:=zh (blk_lt hb1);clear hb1 hbel1 hgx))
  | ((with_reducible refine gate_dst (N:=5) rfl ?_);go_must (refine zbx 5 #[.func (.func f) #[] cb] 113 ?_;intro gd hgd w2 hb2 hbel2;have KD:=zh hb2;have HB:=keepB HB hbel2;have L1:=zh (show gx < gd by rw [hgd];exact LX.out);have LD:=zh (blk_lt hb2);have KX:=zk KX hbel2;clear hb2 hbel2 hgd LX))
  | ((with_reducible refine gate_dst (N:=6) rfl ?_);go_must (refine zbx 6 #[.string ⟨#[]⟩,.int .i64 0,.slice none 0 0,.slice none 0 0,.int .u64 0] 26 ?_;intro gr hgr w3 hb3 hbel3;have KR:=zh hb3;have HB:=keepB HB hbel3;have L2:=zh (show gd < gr by rw [hgr];exact LD.out);have LR:=zh (blk_lt hb3);have KX:=zk KX hbel3;have KD:=zk KD hbel3;obtain ⟨a0,a1,a2,a3,a4⟩:=zz5 KX.out;clear hb3 hbel3 hgr LD))
  | (go_at_call 32;go_must (refine (HOP.out _ HB.out).mono ?_;rintro e w4 ⟨g,rfl,hgl,hk,hb⟩;have KG:=hk;have HB:=keepB HB (hb.out);have L3:=zh (show gr < g from Nat.lt_of_lt_of_le LR.out hgl);have LG:=zh (blk_lt hk.out);have KX:=zk KX hb.out;have KD:=zk KD hb.out;have KR:=zk KR hb.out;clear hk hb hgl LR a0 a1 a2 a3 a4))
  | ((with_reducible refine gate_dst (N:=10) rfl ?_);go_must (refine zbx 10 #[.int .u64 0] 24 ?_;intro gi hgi w5 hb5 hbel5;have KI:=zh hb5;have HB:=keepB HB hbel5;have L4:=zh (show g < gi by rw [hgi];exact LG.out);have KX:=zk KX hbel5;have KD:=zk KD hbel5;have KR:=zk KR hbel5;have KG:=zk KG hbel5;clear hb5 hbel5 hgi LG))
  | ((with_reducible refine gate_store (t:=24) (p:=10) (v:=.const (.int .u64 0)) rfl ?_);go_must (refine wpList_store_row rfl rfl 24 (.tmp 10) _ rfl gi 0 _ 24 (.int .u64 0) [.int .u64 0] rfl rfl KI.out rfl (by kernel_rfl) (by show 0 + 1 ≤ 1;decide) (by simp [Value.oneCell']) ?_;intro w6 hk ho;have KI:=hk;have HB:=zh (ho.out.below HB.out HB.out.size (by have:=L0.out;have:=L1.out;have:=L2.out;have:=L3.out;have:=L4.out;omega));have KX:=zl ho KX (by have:=L1.out;have:=L2.out;have:=L3.out;have:=L4.out;omega);have KD:=zl ho KD (by have:=L2.out;have:=L3.out;have:=L4.out;omega);have KR:=zl ho KR (by have:=L3.out;have:=L4.out;omega);have KG:=zl ho KG (by have:=L4.out;omega);have n1:=zb KX.out 1 (.int .i64 b.f1);clear hk ho))
  | (go_at_call 33;go_must (refine (HNX.out g _ KG.out).mono ?_;rintro e w7 ⟨rfl,hk,ho⟩;have KG:=hk;have HB:=zh (ho.out.below HB.out HB.out.size (by have:=L0.out;have:=L1.out;have:=L2.out;have:=L3.out;omega));have KX:=zl ho KX (by have:=L1.out;have:=L2.out;have:=L3.out;omega);have KD:=zl ho KD (by have:=L2.out;have:=L3.out;omega);have KR:=zl ho KR (by have:=L3.out;omega);have KI:=zl ho KI (by have:=L4.out;omega);clear hk ho n1))
  | ((with_reducible refine gate_store (t:=24) (p:=10) (v:=.tmp 20) rfl ?_);go_must (refine zq 24 (.tmp 10) (.tmp 20) gi 0 24 (.int .u64 l2) KI (by kernel_rfl) ?_;intro w8 hk ho;have KI:=hk;have HB:=zh (ho.out.below HB.out HB.out.size (by have:=L0.out;have:=L1.out;have:=L2.out;have:=L3.out;have:=L4.out;omega));have KX:=zl ho KX (by have:=L1.out;have:=L2.out;have:=L3.out;have:=L4.out;omega);have KD:=zl ho KD (by have:=L2.out;have:=L3.out;have:=L4.out;omega);have KR:=zl ho KR (by have:=L3.out;have:=L4.out;omega);have KG:=zl ho KG (by have:=L4.out;omega);clear hk ho))
  | (go_at_call 84;go_must (refine (HVS.out g gd gi _ HB.out KG.out KD.out KI.out).mono ?_;rintro e w9 ⟨A4,c4,rfl,hc4,hC4,hk,ho⟩;have KG:=hk;have HC4:=hC4;have HB:=zh (ho.out.below HB.out HB.out.size (by have:=L0.out;have:=L1.out;have:=L2.out;have:=L3.out;omega));have KX:=zl ho KX (by have:=L1.out;have:=L2.out;have:=L3.out;omega);have KD:=zl ho KD (by have:=L2.out;have:=L3.out;omega);have KR:=zl ho KR (by have:=L3.out;omega);have KI:=zl ho KI (by have:=L4.out;omega);obtain ⟨m0,m1,m2,m3,m4⟩:=zz5 KX.out;clear hk ho hC4))
  | (go_at_call 36;go_must (refine (HCL.out g A4 c4 _ HB.out KG.out HC4.out hc4).mono ?_;rintro e w10 ⟨v10,rfl,hv,ho⟩;obtain ⟨A5,c5,A6,c6,rfl,y1,y2,y3,y4⟩:=hv;have HB:=zh (ho.below HB.out HB.out.size (by have:=L0.out;have:=L1.out;have:=L2.out;have:=L3.out;omega));have KX:=zh (ho.blk KX.out (by have:=L1.out;have:=L2.out;have:=L3.out;omega));have KR:=zh (ho.blk KR.out (by have:=L3.out;omega));have KI:=zh (ho.blk KI.out (by have:=L4.out;omega));have Y3:=zh y3;have Y4:=zh y4;clear ho y3 y4 m0 m1 m2 m3 m4))
  | ((with_reducible refine gate_dst (N:=11) rfl ?_);go_must (refine zbx 11 #[.string ⟨#[]⟩,.int .i64 0,.slice none 0 0,.slice none 0 0,.int .u64 0] 26 ?_;intro go hgo w11 hb11 hbel11;have KO:=zh hb11;have LO:=zh (show gr < go by rw [hgo];exact blk_lt KR.out);have LI:=zh (show gi < go by rw [hgo];exact blk_lt KI.out);have L9:=zh (show w.heap.size ≤ go by rw [hgo];exact HB.out.size);have HB:=keepB HB hbel11;have KX:=zk KX hbel11;have KR:=zk KR hbel11;have KI:=zk KI hbel11;have Y3:=zc Y3 hbel11;have Y4:=zc Y4 hbel11;clear hb11 hbel11 hgo))
  | ((with_reducible refine gate_store (t:=26) (p:=11) (v:=.tmp 29) rfl ?_);go_must (refine zs 26 (.tmp 11) (.tmp 29) go 0 26 [.string kb.f0,.int .i64 kb.f1,.slice A5 kb.f2.length c5,.slice A6 kb.f3.length c6,.int .u64 kb.f4] KO isz_bucket ?_;intro w12 hk ho;have Y3:=zh (keepE Y3.out KO.out (bk_like _ _ _ _ _ _ _ _ _) ho.out);have Y4:=zh (keepU Y4.out KO.out (bk_like _ _ _ _ _ _ _ _ _) ho.out);have KO:=hk;have HB:=zo ho HB L9;have KX:=zl ho KX (by have:=L1.out;have:=L2.out;have:=LO.out;omega);have KR:=zl ho KR (by have:=LO.out;omega);have KI:=zl ho KI (by have:=LI.out;omega);obtain ⟨p0,p1,p2,p3,p4⟩:=zz5 KX.out;clear hk ho))
  | ((with_reducible refine gate_store (t:=26) (p:=6) (v:=.tmp 33) rfl ?_);go_must (refine zs 26 (.tmp 6) (.tmp 33) gr 0 26 [.string b.f0,.int .i64 b.f1,.slice A2 b.f2.length c2,.slice A3 b.f3.length c3,.int .u64 b.f4] KR isz_bucket ?_;intro w13 hk ho;have HB:=zh (ho.out.below HB.out HB.out.size (by have:=L0.out;have:=L1.out;have:=L2.out;omega));obtain ⟨z0,z1,z2,z3,z4⟩:=zz5 hk.out)))
 refine bodyPost_ret (v:=.tuple #[.agg #[.string b.f0,.int .i64 b.f1,.slice A2 b.f2.length c2,.slice A3 b.f3.length c3,.int .u64 b.f4],.int .u64 0,.int .i64 ce]) (by simp [results,Tryz.results50,go_sem,z0,z1,z2,z3,z4]) rfl ?_
 exact ⟨_,rfl,⟨A2,c2,A3,c3,rfl,g2,g3,H2.out _ HB.out,H3.out _ HB.out⟩,HB.out⟩
theorem laid_off_ok (b : S26) (A2 A3 : Option Addr) (c2 c3 : Nat) (key : ByteArray) (f : Nat) (cb : Array Value) (w : World) (h2 : Kd.C k56 w A2 b.f2.length b.f2) (g2 : b.f2.length ≤ c2) (h3 : Kd.C k101 w A3 b.f3.length b.f3) (g3 : b.f3.length ≤ c3) (hst : b.f1 ≠ 1)
  (eg : ∀ args w,(callFunc f args).run Tryz.prog w = .ok (.enter f args) w) (r : List S47 × Int)
  (hdo : ∀ A' c' W,Below w.heap.size w W → (getE b.f2 key).length ≤ c' → Kd.C k47 W A' (getE b.f2 key).length (getE b.f2 key) → Calls Tryz.prog f (#[.slice A' (getE b.f2 key).length c',.int .u64 0] ++ cb) W (VPost r.1 r.2 W))
  (qb : S26) (qe : Int) (hq : versQ b key (openR b key) r = (qb,qe)) (ce : Int) (kb : S26) (hce : closeR b qb qe = (kb,ce)) (hz : ce = 0) :
  Calls Tryz.prog 50 #[.agg #[.string b.f0,.int .i64 b.f1,.slice A2 b.f2.length c2,.slice A3 b.f3.length c3,.int .u64 b.f4],.string key,.func (.func f) #[] cb] w (BkPost kb [.int .u64 0,.int .i64 ce] w):=by
 have H2:=zh (fun (W : World) (h : Below w.heap.size w W)=>Kd.C_below h2 h)
 have H3:=zh (fun (W : World) (h : Below w.heap.size w W)=>Kd.C_below h3 h)
 have HOP:=zh (fun (W : World) (h : Below w.heap.size w W)=>open.walk b A2 A3 c2 c3 key W (Kd.C_below h2 h) g2 (Kd.C_below h3 h) g3)
 have HE1 : Hid ((openR b key) = 0 → bucketB b = true ∧ keyB key = true):=fun h=>open_0 (h)
 have hf3:=versQ_f3 b key (openR b key) r
 have HQI:=zh (versQ_index b key (openR b key) r)
 rw [hq] at hf3 HQI
 have HF:=zh hf3;clear hf3
 have HGQ : Hid (qe = 0 → indexB qb.f2 = true ∧ checkB qb.f3 = true):=fun h=>by
  have x1:=HQI.out h
  have x2:=(bucket_at (HE1.out x1.1).1).2.2.1
  refine ⟨x1.2.2.1,?_⟩
  have:=HF.out.1
  exact this.symm ▸ x2
 have HDO:=zh hdo;clear hdo
 have HVS:=zh (fun (g gd gi : Nat) (W : World) (hW : Below w.heap.size w W) (K : W.heap[g]? = some (.cells #[.string b.f0,.int .i64 b.f1,.slice A2 b.f2.length c2,.slice A3 b.f3.length c3,.int .u64 b.f4,.int .i64 (openR b key)] 87 (0,0))) (KD : W.heap[gd]? = some (.cells #[.func (.func f) #[] cb] 113 (0,0))) (KI : W.heap[gi]? = some (.cells #[.int .u64 0] 24 (0,0))) =>
  versions.calls 106 #[.pointer (some ⟨gd,0,none⟩),.pointer (some ⟨gi,0,none⟩)] g b A2 A3 c2 c3 key (openR b key) r W K (Kd.C_below h2 hW) g2 (fun h x hx=>by have:=((index_mem (bucket_at (HE1.out h).1).2.1) x hx).2.2;have:=chain_le this;omega) (enters Tryz.func106 (by kernel_rfl) (by kernel_rfl))
   (fun h A' c' W' hW' hc' hC'=>laid1.walk f cb gd gi _ c' 0 A' r W' (blk_below KD hW') (blk_below KI hW') eg (HDO.out A' c' W' (hW.trans (hW'.mono hW.size)) hc' hC')))
 rw [hq] at HVS
 have HCL:=zh (fun (g : Nat) (A4 : Option Addr) (c4 : Nat) (W : World) (hW : Below w.heap.size w W) (K : W.heap[g]? = some (.cells #[.string qb.f0,.int .i64 qb.f1,.slice A4 qb.f2.length c4,.slice A3 qb.f3.length c3,.int .u64 qb.f4,.int .i64 qe] 87 (0,0))) (C4 : Kd.C k56 W A4 qb.f2.length qb.f2) (g4 : qb.f2.length ≤ c4) =>
  close.calls qb b A4 A3 A2 A3 c4 c3 c2 c3 qe g W K C4 g4 (by have:=HF.out.1;exact this.symm ▸ Kd.C_below h3 hW) (by have:=HF.out.1;exact this.symm ▸ g3) (Kd.C_below h2 hW) g2 (Kd.C_below h3 hW) g3 HGQ.out)
 rw [hce] at HCL
 have q0 : (ce == 0) = true:=beq_iff_eq.2 hz
 have q1 : (ce != 0) = false:=by rw [bne,q0];rfl
 have s1 : (b.f1 == 1) = false:=beq_eq_false_iff_ne.2 hst
 generalize openR b key = e0 at *
 clear h2 h3 eg hq hce hst HE1 HQI HGQ
 go_enter Tryz.func50,Tryz.ntmps50
 go_wp2_with (first
  | ((with_reducible refine gate_dst (N:=3) rfl ?_);go_must (refine zbx 3 #[.string b.f0,.int .i64 b.f1,.slice A2 b.f2.length c2,.slice A3 b.f3.length c3,.int .u64 b.f4] 26 ?_;intro gx hgx w1 hb1 hbel1;have KX:=zh hb1;have HB:=zh hbel1;have L0:=zh (show w.heap.size ≤ gx by rw [hgx];exact Nat.le_refl _);have LX:=zh (blk_lt hb1);clear hb1 hbel1 hgx))
  | ((with_reducible refine gate_dst (N:=5) rfl ?_);go_must (refine zbx 5 #[.func (.func f) #[] cb] 113 ?_;intro gd hgd w2 hb2 hbel2;have KD:=zh hb2;have HB:=keepB HB hbel2;have L1:=zh (show gx < gd by rw [hgd];exact LX.out);have LD:=zh (blk_lt hb2);have KX:=zk KX hbel2;clear hb2 hbel2 hgd LX))
  | ((with_reducible refine gate_dst (N:=6) rfl ?_);go_must (refine zbx 6 #[.string ⟨#[]⟩,.int .i64 0,.slice none 0 0,.slice none 0 0,.int .u64 0] 26 ?_;intro gr hgr w3 hb3 hbel3;have KR:=zh hb3;have HB:=keepB HB hbel3;have L2:=zh (show gd < gr by rw [hgr];exact LD.out);have LR:=zh (blk_lt hb3);have KX:=zk KX hbel3;have KD:=zk KD hbel3;obtain ⟨a0,a1,a2,a3,a4⟩:=zz5 KX.out;clear hb3 hbel3 hgr LD))
  | (go_at_call 32;go_must (refine (HOP.out _ HB.out).mono ?_;rintro e w4 ⟨g,rfl,hgl,hk,hb⟩;have KG:=hk;have HB:=keepB HB (hb.out);have L3:=zh (show gr < g from Nat.lt_of_lt_of_le LR.out hgl);have LG:=zh (blk_lt hk.out);have KX:=zk KX hb.out;have KD:=zk KD hb.out;have KR:=zk KR hb.out;clear hk hb hgl LR a0 a1 a2 a3 a4))
  | ((with_reducible refine gate_dst (N:=10) rfl ?_);go_must (refine zbx 10 #[.int .u64 0] 24 ?_;intro gi hgi w5 hb5 hbel5;have KI:=zh hb5;have HB:=keepB HB hbel5;have L4:=zh (show g < gi by rw [hgi];exact LG.out);have KX:=zk KX hbel5;have KD:=zk KD hbel5;have KR:=zk KR hbel5;have KG:=zk KG hbel5;clear hb5 hbel5 hgi LG))
  | ((with_reducible refine gate_store (t:=24) (p:=10) (v:=.const (.int .u64 0)) rfl ?_);go_must (refine wpList_store_row rfl rfl 24 (.tmp 10) _ rfl gi 0 _ 24 (.int .u64 0) [.int .u64 0] rfl rfl KI.out rfl (by kernel_rfl) (by show 0 + 1 ≤ 1;decide) (by simp [Value.oneCell']) ?_;intro w6 hk ho;have KI:=hk;have HB:=zh (ho.out.below HB.out HB.out.size (by have:=L0.out;have:=L1.out;have:=L2.out;have:=L3.out;have:=L4.out;omega));have KX:=zl ho KX (by have:=L1.out;have:=L2.out;have:=L3.out;have:=L4.out;omega);have KD:=zl ho KD (by have:=L2.out;have:=L3.out;have:=L4.out;omega);have KR:=zl ho KR (by have:=L3.out;have:=L4.out;omega);have KG:=zl ho KG (by have:=L4.out;omega);have n1:=zb KX.out 1 (.int .i64 b.f1);clear hk ho))
  | (go_at_call 84;go_must (refine (HVS.out g gd gi _ HB.out KG.out KD.out KI.out).mono ?_;rintro e w9 ⟨A4,c4,rfl,hc4,hC4,hk,ho⟩;have KG:=hk;have HC4:=hC4;have HB:=zh (ho.out.below HB.out HB.out.size (by have:=L0.out;have:=L1.out;have:=L2.out;have:=L3.out;omega));have KX:=zl ho KX (by have:=L1.out;have:=L2.out;have:=L3.out;omega);have KD:=zl ho KD (by have:=L2.out;have:=L3.out;omega);have KR:=zl ho KR (by have:=L3.out;omega);have KI:=zl ho KI (by have:=L4.out;omega);obtain ⟨m0,m1,m2,m3,m4⟩:=zz5 KX.out;clear hk ho hC4))
  | (go_at_call 36;go_must (refine (HCL.out g A4 c4 _ HB.out KG.out HC4.out hc4).mono ?_;rintro e w10 ⟨v10,rfl,hv,ho⟩;obtain ⟨A5,c5,A6,c6,rfl,y1,y2,y3,y4⟩:=hv;have HB:=zh (ho.below HB.out HB.out.size (by have:=L0.out;have:=L1.out;have:=L2.out;have:=L3.out;omega));have KX:=zh (ho.blk KX.out (by have:=L1.out;have:=L2.out;have:=L3.out;omega));have KR:=zh (ho.blk KR.out (by have:=L3.out;omega));have KI:=zh (ho.blk KI.out (by have:=L4.out;omega));have Y3:=zh y3;have Y4:=zh y4;clear ho y3 y4 m0 m1 m2 m3 m4))
  | ((with_reducible refine gate_dst (N:=11) rfl ?_);go_must (refine zbx 11 #[.string ⟨#[]⟩,.int .i64 0,.slice none 0 0,.slice none 0 0,.int .u64 0] 26 ?_;intro go hgo w11 hb11 hbel11;have KO:=zh hb11;have LO:=zh (show gr < go by rw [hgo];exact blk_lt KR.out);have LI:=zh (show gi < go by rw [hgo];exact blk_lt KI.out);have L9:=zh (show w.heap.size ≤ go by rw [hgo];exact HB.out.size);have HB:=keepB HB hbel11;have KX:=zk KX hbel11;have KR:=zk KR hbel11;have KI:=zk KI hbel11;have Y3:=zc Y3 hbel11;have Y4:=zc Y4 hbel11;clear hb11 hbel11 hgo))
  | ((with_reducible refine gate_store (t:=26) (p:=11) (v:=.tmp 29) rfl ?_);go_must (refine zs 26 (.tmp 11) (.tmp 29) go 0 26 [.string kb.f0,.int .i64 kb.f1,.slice A5 kb.f2.length c5,.slice A6 kb.f3.length c6,.int .u64 kb.f4] KO isz_bucket ?_;intro w12 hk ho;have Y3:=zh (keepE Y3.out KO.out (bk_like _ _ _ _ _ _ _ _ _) ho.out);have Y4:=zh (keepU Y4.out KO.out (bk_like _ _ _ _ _ _ _ _ _) ho.out);have KO:=hk;have HB:=zo ho HB L9;have KX:=zl ho KX (by have:=L1.out;have:=L2.out;have:=LO.out;omega);have KR:=zl ho KR (by have:=LO.out;omega);have KI:=zl ho KI (by have:=LI.out;omega);obtain ⟨p0,p1,p2,p3,p4⟩:=zz5 KX.out;clear hk ho)))
 have Y3:=zc Y3 (below_drew (Below.refl _ w12))
 have Y4:=zc Y4 (below_drew (Below.refl _ w12))
 have KR:=zh (blk_drew KR.out)
 refine wp_region_held_drew (S:=fun W=>W.heap[go]? = some (.cells #[.string kb.f0,.int .i64 kb.f1,.slice A5 kb.f2.length c5,.slice A6 kb.f3.length c6,.int .u64 kb.f4] 26 (0,0)) ∧ W.cell? ⟨gi,0,none⟩ = some (.int .u64 0) ∧ (∃ q0 q1 q2 q3 q4,W.heap[gr]? = some (.cells #[q0,q1,q2,q3,q4] 26 (0,0))) ∧ Below w.heap.size w W ∧ W.cell? ⟨go,0,none⟩ = some (.string kb.f0) ∧ W.cell? ⟨go,1,none⟩ = some (.int .i64 kb.f1) ∧ W.cell? ⟨go,2,none⟩ = some (.slice A5 kb.f2.length c5) ∧ W.cell? ⟨go,3,none⟩ = some (.slice A6 kb.f3.length c6) ∧ W.cell? ⟨go,4,none⟩ = some (.int .u64 kb.f4)) (by kernel_rfl) ?_ (fun hHeld=>?_)
 ·exact ⟨blk_drew KO.out,(blk_cell (blk_drew KI.out) 0).trans rfl,⟨_,_,_,_,_,KR.out⟩,HB.out.drew,blk_cell (blk_drew KO.out) 0,blk_cell (blk_drew KO.out) 1,blk_cell (blk_drew KO.out) 2,blk_cell (blk_drew KO.out) 3,blk_cell (blk_drew KO.out) 4⟩
 clear KO KI HB KX p0 p1 p2 p3 p4
 generalize w12.drew = w15 at hHeld Y3 Y4 KR ⊢
 refine zt 0 ?_;try simp only [zN];refine zt 1 ?_;try simp only [zN]
 refine wpAnyH_ready (rs:=[2]) (by kernel_rfl) (by simp) ?_
 refine AllReadyH.cons (o:=_) rfl (fun K hK=>?_) AllReadyH.nil
 rw [if_pos (by rfl)]
 obtain ⟨s0,s1,s2,s3,s4,s5,s6,s7,s8⟩:=hHeld
 obtain ⟨q0,q1,q2,q3,q4,s2⟩:=s2
 refine wp_store_row rfl 26 (.tmp 6) (.tmp 35) rfl gr 0 _ 26 (.agg #[.string kb.f0,.int .i64 kb.f1,.slice A5 kb.f2.length c5,.slice A6 kb.f3.length c6,.int .u64 kb.f4]) [.string kb.f0,.int .i64 kb.f1,.slice A5 kb.f2.length c5,.slice A6 kb.f3.length c6,.int .u64 kb.f4] rfl rfl s2 rfl isz_bucket (by show 0 + 5 ≤ 5;decide) (by simp [Value.oneCell']) ?_
 intro w14 hk ho
 have KZ : Hid (w14.heap[gr]? = some (.cells #[.string kb.f0,.int .i64 kb.f1,.slice A5 kb.f2.length c5,.slice A6 kb.f3.length c6,.int .u64 kb.f4] 26 (0,0))):=hk
 have HO:=ho
 have HBZ:=zh (ho.out.below s3 s3.size (by have:=L0.out;have:=L1.out;have:=L2.out;omega))
 have KO2:=zh (ho.out.blk s0 (by have:=LO.out;omega))
 have ngi : Hid (gi ≠ gr):=by have:=L3.out;have:=L4.out;unfold Hid;omega
 refine hK.out _ _ ⟨KO2.out,Only.cell ho.out (p:=⟨gi,0,none⟩) ngi.out s1,⟨_,_,_,_,_,hk.out⟩,HBZ.out,zj KO2 0,zj KO2 1,zj KO2 2,zj KO2 3,zj KO2 4⟩ (fun hHeld=>?_)
 clear hK K hk ho q0 q1 q2 q3 q4 s0 s1 s2 s3 s4 s5 s6 s7 s8
 try simp only [zN]
 refine zt 3 ?_;try simp only [zN];refine zt 4 ?_;try simp only [zN]
 refine wpAnyH_done (by kernel_rfl) ?_ _
 go_wp2
 have z0:=zb KZ.out 0 (.string kb.f0)
 have z1:=zb KZ.out 1 (.int .i64 kb.f1)
 have z2:=zb KZ.out 2 (.slice A5 kb.f2.length c5)
 have z3:=zb KZ.out 3 (.slice A6 kb.f3.length c6)
 have z4:=zb KZ.out 4 (.int .u64 kb.f4)
 subst hz
 refine bodyPost_ret (v:=.tuple #[.agg #[.string kb.f0,.int .i64 kb.f1,.slice A5 kb.f2.length c5,.slice A6 kb.f3.length c6,.int .u64 kb.f4],.int .u64 0,.int .i64 0]) (by simp [results,Tryz.results50,go_sem,z0,z1,z2,z3,z4]) rfl ?_
 refine ⟨_,rfl,⟨A5,c5,A6,c6,rfl,y1,y2,keepE Y3.out KR.out (bk_like _ _ _ _ _ _ _ _ _) HO.out,keepU Y4.out KR.out (bk_like _ _ _ _ _ _ _ _ _) HO.out⟩,HBZ.out⟩
theorem laid_off_no (b : S26) (A2 A3 : Option Addr) (c2 c3 : Nat) (key : ByteArray) (f : Nat) (cb : Array Value) (w : World) (h2 : Kd.C k56 w A2 b.f2.length b.f2) (g2 : b.f2.length ≤ c2) (h3 : Kd.C k101 w A3 b.f3.length b.f3) (g3 : b.f3.length ≤ c3) (hst : b.f1 ≠ 1)
  (eg : ∀ args w,(callFunc f args).run Tryz.prog w = .ok (.enter f args) w) (r : List S47 × Int)
  (hdo : ∀ A' c' W,Below w.heap.size w W → (getE b.f2 key).length ≤ c' → Kd.C k47 W A' (getE b.f2 key).length (getE b.f2 key) → Calls Tryz.prog f (#[.slice A' (getE b.f2 key).length c',.int .u64 0] ++ cb) W (VPost r.1 r.2 W))
  (qb : S26) (qe : Int) (hq : versQ b key (openR b key) r = (qb,qe)) (ce : Int) (kb : S26) (hce : closeR b qb qe = (kb,ce)) (hz : ce ≠ 0) :
  Calls Tryz.prog 50 #[.agg #[.string b.f0,.int .i64 b.f1,.slice A2 b.f2.length c2,.slice A3 b.f3.length c3,.int .u64 b.f4],.string key,.func (.func f) #[] cb] w (BkPost b [.int .u64 0,.int .i64 ce] w):=by
 have H2:=zh (fun (W : World) (h : Below w.heap.size w W)=>Kd.C_below h2 h)
 have H3:=zh (fun (W : World) (h : Below w.heap.size w W)=>Kd.C_below h3 h)
 have HOP:=zh (fun (W : World) (h : Below w.heap.size w W)=>open.walk b A2 A3 c2 c3 key W (Kd.C_below h2 h) g2 (Kd.C_below h3 h) g3)
 have HE1 : Hid ((openR b key) = 0 → bucketB b = true ∧ keyB key = true):=fun h=>open_0 (h)
 have hf3:=versQ_f3 b key (openR b key) r
 have HQI:=zh (versQ_index b key (openR b key) r)
 rw [hq] at hf3 HQI
 have HF:=zh hf3;clear hf3
 have HGQ : Hid (qe = 0 → indexB qb.f2 = true ∧ checkB qb.f3 = true):=fun h=>by
  have x1:=HQI.out h
  have x2:=(bucket_at (HE1.out x1.1).1).2.2.1
  refine ⟨x1.2.2.1,?_⟩
  have:=HF.out.1
  exact this.symm ▸ x2
 have HDO:=zh hdo;clear hdo
 have HVS:=zh (fun (g gd gi : Nat) (W : World) (hW : Below w.heap.size w W) (K : W.heap[g]? = some (.cells #[.string b.f0,.int .i64 b.f1,.slice A2 b.f2.length c2,.slice A3 b.f3.length c3,.int .u64 b.f4,.int .i64 (openR b key)] 87 (0,0))) (KD : W.heap[gd]? = some (.cells #[.func (.func f) #[] cb] 113 (0,0))) (KI : W.heap[gi]? = some (.cells #[.int .u64 0] 24 (0,0))) =>
  versions.calls 106 #[.pointer (some ⟨gd,0,none⟩),.pointer (some ⟨gi,0,none⟩)] g b A2 A3 c2 c3 key (openR b key) r W K (Kd.C_below h2 hW) g2 (fun h x hx=>by have:=((index_mem (bucket_at (HE1.out h).1).2.1) x hx).2.2;have:=chain_le this;omega) (enters Tryz.func106 (by kernel_rfl) (by kernel_rfl))
   (fun h A' c' W' hW' hc' hC'=>laid1.walk f cb gd gi _ c' 0 A' r W' (blk_below KD hW') (blk_below KI hW') eg (HDO.out A' c' W' (hW.trans (hW'.mono hW.size)) hc' hC')))
 rw [hq] at HVS
 have HCL:=zh (fun (g : Nat) (A4 : Option Addr) (c4 : Nat) (W : World) (hW : Below w.heap.size w W) (K : W.heap[g]? = some (.cells #[.string qb.f0,.int .i64 qb.f1,.slice A4 qb.f2.length c4,.slice A3 qb.f3.length c3,.int .u64 qb.f4,.int .i64 qe] 87 (0,0))) (C4 : Kd.C k56 W A4 qb.f2.length qb.f2) (g4 : qb.f2.length ≤ c4) =>
  close.calls qb b A4 A3 A2 A3 c4 c3 c2 c3 qe g W K C4 g4 (by have:=HF.out.1;exact this.symm ▸ Kd.C_below h3 hW) (by have:=HF.out.1;exact this.symm ▸ g3) (Kd.C_below h2 hW) g2 (Kd.C_below h3 hW) g3 HGQ.out)
 rw [hce] at HCL
 have q0 : (ce == 0) = false:=beq_eq_false_iff_ne.2 hz
 have q1 : (ce != 0) = true:=by rw [bne,q0];rfl
 have s1 : (b.f1 == 1) = false:=beq_eq_false_iff_ne.2 hst
 generalize openR b key = e0 at *
 clear h2 h3 eg hq hce hst HE1 HQI HGQ hz
 go_enter Tryz.func50,Tryz.ntmps50
 go_wp2_with (first
  | ((with_reducible refine gate_dst (N:=3) rfl ?_);go_must (refine zbx 3 #[.string b.f0,.int .i64 b.f1,.slice A2 b.f2.length c2,.slice A3 b.f3.length c3,.int .u64 b.f4] 26 ?_;intro gx hgx w1 hb1 hbel1;have KX:=zh hb1;have HB:=zh hbel1;have L0:=zh (show w.heap.size ≤ gx by rw [hgx];exact Nat.le_refl _);have LX:=zh (blk_lt hb1);clear hb1 hbel1 hgx))
  | ((with_reducible refine gate_dst (N:=5) rfl ?_);go_must (refine zbx 5 #[.func (.func f) #[] cb] 113 ?_;intro gd hgd w2 hb2 hbel2;have KD:=zh hb2;have HB:=keepB HB hbel2;have L1:=zh (show gx < gd by rw [hgd];exact LX.out);have LD:=zh (blk_lt hb2);have KX:=zk KX hbel2;clear hb2 hbel2 hgd LX))
  | ((with_reducible refine gate_dst (N:=6) rfl ?_);go_must (refine zbx 6 #[.string ⟨#[]⟩,.int .i64 0,.slice none 0 0,.slice none 0 0,.int .u64 0] 26 ?_;intro gr hgr w3 hb3 hbel3;have KR:=zh hb3;have HB:=keepB HB hbel3;have L2:=zh (show gd < gr by rw [hgr];exact LD.out);have LR:=zh (blk_lt hb3);have KX:=zk KX hbel3;have KD:=zk KD hbel3;obtain ⟨a0,a1,a2,a3,a4⟩:=zz5 KX.out;clear hb3 hbel3 hgr LD))
  | (go_at_call 32;go_must (refine (HOP.out _ HB.out).mono ?_;rintro e w4 ⟨g,rfl,hgl,hk,hb⟩;have KG:=hk;have HB:=keepB HB (hb.out);have L3:=zh (show gr < g from Nat.lt_of_lt_of_le LR.out hgl);have LG:=zh (blk_lt hk.out);have KX:=zk KX hb.out;have KD:=zk KD hb.out;have KR:=zk KR hb.out;clear hk hb hgl LR a0 a1 a2 a3 a4))
  | ((with_reducible refine gate_dst (N:=10) rfl ?_);go_must (refine zbx 10 #[.int .u64 0] 24 ?_;intro gi hgi w5 hb5 hbel5;have KI:=zh hb5;have HB:=keepB HB hbel5;have L4:=zh (show g < gi by rw [hgi];exact LG.out);have KX:=zk KX hbel5;have KD:=zk KD hbel5;have KR:=zk KR hbel5;have KG:=zk KG hbel5;clear hb5 hbel5 hgi LG))
  | ((with_reducible refine gate_store (t:=24) (p:=10) (v:=.const (.int .u64 0)) rfl ?_);go_must (refine wpList_store_row rfl rfl 24 (.tmp 10) _ rfl gi 0 _ 24 (.int .u64 0) [.int .u64 0] rfl rfl KI.out rfl (by kernel_rfl) (by show 0 + 1 ≤ 1;decide) (by simp [Value.oneCell']) ?_;intro w6 hk ho;have KI:=hk;have HB:=zh (ho.out.below HB.out HB.out.size (by have:=L0.out;have:=L1.out;have:=L2.out;have:=L3.out;have:=L4.out;omega));have KX:=zl ho KX (by have:=L1.out;have:=L2.out;have:=L3.out;have:=L4.out;omega);have KD:=zl ho KD (by have:=L2.out;have:=L3.out;have:=L4.out;omega);have KR:=zl ho KR (by have:=L3.out;have:=L4.out;omega);have KG:=zl ho KG (by have:=L4.out;omega);have n1:=zb KX.out 1 (.int .i64 b.f1);clear hk ho))
  | (go_at_call 84;go_must (refine (HVS.out g gd gi _ HB.out KG.out KD.out KI.out).mono ?_;rintro e w9 ⟨A4,c4,rfl,hc4,hC4,hk,ho⟩;have KG:=hk;have HC4:=hC4;have HB:=zh (ho.out.below HB.out HB.out.size (by have:=L0.out;have:=L1.out;have:=L2.out;have:=L3.out;omega));have KX:=zl ho KX (by have:=L1.out;have:=L2.out;have:=L3.out;omega);have KD:=zl ho KD (by have:=L2.out;have:=L3.out;omega);have KR:=zl ho KR (by have:=L3.out;omega);have KI:=zl ho KI (by have:=L4.out;omega);obtain ⟨m0,m1,m2,m3,m4⟩:=zz5 KX.out;clear hk ho hC4))
  | (go_at_call 36;go_must (refine (HCL.out g A4 c4 _ HB.out KG.out HC4.out hc4).mono ?_;rintro e w10 ⟨v10,rfl,hv,ho⟩;obtain ⟨A5,c5,A6,c6,rfl,y1,y2,y3,y4⟩:=hv;have HB:=zh (ho.below HB.out HB.out.size (by have:=L0.out;have:=L1.out;have:=L2.out;have:=L3.out;omega));have KX:=zh (ho.blk KX.out (by have:=L1.out;have:=L2.out;have:=L3.out;omega));have KR:=zh (ho.blk KR.out (by have:=L3.out;omega));have KI:=zh (ho.blk KI.out (by have:=L4.out;omega));have Y3:=zh y3;have Y4:=zh y4;clear ho y3 y4 m0 m1 m2 m3 m4))
  | ((with_reducible refine gate_dst (N:=11) rfl ?_);go_must (refine zbx 11 #[.string ⟨#[]⟩,.int .i64 0,.slice none 0 0,.slice none 0 0,.int .u64 0] 26 ?_;intro go hgo w11 hb11 hbel11;have KO:=zh hb11;have LO:=zh (show gr < go by rw [hgo];exact blk_lt KR.out);have LI:=zh (show gi < go by rw [hgo];exact blk_lt KI.out);have L9:=zh (show w.heap.size ≤ go by rw [hgo];exact HB.out.size);have HB:=keepB HB hbel11;have KX:=zk KX hbel11;have KR:=zk KR hbel11;have KI:=zk KI hbel11;have Y3:=zc Y3 hbel11;have Y4:=zc Y4 hbel11;clear hb11 hbel11 hgo))
  | ((with_reducible refine gate_store (t:=26) (p:=11) (v:=.tmp 29) rfl ?_);go_must (refine zs 26 (.tmp 11) (.tmp 29) go 0 26 [.string kb.f0,.int .i64 kb.f1,.slice A5 kb.f2.length c5,.slice A6 kb.f3.length c6,.int .u64 kb.f4] KO isz_bucket ?_;intro w12 hk ho;have Y3:=zh (keepE Y3.out KO.out (bk_like _ _ _ _ _ _ _ _ _) ho.out);have Y4:=zh (keepU Y4.out KO.out (bk_like _ _ _ _ _ _ _ _ _) ho.out);have KO:=hk;have HB:=zo ho HB L9;have KX:=zl ho KX (by have:=L1.out;have:=L2.out;have:=LO.out;omega);have KR:=zl ho KR (by have:=LO.out;omega);have KI:=zl ho KI (by have:=LI.out;omega);obtain ⟨p0,p1,p2,p3,p4⟩:=zz5 KX.out;clear hk ho))
  | ((with_reducible refine gate_store (t:=26) (p:=6) (v:=.tmp 33) rfl ?_);go_must (refine zs 26 (.tmp 6) (.tmp 33) gr 0 26 [.string b.f0,.int .i64 b.f1,.slice A2 b.f2.length c2,.slice A3 b.f3.length c3,.int .u64 b.f4] KR isz_bucket ?_;intro w13 hk ho;have HB:=zh (ho.out.below HB.out HB.out.size (by have:=L0.out;have:=L1.out;have:=L2.out;omega));obtain ⟨z0,z1,z2,z3,z4⟩:=zz5 hk.out)))
 refine bodyPost_ret (v:=.tuple #[.agg #[.string b.f0,.int .i64 b.f1,.slice A2 b.f2.length c2,.slice A3 b.f3.length c3,.int .u64 b.f4],.int .u64 0,.int .i64 ce]) (by simp [results,Tryz.results50,go_sem,z0,z1,z2,z3,z4]) rfl ?_
 exact ⟨_,rfl,⟨A2,c2,A3,c3,rfl,g2,g3,H2.out _ HB.out,H3.out _ HB.out⟩,HB.out⟩
theorem laid.walk (b : S26) (A2 A3 : Option Addr) (c2 c3 : Nat) (key : ByteArray) (f : Nat) (cb : Array Value) (F : List S47 → Int → List S47 × Int) (w : World) (h2 : Kd.C k56 w A2 b.f2.length b.f2) (g2 : b.f2.length ≤ c2) (h3 : Kd.C k101 w A3 b.f3.length b.f3) (g3 : b.f3.length ≤ c3)
  (eg : ∀ args w,(callFunc f args).run Tryz.prog w = .ok (.enter f args) w)
  (hdo : ∀ id A' c' W,Below w.heap.size w W → (getE b.f2 key).length ≤ c' → Kd.C k47 W A' (getE b.f2 key).length (getE b.f2 key) → Calls Tryz.prog f (#[.slice A' (getE b.f2 key).length c',.int .u64 id] ++ cb) W (VPost (F (getE b.f2 key) id).1 (F (getE b.f2 key) id).2 W)) :
  Calls Tryz.prog 50 #[.agg #[.string b.f0,.int .i64 b.f1,.slice A2 b.f2.length c2,.slice A3 b.f3.length c3,.int .u64 b.f4],.string key,.func (.func f) #[] cb] w (BkPost (laidR b key F).1 [.int .u64 (laidR b key F).2.1,.int .i64 (laidR b key F).2.2] w):=by
 by_cases hst : b.f1 = 1
 ·obtain ⟨l2,hl2⟩ : ∃ l2,IntKind.u64.wrap (b.f4 + 1) = l2:=⟨_,rfl⟩
  obtain ⟨⟨qb,qe⟩,hq⟩ : ∃ q,versQ (⟨b.f0,b.f1,b.f2,b.f3,l2⟩ : S26) key (noR (decide (281474976710655 ≤ b.f4)) 6 (openR b key)) (F (getE b.f2 key) l2) = q:=⟨_,rfl⟩
  obtain ⟨⟨kb,ce⟩,hce⟩ : ∃ c,closeR b qb qe = c:=⟨_,rfl⟩
  have e : laidR b key F = if ce = 0 then (kb,l2,0) else (b,0,ce):=by
   unfold laidR
   simp only [if_pos hst,hl2,hq,hce]
  rw [e]
  by_cases hz : ce = 0
  ·rw [if_pos hz]
   have:=laid_on_ok b A2 A3 c2 c3 key f cb w h2 g2 h3 g3 hst l2 hl2 eg _ (hdo l2) qb qe hq ce kb hce hz
   rwa [hz] at this
  ·rw [if_neg hz]
   exact laid_on_no b A2 A3 c2 c3 key f cb w h2 g2 h3 g3 hst l2 hl2 eg _ (hdo l2) qb qe hq ce kb hce hz
 ·obtain ⟨⟨qb,qe⟩,hq⟩ : ∃ q,versQ b key (openR b key) (F (getE b.f2 key) 0) = q:=⟨_,rfl⟩
  obtain ⟨⟨kb,ce⟩,hce⟩ : ∃ c,closeR b qb qe = c:=⟨_,rfl⟩
  have e : laidR b key F = if ce = 0 then (kb,0,0) else (b,0,ce):=by
   unfold laidR
   simp only [if_neg hst,hq,hce]
  rw [e]
  by_cases hz : ce = 0
  ·rw [if_pos hz]
   have:=laid_off_ok b A2 A3 c2 c3 key f cb w h2 g2 h3 g3 hst eg _ (hdo 0) qb qe hq ce kb hce hz
   rwa [hz] at this
  ·rw [if_neg hz]
   exact laid_off_no b A2 A3 c2 c3 key f cb w h2 g2 h3 g3 hst eg _ (hdo 0) qb qe hq ce kb hce hz
end
section
open Go.WideMaps Go.Maps
attribute [local go_sem] Oper.semAt_some
theorem putC.walk (A : Option Addr) (c : Nat) (l : List S47) (id : Int) (b : S26) (A2 A3 : Option Addr) (c2 c3 : Nat) (data : ByteArray) (q : Int) (gb gd gq : Nat) (w : World) (hr : Kd.C k47 w A l.length l) (hb : w.heap[gb]? = some (.cells #[.string b.f0,.int .i64 b.f1,.slice A2 b.f2.length c2,.slice A3 b.f3.length c3,.int .u64 b.f4] 26 (0,0))) (hd : w.heap[gd]? = some (.cells #[.string data] 9 (0,0))) (hq : w.heap[gq]? = some (.cells #[.int .i64 q] 3 (0,0))) :
  Calls Tryz.prog 51 #[.slice A l.length c,.int .u64 id,.pointer (some ⟨gb,0,none⟩),.pointer (some ⟨gd,0,none⟩),.pointer (some ⟨gq,0,none⟩)] w (VPost (putV l b.f1 ⟨id,data,false,q⟩).1 (putV l b.f1 ⟨id,data,false,q⟩).2 w):=by
 have HC:=zh (putV.walk A c l b.f1 ⟨id,data,false,q⟩ w hr)
 generalize putV l b.f1 ⟨id,data,false,q⟩ = r at *
 have b1:=zb hb 1 (.int .i64 b.f1)
 clear hb
 have hd0:=zb hd 0 (.string data)
 clear hd
 have hq0:=zb hq 0 (.int .i64 q)
 clear hq
 clear hr
 go_enter Tryz.func51,Tryz.ntmps51
 go_wp2_with (go_at_call 52;go_must (refine HC.out.mono ?_;rintro e w1 ⟨A1,c1,rfl,hc1,hC1,hb⟩;have HC1:=hC1;have HB1:=zh hb;clear hb hC1))
 go_ret2
 exact ⟨A1,c1,rfl,hc1,HC1,HB1.out⟩
theorem delC.walk (A : Option Addr) (c : Nat) (l : List S47) (id : Int) (b : S26) (A2 A3 : Option Addr) (c2 c3 : Nat) (q : Int) (gb gq : Nat) (w : World) (hr : Kd.C k47 w A l.length l) (hb : w.heap[gb]? = some (.cells #[.string b.f0,.int .i64 b.f1,.slice A2 b.f2.length c2,.slice A3 b.f3.length c3,.int .u64 b.f4] 26 (0,0))) (hq : w.heap[gq]? = some (.cells #[.int .i64 q] 3 (0,0))) :
  Calls Tryz.prog 82 #[.slice A l.length c,.int .u64 id,.pointer (some ⟨gb,0,none⟩),.pointer (some ⟨gq,0,none⟩)] w (VPost (deleteV l b.f1 id q).1 (deleteV l b.f1 id q).2 w):=by
 have HC:=zh (deleteV.walk A c l b.f1 id q w hr)
 generalize deleteV l b.f1 id q = r at *
 have b1:=zb hb 1 (.int .i64 b.f1)
 clear hb
 have hq0:=zb hq 0 (.int .i64 q)
 clear hq
 clear hr
 go_enter Tryz.func82,Tryz.ntmps82
 go_wp2_with (go_at_call 83;go_must (refine HC.out.mono ?_;rintro e w1 ⟨A1,c1,rfl,hc1,hC1,hb⟩;have HC1:=hC1;have HB1:=zh hb;clear hb hC1))
 go_ret2
 exact ⟨A1,c1,rfl,hc1,HC1,HB1.out⟩
theorem dropC.walk (A : Option Addr) (c : Nat) (l : List S47) (id : Int) (gi : Nat) (w : World) (hr : Kd.C k47 w A l.length l) (hi : w.heap[gi]? = some (.cells #[.int .u64 id] 24 (0,0))) :
  Calls Tryz.prog 85 #[.slice A l.length c,.pointer (some ⟨gi,0,none⟩)] w (VPost (dropV l id).1 (dropV l id).2 w):=by
 have HC:=zh (dropV.walk A c l id w hr)
 generalize dropV l id = r at *
 have hi0:=zb hi 0 (.int .u64 id)
 clear hi
 clear hr
 go_enter Tryz.func85,Tryz.ntmps85
 go_wp2_with (go_at_call 86;go_must (refine HC.out.mono ?_;rintro e w1 ⟨A1,c1,rfl,hc1,hC1,hb⟩;have HC1:=hC1;have HB1:=zh hb;clear hb hC1))
 go_ret2
 exact ⟨A1,c1,rfl,hc1,HC1,HB1.out⟩
theorem putB.walk (b : S26) (A2 A3 : Option Addr) (c2 c3 : Nat) (key : ByteArray) (data : ByteArray) (q : Int) (w : World) (h2 : Kd.C k56 w A2 b.f2.length b.f2) (g2 : b.f2.length ≤ c2) (h3 : Kd.C k101 w A3 b.f3.length b.f3) (g3 : b.f3.length ≤ c3) :
  Calls Tryz.prog 19 #[.agg #[.string b.f0,.int .i64 b.f1,.slice A2 b.f2.length c2,.slice A3 b.f3.length c3,.int .u64 b.f4],.string key,.string data,.int .i64 q] w (BkPost (laidR b key (fun l id=>putV l b.f1 ⟨id,data,false,q⟩)).1 [.int .u64 (laidR b key (fun l id=>putV l b.f1 ⟨id,data,false,q⟩)).2.1,.int .i64 (laidR b key (fun l id=>putV l b.f1 ⟨id,data,false,q⟩)).2.2] w):=by
 have HLD:=zh (fun (gb gd gq : Nat) (W : World) (hW : Below w.heap.size w W) (Kgb : W.heap[gb]? = some (.cells #[.string b.f0,.int .i64 b.f1,.slice A2 b.f2.length c2,.slice A3 b.f3.length c3,.int .u64 b.f4] 26 (0,0))) (Kgd : W.heap[gd]? = some (.cells #[.string data] 9 (0,0))) (Kgq : W.heap[gq]? = some (.cells #[.int .i64 q] 3 (0,0))) =>
  laid.walk b A2 A3 c2 c3 key 51 #[.pointer (some ⟨gb,0,none⟩),.pointer (some ⟨gd,0,none⟩),.pointer (some ⟨gq,0,none⟩)] (fun l id=>putV l b.f1 ⟨id,data,false,q⟩) W (Kd.C_below h2 hW) g2 (Kd.C_below h3 hW) g3 (enters Tryz.func51 (by kernel_rfl) (by kernel_rfl))
   (fun id A' c' W' hW' hc' hC'=>putC.walk A' c' (getE b.f2 key) id b A2 A3 c2 c3 data q gb gd gq W' hC' (blk_below Kgb hW') (blk_below Kgd hW') (blk_below Kgq hW')))
 generalize laidR b key (fun l id=>putV l b.f1 ⟨id,data,false,q⟩) = r at *
 obtain ⟨kb,lid,er⟩:=r
 have HB:=zh (Below.refl w.heap.size w)
 clear h2 h3 g2 g3
 go_enter Tryz.func19,Tryz.ntmps19
 go_wp2_with (first
  | ((with_reducible refine gate_dst (N:=4) rfl ?_);go_must (refine zx HB (N:=4) (cs:=#[.string b.f0,.int .i64 b.f1,.slice A2 b.f2.length c2,.slice A3 b.f3.length c3,.int .u64 b.f4]) (t:=26) ?hr ?_;(case hr=>first | (go_simp;done) | (go_simp;rfl));intro gb wgb Kgb Lgb HB hbelgb hggb;clear hbelgb hggb))
  | ((with_reducible refine gate_dst (N:=6) rfl ?_);go_must (refine zx HB (N:=6) (cs:=#[.string data]) (t:=9) ?hr ?_;(case hr=>first | (go_simp;done) | (go_simp;rfl));intro gd wgd Kgd Lgd HB hbelgd hggd;have Kgb:=zk Kgb hbelgd;clear hbelgd hggd))
  | ((with_reducible refine gate_dst (N:=7) rfl ?_);go_must (refine zx HB (N:=7) (cs:=#[.int .i64 q]) (t:=3) ?hr ?_;(case hr=>first | (go_simp;done) | (go_simp;rfl));intro gq wgq Kgq Lgq HB hbelgq hggq;have Kgb:=zk Kgb hbelgq;have Kgd:=zk Kgd hbelgq;clear hbelgq hggq))
  | ((with_reducible refine gate_dst (N:=8) rfl ?_);go_must (refine zx HB (N:=8) (cs:=#[.string ⟨#[]⟩,.int .i64 0,.slice none 0 0,.slice none 0 0,.int .u64 0]) (t:=26) ?hr ?_;(case hr=>first | (go_simp;done) | (go_simp;rfl));intro go wo Kgo Lgo HB hbelgo hggo;have Kgb:=zk Kgb hbelgo;have Kgd:=zk Kgd hbelgo;have Kgq:=zk Kgq hbelgo;obtain ⟨a0,a1,a2,a3,a4⟩:=zz5 Kgb.out;clear hbelgo hggo))
  | (go_at_call 50;go_must (refine (HLD.out gb gd gq _ HB.out Kgb.out Kgd.out Kgq.out).mono ?_;rintro e w10 ⟨v10,rfl,⟨A5,c5,A6,c6,rfl,y1,y2,y3,y4⟩,hb⟩;have HB:=keepB HB hb;have Kgo:=zk Kgo hb;have Y3:=zh y3;have Y4:=zh y4;clear hb y3 y4 a0 a1 a2 a3 a4))
  | ((with_reducible refine gate_store (t:=26) (p:=8) (v:=.tmp 15) rfl ?_);go_must (refine zs 26 (.tmp 8) (.tmp 15) go 0 26 [.string kb.f0,.int .i64 kb.f1,.slice A5 kb.f2.length c5,.slice A6 kb.f3.length c6,.int .u64 kb.f4] Kgo isz_bucket ?_;intro w12 hk ho;have Y3:=zh (keepE Y3.out Kgo.out (bk_like _ _ _ _ _ _ _ _ _) ho.out);have Y4:=zh (keepU Y4.out Kgo.out (bk_like _ _ _ _ _ _ _ _ _) ho.out);have HB:=zo ho HB Lgo;obtain ⟨z0,z1,z2,z3,z4⟩:=zz5 hk.out;clear hk ho)))
 refine bodyPost_ret (v:=.tuple #[.agg #[.string kb.f0,.int .i64 kb.f1,.slice A5 kb.f2.length c5,.slice A6 kb.f3.length c6,.int .u64 kb.f4],.int .u64 lid,.int .i64 er]) (by simp [results,Tryz.results19,go_sem,z0,z1,z2,z3,z4]) rfl ?_
 exact ⟨_,rfl,⟨A5,c5,A6,c6,rfl,y1,y2,Y3.out,Y4.out⟩,HB.out⟩
theorem delB.walk (b : S26) (A2 A3 : Option Addr) (c2 c3 : Nat) (key : ByteArray) (q : Int) (w : World) (h2 : Kd.C k56 w A2 b.f2.length b.f2) (g2 : b.f2.length ≤ c2) (h3 : Kd.C k101 w A3 b.f3.length b.f3) (g3 : b.f3.length ≤ c3) :
  Calls Tryz.prog 39 #[.agg #[.string b.f0,.int .i64 b.f1,.slice A2 b.f2.length c2,.slice A3 b.f3.length c3,.int .u64 b.f4],.string key,.int .i64 q] w (BkPost (laidR b key (fun l id=>deleteV l b.f1 id q)).1 [.int .u64 (laidR b key (fun l id=>deleteV l b.f1 id q)).2.1,.int .i64 (laidR b key (fun l id=>deleteV l b.f1 id q)).2.2] w):=by
 have HLD:=zh (fun (gb gq : Nat) (W : World) (hW : Below w.heap.size w W) (Kgb : W.heap[gb]? = some (.cells #[.string b.f0,.int .i64 b.f1,.slice A2 b.f2.length c2,.slice A3 b.f3.length c3,.int .u64 b.f4] 26 (0,0))) (Kgq : W.heap[gq]? = some (.cells #[.int .i64 q] 3 (0,0))) =>
  laid.walk b A2 A3 c2 c3 key 82 #[.pointer (some ⟨gb,0,none⟩),.pointer (some ⟨gq,0,none⟩)] (fun l id=>deleteV l b.f1 id q) W (Kd.C_below h2 hW) g2 (Kd.C_below h3 hW) g3 (enters Tryz.func82 (by kernel_rfl) (by kernel_rfl))
   (fun id A' c' W' hW' hc' hC'=>delC.walk A' c' (getE b.f2 key) id b A2 A3 c2 c3 q gb gq W' hC' (blk_below Kgb hW') (blk_below Kgq hW')))
 generalize laidR b key (fun l id=>deleteV l b.f1 id q) = r at *
 obtain ⟨kb,lid,er⟩:=r
 have HB:=zh (Below.refl w.heap.size w)
 clear h2 h3 g2 g3
 go_enter Tryz.func39,Tryz.ntmps39
 go_wp2_with (first
  | ((with_reducible refine gate_dst (N:=3) rfl ?_);go_must (refine zx HB (N:=3) (cs:=#[.string b.f0,.int .i64 b.f1,.slice A2 b.f2.length c2,.slice A3 b.f3.length c3,.int .u64 b.f4]) (t:=26) ?hr ?_;(case hr=>first | (go_simp;done) | (go_simp;rfl));intro gb wgb Kgb Lgb HB hbelgb hggb;clear hbelgb hggb))
  | ((with_reducible refine gate_dst (N:=5) rfl ?_);go_must (refine zx HB (N:=5) (cs:=#[.int .i64 q]) (t:=3) ?hr ?_;(case hr=>first | (go_simp;done) | (go_simp;rfl));intro gq wgq Kgq Lgq HB hbelgq hggq;have Kgb:=zk Kgb hbelgq;clear hbelgq hggq))
  | ((with_reducible refine gate_dst (N:=6) rfl ?_);go_must (refine zx HB (N:=6) (cs:=#[.string ⟨#[]⟩,.int .i64 0,.slice none 0 0,.slice none 0 0,.int .u64 0]) (t:=26) ?hr ?_;(case hr=>first | (go_simp;done) | (go_simp;rfl));intro go wo Kgo Lgo HB hbelgo hggo;have Kgb:=zk Kgb hbelgo;have Kgq:=zk Kgq hbelgo;obtain ⟨a0,a1,a2,a3,a4⟩:=zz5 Kgb.out;clear hbelgo hggo))
  | (go_at_call 50;go_must (refine (HLD.out gb gq _ HB.out Kgb.out Kgq.out).mono ?_;rintro e w10 ⟨v10,rfl,⟨A5,c5,A6,c6,rfl,y1,y2,y3,y4⟩,hb⟩;have HB:=keepB HB hb;have Kgo:=zk Kgo hb;have Y3:=zh y3;have Y4:=zh y4;clear hb y3 y4 a0 a1 a2 a3 a4))
  | ((with_reducible refine gate_store (t:=26) (p:=6) (v:=.tmp 13) rfl ?_);go_must (refine zs 26 (.tmp 6) (.tmp 13) go 0 26 [.string kb.f0,.int .i64 kb.f1,.slice A5 kb.f2.length c5,.slice A6 kb.f3.length c6,.int .u64 kb.f4] Kgo isz_bucket ?_;intro w12 hk ho;have Y3:=zh (keepE Y3.out Kgo.out (bk_like _ _ _ _ _ _ _ _ _) ho.out);have Y4:=zh (keepU Y4.out Kgo.out (bk_like _ _ _ _ _ _ _ _ _) ho.out);have HB:=zo ho HB Lgo;obtain ⟨z0,z1,z2,z3,z4⟩:=zz5 hk.out;clear hk ho)))
 refine bodyPost_ret (v:=.tuple #[.agg #[.string kb.f0,.int .i64 kb.f1,.slice A5 kb.f2.length c5,.slice A6 kb.f3.length c6,.int .u64 kb.f4],.int .u64 lid,.int .i64 er]) (by simp [results,Tryz.results39,go_sem,z0,z1,z2,z3,z4]) rfl ?_
 exact ⟨_,rfl,⟨A5,c5,A6,c6,rfl,y1,y2,Y3.out,Y4.out⟩,HB.out⟩
end
section
open Go.WideMaps Go.Maps
attribute [local go_sem] Oper.semAt_some
def dropB (b : S26) (key : ByteArray) (id : Int) : S26 × Int :=
 let q:=versQ b key (openR b key) (dropV (getE b.f2 key) id)
 closeR b q.1 q.2
theorem dropB.walk (b : S26) (A2 A3 : Option Addr) (c2 c3 : Nat) (key : ByteArray) (id : Int) (w : World) (h2 : Kd.C k56 w A2 b.f2.length b.f2) (g2 : b.f2.length ≤ c2) (h3 : Kd.C k101 w A3 b.f3.length b.f3) (g3 : b.f3.length ≤ c3) :
  Calls Tryz.prog 40 #[.agg #[.string b.f0,.int .i64 b.f1,.slice A2 b.f2.length c2,.slice A3 b.f3.length c3,.int .u64 b.f4],.string key,.int .u64 id] w (BkPost (dropB b key id).1 [.int .i64 (dropB b key id).2] w):=by
 have H2:=zh (fun (W : World) (h : Below w.heap.size w W)=>Kd.C_below h2 h)
 have H3:=zh (fun (W : World) (h : Below w.heap.size w W)=>Kd.C_below h3 h)
 have HOP:=zh (fun (W : World) (h : Below w.heap.size w W)=>open.walk b A2 A3 c2 c3 key W (Kd.C_below h2 h) g2 (Kd.C_below h3 h) g3)
 have HE1 : Hid (openR b key = 0 → bucketB b = true ∧ keyB key = true):=fun h=>open_0 h
 have HVS:=zh (fun (g gi : Nat) (W : World) (hW : Below w.heap.size w W) (K : W.heap[g]? = some (.cells #[.string b.f0,.int .i64 b.f1,.slice A2 b.f2.length c2,.slice A3 b.f3.length c3,.int .u64 b.f4,.int .i64 (openR b key)] 87 (0,0))) (KI : W.heap[gi]? = some (.cells #[.int .u64 id] 24 (0,0))) =>
  versions.calls 85 #[.pointer (some ⟨gi,0,none⟩)] g b A2 A3 c2 c3 key (openR b key) (dropV (getE b.f2 key) id) W K (Kd.C_below h2 hW) g2 (fun h x hx=>by have:=((index_mem (bucket_at (HE1.out h).1).2.1) x hx).2.2;have:=chain_le this;omega) (enters Tryz.func85 (by kernel_rfl) (by kernel_rfl))
   (fun h A' c' W' hW' hc' hC'=>dropC.walk A' c' (getE b.f2 key) id gi W' hC' (blk_below KI hW')))
 obtain ⟨⟨qb,qe⟩,hq⟩ : ∃ q,versQ b key (openR b key) (dropV (getE b.f2 key) id) = q:=⟨_,rfl⟩
 have hf3:=versQ_f3 b key (openR b key) (dropV (getE b.f2 key) id)
 have HQI:=zh (versQ_index b key (openR b key) (dropV (getE b.f2 key) id))
 rw [hq] at hf3 HQI HVS
 have HF:=zh hf3;clear hf3
 have HGQ : Hid (qe = 0 → indexB qb.f2 = true ∧ checkB qb.f3 = true):=fun h=>by
  have x1:=HQI.out h
  have x2:=(bucket_at (HE1.out x1.1).1).2.2.1
  refine ⟨x1.2.2.1,?_⟩
  have:=HF.out.1
  exact this.symm ▸ x2
 have HCL:=zh (fun (g : Nat) (A4 : Option Addr) (c4 : Nat) (W : World) (hW : Below w.heap.size w W) (K : W.heap[g]? = some (.cells #[.string qb.f0,.int .i64 qb.f1,.slice A4 qb.f2.length c4,.slice A3 qb.f3.length c3,.int .u64 qb.f4,.int .i64 qe] 87 (0,0))) (C4 : Kd.C k56 W A4 qb.f2.length qb.f2) (g4 : qb.f2.length ≤ c4) =>
  close.calls qb b A4 A3 A2 A3 c4 c3 c2 c3 qe g W K C4 g4 (by have:=HF.out.1;exact this.symm ▸ Kd.C_below h3 hW) (by have:=HF.out.1;exact this.symm ▸ g3) (Kd.C_below h2 hW) g2 (Kd.C_below h3 hW) g3 HGQ.out)
 have e : dropB b key id = closeR b qb qe:=by unfold dropB;rw [hq]
 rw [e]
 generalize closeR b qb qe = r at *
 obtain ⟨kb,ce⟩:=r
 generalize openR b key = e0 at *
 have HB:=zh (Below.refl w.heap.size w)
 clear h2 h3 g2 g3 hq HE1 HQI HGQ e
 go_enter Tryz.func40,Tryz.ntmps40
 go_wp2_with (first
  | ((with_reducible refine gate_dst (N:=3) rfl ?_);go_must (refine zx HB (N:=3) (cs:=#[.string b.f0,.int .i64 b.f1,.slice A2 b.f2.length c2,.slice A3 b.f3.length c3,.int .u64 b.f4]) (t:=26) ?hr ?_;(case hr=>first | (go_simp;done) | (go_simp;rfl));intro gb w1 Kgb Lgb HB hbelgb hqgb;clear hbelgb hqgb))
  | ((with_reducible refine gate_dst (N:=5) rfl ?_);go_must (refine zx HB (N:=5) (cs:=#[.int .u64 id]) (t:=24) ?hr ?_;(case hr=>first | (go_simp;done) | (go_simp;rfl));intro gi w2 Kgi Lgi HB hbelgi hqgi;have M1:=zh (show gb < gi by rw [hqgi];exact blk_lt Kgb.out);have Kgb:=zk Kgb hbelgi;clear hbelgi hqgi))
  | ((with_reducible refine gate_dst (N:=6) rfl ?_);go_must (refine zx HB (N:=6) (cs:=#[.string ⟨#[]⟩,.int .i64 0,.slice none 0 0,.slice none 0 0,.int .u64 0]) (t:=26) ?hr ?_;(case hr=>first | (go_simp;done) | (go_simp;rfl));intro go w3 Kgo Lgo HB hbelgo hqgo;have M2:=zh (show gi < go by rw [hqgo];exact blk_lt Kgi.out);have Kgb:=zk Kgb hbelgo;have Kgi:=zk Kgi hbelgo;obtain ⟨a0,a1,a2,a3,a4⟩:=zz5 Kgb.out;clear hbelgo hqgo))
  | (go_at_call 32;go_must (refine (HOP.out _ HB.out).mono ?_;rintro e w4 ⟨g,rfl,hgl,hk,hb⟩;have Kg:=hk;have M3:=zh (show go < g from Nat.lt_of_lt_of_le (blk_lt Kgo.out) hgl);have HB:=keepB HB hb.out;have Kgb:=zk Kgb hb.out;have Kgi:=zk Kgi hb.out;have Kgo:=zk Kgo hb.out;clear hk hb hgl a0 a1 a2 a3 a4))
  | (go_at_call 84;go_must (refine (HVS.out g gi _ HB.out Kg.out Kgi.out).mono ?_;rintro e w9 ⟨A4,c4,rfl,hc4,hC4,hk,ho⟩;have Kg:=hk;have HC4:=hC4;have HB:=zh (ho.out.below HB.out HB.out.size (by have:=Lgo.out;have:=M3.out;omega));have Kgb:=zl ho Kgb (by have:=M1.out;have:=M2.out;have:=M3.out;omega);have Kgi:=zl ho Kgi (by have:=M1.out;have:=M2.out;have:=M3.out;omega);have Kgo:=zl ho Kgo (by have:=M1.out;have:=M2.out;have:=M3.out;omega);obtain ⟨m0,m1,m2,m3,m4⟩:=zz5 Kgb.out;clear hk ho hC4))
  | (go_at_call 36;go_must (refine (HCL.out g A4 c4 _ HB.out Kg.out HC4.out hc4).mono ?_;rintro e w10 ⟨v10,rfl,hv,ho⟩;obtain ⟨A5,c5,A6,c6,rfl,y1,y2,y3,y4⟩:=hv;have HB:=zh (ho.below HB.out HB.out.size (by have:=Lgo.out;have:=M3.out;omega));have Kgo:=zh (ho.blk Kgo.out (by have:=M3.out;omega));have Y3:=zh y3;have Y4:=zh y4;clear ho y3 y4 m0 m1 m2 m3 m4))
  | ((with_reducible refine gate_store (t:=26) (p:=6) (v:=.tmp 19) rfl ?_);go_must (refine zs 26 (.tmp 6) (.tmp 19) go 0 26 [.string kb.f0,.int .i64 kb.f1,.slice A5 kb.f2.length c5,.slice A6 kb.f3.length c6,.int .u64 kb.f4] Kgo isz_bucket ?_;intro w11 hk ho;have Y3:=zh (keepE Y3.out Kgo.out (bk_like _ _ _ _ _ _ _ _ _) ho.out);have Y4:=zh (keepU Y4.out Kgo.out (bk_like _ _ _ _ _ _ _ _ _) ho.out);have HB:=zo ho HB Lgo;obtain ⟨z0,z1,z2,z3,z4⟩:=zz5 hk.out;clear hk ho)))
 refine bodyPost_ret (v:=.tuple #[.agg #[.string kb.f0,.int .i64 kb.f1,.slice A5 kb.f2.length c5,.slice A6 kb.f3.length c6,.int .u64 kb.f4],.int .i64 ce]) (by simp [results,Tryz.results40,go_sem,z0,z1,z2,z3,z4]) rfl ?_
 exact ⟨_,rfl,⟨A5,c5,A6,c6,rfl,y1,y2,Y3.out,Y4.out⟩,HB.out⟩
theorem newB_ok (s : ByteArray) (w : World) (hs : bnameB s = true) : Calls Tryz.prog 26 #[.string s] w fun e w'=>e = .returned (.tuple #[.agg #[.string s,.int .i64 0,.slice none 0 0,.slice none 0 0,.int .u64 0],.int .i64 0]) ∧ Below w.heap.size w w':=by
 have HN:=zh (fun (W : World)=>bname.walk s W)
 rw [hs] at HN
 have HB:=zh (Below.refl w.heap.size w)
 clear hs
 go_enter Tryz.func26,Tryz.ntmps26
 go_wp2_with (first
  | ((with_reducible refine gate_dst (N:=2) rfl ?_);go_must (refine zx HB (N:=2) (cs:=#[.string ⟨#[]⟩,.int .i64 0,.slice none 0 0,.slice none 0 0,.int .u64 0]) (t:=26) ?hr ?_;(case hr=>first | (go_simp;done) | (go_simp;rfl));intro go w1 Kgo Lgo HB hbelgo hqgo;clear hbelgo hqgo))
  | (go_at_call 66;go_must (refine (HN.out _).mono ?_;rintro e w2 ⟨rfl,hb⟩;have HB:=keepB HB hb;have Kgo:=zk Kgo hb;clear hb))
  | ((with_reducible refine gate_store (t:=26) (p:=2) (v:=.tmp 9) rfl ?_);go_must (refine zs 26 (.tmp 2) (.tmp 9) go 0 26 [.string s,.int .i64 0,.slice none 0 0,.slice none 0 0,.int .u64 0] Kgo isz_bucket ?_;intro w3 hk ho;have HB:=zo ho HB Lgo;obtain ⟨z0,z1,z2,z3,z4⟩:=zz5 hk.out;clear hk ho)))
 refine bodyPost_ret (v:=.tuple #[.agg #[.string s,.int .i64 0,.slice none 0 0,.slice none 0 0,.int .u64 0],.int .i64 0]) (by simp [results,Tryz.results26,go_sem,z0,z1,z2,z3,z4]) rfl ?_
 exact ⟨rfl,HB.out⟩
end
section
open Go.WideMaps Go.Maps
theorem bool_no {b : Bool} (h : ¬ b = false) : b = true:=by
 cases b
 ·exact absurd rfl h
 ·rfl
theorem getE_cons (y : S56) (l : List S56) (key : ByteArray) : getE (y :: l) key = if eqK key y = true then y.f1 else getE l key:=by
 unfold getE
 rw [List.findIdx?_cons]
 by_cases h : eqK key y = true
 ·rw [if_pos h,if_pos h];rfl
 ·rw [if_neg h,if_neg h]
  cases l.findIdx? (eqK key) <;> simp
theorem getE_none {key : ByteArray} : ∀ {l : List S56},(∀ x ∈ l,x.f0 ≠ key) → getE l key = []
 | [],_=>rfl
 | y :: l,h=>by
  rw [getE_cons,if_neg (fun e=>h y List.mem_cons_self (eqK_eq.1 e))]
  exact getE_none (fun x hx=>h x (List.mem_cons_of_mem _ hx))
theorem getE_mem : ∀ {l : List S56},SE l → ∀ {x : S56},x ∈ l → getE l x.f0 = x.f1
 | [],_,_,hx=>by cases hx
 | y :: l,h,x,hx=>by
  obtain ⟨h1,h2⟩:=SE_cons h
  rw [getE_cons]
  rcases List.mem_cons.1 hx with rfl | hx
  ·rw [if_pos (eqK_eq.2 rfl)]
  ·rw [if_neg (fun e=>by have:=h1 x hx;rw [eqK_eq.1 e] at this;exact ltN_irrefl _ this)]
   exact getE_mem h2 hx
theorem getE_or (key : ByteArray) : ∀ (l : List S56),(∃ x ∈ l,x.f0 = key ∧ getE l key = x.f1) ∨ ((∀ x ∈ l,x.f0 ≠ key) ∧ getE l key = [])
 | []=>Or.inr ⟨fun _ h=>(by cases h),rfl⟩
 | y :: l=>by
  rw [getE_cons]
  by_cases h : eqK key y = true
  ·rw [if_pos h];exact Or.inl ⟨y,List.mem_cons_self,eqK_eq.1 h,rfl⟩
  ·rw [if_neg h]
   rcases getE_or key l with ⟨x,hx,e1,e2⟩ | ⟨h1,h2⟩
   ·exact Or.inl ⟨x,List.mem_cons_of_mem _ hx,e1,e2⟩
   ·refine Or.inr ⟨fun x hx=>?_,h2⟩
    rcases List.mem_cons.1 hx with rfl | hx
    ·exact fun e=>h (eqK_eq.2 e)
    ·exact h1 x hx
def idR (b : S26) : Int:=if b.f1 = 1 then IntKind.u64.wrap (b.f4 + 1) else 0
def lastR (b : S26) : Int:=if b.f1 = 1 then IntKind.u64.wrap (b.f4 + 1) else b.f4
theorem closeR_ok {x b : S26} {e : Int} (h : (closeR x b e).2 = 0) : e = 0 ∧ octB b.f2 b.f3 ≤ 20000 ∧ closeR x b e = (b,0):=by
 unfold closeR at h ⊢
 by_cases he : e = 0
 ·rw [if_pos he] at h ⊢
  by_cases ho : octB b.f2 b.f3 ≤ 20000
  ·rw [if_pos ho];exact ⟨he,ho,rfl⟩
  ·rw [if_neg ho] at h;cases h
 ·rw [if_neg he] at h;exact absurd h he
theorem closeR_no {x b : S26} {e : Int} (h : (closeR x b e).2 ≠ 0) : (closeR x b e).1 = x:=by
 unfold closeR at h ⊢
 by_cases he : e = 0
 ·rw [if_pos he] at h ⊢
  by_cases ho : octB b.f2 b.f3 ≤ 20000
  ·rw [if_pos ho] at h;exact absurd rfl h
  ·rw [if_neg ho]
 ·rw [if_neg he]
theorem versQ_ok {b : S26} {key : ByteArray} {e : Int} {r : List S47 × Int} (h : (versQ b key e r).2 = 0) :
  e = 0 ∧ r.2 = 0 ∧ keyB key = true ∧ chainB r.1 = true ∧ (putL b.f2 key r.1).length ≤ 60 ∧ versQ b key e r = (⟨b.f0,b.f1,putL b.f2 key r.1,b.f3,b.f4⟩,0):=by
 unfold versQ versR at h ⊢
 by_cases he : e = 0
 ·rw [if_pos he] at h ⊢
  by_cases hr : r.2 = 0
  ·rw [if_pos hr] at h ⊢
   obtain ⟨q1,q2,q3,q4,q5⟩:=putE_index h
   have hl:=((index_iff _).1 q1).1
   rw [q5] at hl
   refine ⟨he,hr,q3,q4,hl,?_⟩
   rw [q5]
   simp only at h
   rw [h]
  ·rw [if_neg hr] at h;exact absurd h hr
 ·rw [if_neg he] at h;exact absurd h he
theorem wrap_le {n : Int} (h0 : 0 ≤ n) (h : n ≤ 281474976710655) : IntKind.u64.wrap (n + 1) = n + 1:=by
 unfold IntKind.wrap
 simp only [IntKind.signed,IntKind.bits,Bool.false_and,Bool.false_eq_true,if_false]
 omega
/-- what was laid went: the bucket then -/
theorem laid_ok {b : S26} {key : ByteArray} {f : List S47 → Int → List S47 × Int} (h : (laidR b key f).2.2 = 0) :
  bucketB b = true ∧ keyB key = true ∧ (f (getE b.f2 key) (idR b)).2 = 0 ∧ chainB (f (getE b.f2 key) (idR b)).1 = true ∧ (putL b.f2 key (f (getE b.f2 key) (idR b)).1).length ≤ 60 ∧
  octB (putL b.f2 key (f (getE b.f2 key) (idR b)).1) b.f3 ≤ 20000 ∧ (b.f1 = 1 → b.f4 < 281474976710655) ∧
  laidR b key f = (⟨b.f0,b.f1,putL b.f2 key (f (getE b.f2 key) (idR b)).1,b.f3,lastR b⟩,idR b,0):=by
 unfold laidR at h ⊢
 unfold idR lastR
 by_cases h1 : b.f1 = 1
 ·simp only [if_pos h1] at h ⊢
  generalize hq : versQ (⟨b.f0,b.f1,b.f2,b.f3,IntKind.u64.wrap (b.f4 + 1)⟩ : S26) key (noR (decide (281474976710655 ≤ b.f4)) 6 (openR b key)) (f (getE b.f2 key) (IntKind.u64.wrap (b.f4 + 1))) = q at h ⊢
  by_cases hc : (closeR b q.1 q.2).2 = 0
  ·rw [if_pos hc] at h ⊢
   obtain ⟨e1,e2,e3⟩:=closeR_ok hc
   rw [← hq] at e1
   obtain ⟨v1,v2,v3,v4,v5,v6⟩:=versQ_ok e1
   rw [hq] at v6
   rw [v6] at e2 e3
   have ho:=open_0 (noR_zero v1)
   refine ⟨ho.1,ho.2,v2,v4,v5,e2,fun _=>?_,?_⟩
   ·unfold noR at v1
    by_cases hd : 281474976710655 ≤ b.f4
    ·rw [decide_eq_true hd] at v1
     by_cases h0 : openR b key = 0
     ·rw [if_pos ⟨rfl,h0⟩] at v1;cases v1
     ·rw [if_neg (fun c=>h0 c.2)] at v1;exact absurd v1 h0
    ·omega
   ·rw [v6,e3]
  ·rw [if_neg hc] at h;exact absurd h hc
 ·simp only [if_neg h1] at h ⊢
  generalize hq : versQ b key (openR b key) (f (getE b.f2 key) 0) = q at h ⊢
  by_cases hc : (closeR b q.1 q.2).2 = 0
  ·rw [if_pos hc] at h ⊢
   obtain ⟨e1,e2,e3⟩:=closeR_ok hc
   rw [← hq] at e1
   obtain ⟨v1,v2,v3,v4,v5,v6⟩:=versQ_ok e1
   rw [hq] at v6
   rw [v6] at e2 e3
   have ho:=open_0 v1
   exact ⟨ho.1,ho.2,v2,v4,v5,e2,fun c=>absurd c h1,by rw [v6,e3]⟩
  ·rw [if_neg hc] at h;exact absurd h hc
theorem fin_no {b : S26} {id : Int} {c : S26 × Int} (h : ((if c.2 = 0 then (c.1,id,0) else (b,0,c.2)) : S26 × Int × Int).2.2 ≠ 0) : ((if c.2 = 0 then (c.1,id,0) else (b,0,c.2)) : S26 × Int × Int).1 = b ∧ ((if c.2 = 0 then (c.1,id,0) else (b,0,c.2)) : S26 × Int × Int).2.1 = 0:=by
 by_cases hc : c.2 = 0
 ·rw [if_pos hc] at h;exact absurd rfl h
 ·rw [if_neg hc];exact ⟨rfl,rfl⟩
theorem laid_no {b : S26} {key : ByteArray} {f : List S47 → Int → List S47 × Int} (h : (laidR b key f).2.2 ≠ 0) : (laidR b key f).1 = b ∧ (laidR b key f).2.1 = 0:=by
 exact fin_no h
theorem dropB_ok {b : S26} {key : ByteArray} {id : Int} (h : (dropB b key id).2 = 0) :
  bucketB b = true ∧ keyB key = true ∧ (dropV (getE b.f2 key) id).2 = 0 ∧ chainB (dropV (getE b.f2 key) id).1 = true ∧ (putL b.f2 key (dropV (getE b.f2 key) id).1).length ≤ 60 ∧
  octB (putL b.f2 key (dropV (getE b.f2 key) id).1) b.f3 ≤ 20000 ∧ dropB b key id = (⟨b.f0,b.f1,putL b.f2 key (dropV (getE b.f2 key) id).1,b.f3,b.f4⟩,0):=by
 unfold dropB at h ⊢
 simp only at h ⊢
 generalize hq : versQ b key (openR b key) (dropV (getE b.f2 key) id) = q at h ⊢
 obtain ⟨e1,e2,e3⟩:=closeR_ok h
 rw [← hq] at e1
 obtain ⟨v1,v2,v3,v4,v5,v6⟩:=versQ_ok e1
 rw [hq] at v6
 rw [v6] at e2 e3
 have ho:=open_0 v1
 exact ⟨ho.1,ho.2,v2,v4,v5,e2,by rw [v6,e3]⟩
theorem dropB_no {b : S26} {key : ByteArray} {id : Int} (h : (dropB b key id).2 ≠ 0) : (dropB b key id).1 = b:=by
 unfold dropB at h ⊢
 exact closeR_no h
end
end Go.Proofs.YtekooapbdgippaaGreatDoor.Q
