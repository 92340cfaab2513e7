/- BucketRoom holds for every input: a bucket never has more octets than may be; a version for which there is no room is refused. The conditions are those of the row: every bucket, key and data that the types of the program allow. Part 23 of 26. -/
import Derived.Test.YtekooapbdgippaaGreatDoorBr1
import Derived.Deep.RegionHeld3
import Derived.WalkSpells
import Derived.Lib.BufferMore
import Derived.StillTailTactics
import Derived.Deep.AppendLies
import Derived.Deep.RegionLaw
import Derived.Deep.DeepAppendRoom
namespace Go.Proofs.YtekooapbdgippaaGreatDoor.Q
open Go.RowKit Go.Proofs.YtekooapbdgippaaGreatDoorW.PrintWords Go.Proofs.YtekooapbdgippaaGreatDoorW.PrintLast Go.Proofs.YtekooapbdgippaaGreatDoorW.PrintMore
open List renaming getElem_toArray → zA, getElem_cons_zero → zB, getElem_cons_succ → zC, setIfInBounds_toArray → zD, set_cons_zero → zE, set_cons_succ → zF
set_option linter.unusedVariables false
set_option linter.unusedSimpArgs false
set_option maxHeartbeats 8000000
set_option maxRecDepth 100000
section
open Go.WideMaps Go.Maps
attribute [local go_sem] Oper.semAt_some
def numB (i : Int) : Bool:=decide (1 ≤ i) && decide (i ≤ 281474976710655)
def mayB (p : S40) : Bool:=decide (1 ≤ p.f0) && (decide (p.f0 ≤ 1000) && decide (p.f1.size ≤ 2000))
theorem num_of (i : Int) : parts_numbered.f i = some (numB i):=by
 unfold parts_numbered.f numB
 by_cases h : i ≥ 1 <;> simp [h]
theorem may_of (p : S40) : parts_may.f p.f0 p.f1 = some (mayB p):=by
 unfold parts_may.f mayB
 by_cases h : p.f0 ≥ 1
 ·by_cases h2 : p.f0 ≤ 1000
  ·rw [if_pos h,if_pos h2];simp [h,h2];omega
  ·rw [if_pos h,if_neg h2];simp [h,h2]
 ·rw [if_neg h];simp;omega
def adjB (l : List S40) (j : Nat) : Bool:=mayB (l.getD j z40) && (decide (j = 0) || decide ((l.getD (j - 1) z40).f0 < (l.getD j z40).f0))
theorem wrap64_of {x : Int} (h0 : -9223372036854775808 ≤ x) (h1 : x ≤ 9223372036854775807) : wrap64 x = x:=by unfold wrap64;omega
def fineB (u : Int) (key : ByteArray) (l : List S40) : Bool:=numB u && (keyB key && (decide (l.length ≤ 30) && allFrom (adjB l) 0 l.length))
def adjU (l : List S101) (j : Nat) : Bool:=fineB (l.getD j z101).f0 (l.getD j z101).f1 (l.getD j z101).f2 && (decide (j = 0) || decide ((l.getD (j - 1) z101).f0 < (l.getD j z101).f0))
def checkB (l : List S101) : Bool:=decide (l.length ≤ 10) && allFrom (adjU l) 0 l.length
theorem fine_calls {w : World} {A : Option Addr} {c : Nat} {l : List S40} (u : Int) (key : ByteArray) (hr : Kd.C k40 w A l.length l) (hc : l.length ≤ c) :
  Calls Tryz.prog 94 #[.agg #[.int .u64 u,.string key,.slice A l.length c]] w fun e w'=>e = .returned (.bool (fineB u key l)) ∧ Below w.heap.size w w':=by
 have HB0:=zh ((Below.refl w.heap.size w).alloc (Nat.le_refl _) (.cells #[.int .u64 u,.string key,.slice A l.length c] 153))
 have K0:=zh (blk_new w (.cells #[.int .u64 u,.string key,.slice A l.length c] 153))
 have HR:=zh hr
 have hlen : (l.length : Int) ≤ 9223372036854775807:=by have:=hr.2.1;omega
 clear hr
 have HNU:=zh (num_of u)
 have HKY : Hid (name_Key.f key = some (keyB key)):=rfl
 cases q1 : numB u
 ·have HE : Hid (fineB u key l = false):=by unfold Hid fineB;simp [q1]
  rw [q1] at HNU
  clear q1
  go_enter Tryz.func94,Tryz.ntmps94
  go_wp2_with (first | (go_at_call 78;refine (parts_numbered.calls u _ _ HNU.out).mono ?_;rintro e w1 ⟨rfl,hd⟩;have hb:=hd.below;have HB1:=keepB HB0 hb;have K1:=zk K0 hb;have d1_1:=zj K1 1;have d1_2:=zj K1 2;clear hd hb))
  go_ret
  exact ⟨by rw [HE.out];rfl,HB1.out⟩
 rw [q1] at HNU
 cases q2 : keyB key
 ·have HE : Hid (fineB u key l = false):=by unfold Hid fineB;simp [q1,q2]
  rw [q2] at HKY
  clear q1 q2
  go_enter Tryz.func94,Tryz.ntmps94
  go_wp2_with (first | (go_at_call 78;refine (parts_numbered.calls u _ _ HNU.out).mono ?_;rintro e w1 ⟨rfl,hd⟩;have hb:=hd.below;have HB1:=keepB HB0 hb;have K1:=zk K0 hb;have d1_1:=zj K1 1;have d1_2:=zj K1 2;clear hd hb) | (go_at_call 77;refine (name_Key.calls key _ _ HKY.out).mono ?_;rintro e w2 ⟨rfl,hb⟩;have HB2:=keepB HB1 hb;have K2:=zk K1 hb;have d2_2:=zj K2 2;clear hb))
  go_ret
  exact ⟨by rw [HE.out];rfl,HB2.out⟩
 rw [q2] at HKY
 by_cases p3 : 30 < l.length
 ·have HE : Hid (fineB u key l = false):=by unfold Hid fineB;rw [decide_eq_false (show ¬ l.length ≤ 30 by omega)];simp
  have d3 : decide ((30 : Int) < (l.length : Int)) = true:=by simp;omega
  clear q1 q2
  go_enter Tryz.func94,Tryz.ntmps94
  go_wp2_with (first | (go_at_call 78;refine (parts_numbered.calls u _ _ HNU.out).mono ?_;rintro e w1 ⟨rfl,hd⟩;have hb:=hd.below;have HB1:=keepB HB0 hb;have K1:=zk K0 hb;have d1_1:=zj K1 1;have d1_2:=zj K1 2;clear hd hb) | (go_at_call 77;refine (name_Key.calls key _ _ HKY.out).mono ?_;rintro e w2 ⟨rfl,hb⟩;have HB2:=keepB HB1 hb;have K2:=zk K1 hb;have d2_2:=zj K2 2;clear hb))
  go_ret
  exact ⟨by rw [HE.out];rfl,HB2.out⟩
 have d3 : decide ((30 : Int) < (l.length : Int)) = false:=by simp;omega
 have HEX : Hid (fineB u key l = allFrom (adjB l) 0 l.length):=by
  unfold Hid fineB
  rw [q1,q2,decide_eq_true (show l.length ≤ 30 by omega)];rfl
 clear q1 q2
 go_enter Tryz.func94,Tryz.ntmps94
 go_wp2_with (first | (go_at_call 78;refine (parts_numbered.calls u _ _ HNU.out).mono ?_;rintro e w1 ⟨rfl,hd⟩;have hb:=hd.below;have HB1:=keepB HB0 hb;have K1:=zk K0 hb;have d1_1:=zj K1 1;have d1_2:=zj K1 2;clear hd hb) | (go_at_call 77;refine (name_Key.calls key _ _ HKY.out).mono ?_;rintro e w2 ⟨rfl,hb⟩;have HB2:=keepB HB1 hb;have K2:=zk K1 hb;have d2_2:=zj K2 2;clear hb))
 go_loopw [24] (fun i wr=>∃ (k : Nat),i = .int .i64 k ∧ k ≤ l.length ∧ Hid (allFrom (adjB l) 0 k = true) ∧ Hid (wr.heap[w.heap.size]? = some (.cells #[.int .u64 u,.string key,.slice A l.length c] 153 (0,0))) ∧ Hid (Below w.heap.size w wr)) (fun i _=>l.length - (intOf i).toNat)
 case atStart=>exact ⟨0,rfl,Nat.zero_le _,rfl,K2,HB2⟩
 case round =>
  obtain ⟨k,rfl,hk,hall,hkb,hb⟩:=hrel
  by_cases hlt : k < l.length
  ·have HNO : Hid (adjB l k = false → fineB u key l = false):=fun h=>by
    rw [HEX.out,allFrom_false k (Nat.zero_le _) (by omega) h]
   have HYES : Hid (adjB l k = true → allFrom (adjB l) 0 (k + 1) = true):=fun h=>by
    rw [allFrom_snoc,hall.out,Nat.zero_add,h];rfl
   have HAT : Hid (adjB l k = (mayB l[k] && (decide (k = 0) || decide ((l.getD (k - 1) z40).f0 < l[k].f0)))):=by
    unfold Hid adjB;rw [getD_at l k _ hlt]
   clear hall
   obtain ⟨ad,e',hc0,hc1⟩:=atPart HR.out hb.out k hlt
   subst e'
   have dx_2:=zj hkb 2
   have gne : wr.heap.size ≠ w.heap.size:=by have:=blk_lt hkb.out;omega
   have HM:=zh (may_of l[k])
   cases hm : mayB l[k]
   ·have HE : Hid (fineB u key l = false):=HNO.out (by rw [HAT.out,hm];rfl)
    rw [hm] at HM
    clear hm HNO HYES HAT
    generalize l[k] = x at *
    go_wp2
    skip
    refine wp_region_held_drew (S:=fun W=>W.cell? ⟨wr.heap.size,0,none⟩ = some (.int .i64 x.f0) ∧ W.cell? ⟨wr.heap.size,1,none⟩ = some (.string x.f1) ∧ W.cell? ⟨w.heap.size,2,none⟩ = some (.slice (some ad) l.length c) ∧ Hid (Below wr.heap.size wr W)) (by kernel_rfl) ?_ (fun hHeld=>?_)
    ·exact ⟨by simp [go_sem],by simp [go_sem],keepc ((Below.refl wr.heap.size wr).alloc (Nat.le_refl _) _).drew dx_2,((Below.refl wr.heap.size wr).alloc (Nat.le_refl _) _).drew⟩
    refine zt 0 ?_;try simp only [zN]
    refine wpAnyH_ready (rs:=[1]) (by kernel_rfl) (by simp) ?_
    refine AllReadyH.cons (o:=_) rfl (fun K hK=>?_) AllReadyH.nil
    rw [if_pos (by rfl)]
    go_simp
    obtain ⟨s0,s1,s2,s3⟩:=hHeld
    refine (parts_may.calls x.f0 x.f1 _ _ HM.out).mono ?_
    rintro e8 w8 ⟨rfl,hb8⟩
    refine hK.out _ _ ⟨keepc hb8 s0,keepc hb8 s1,keepc hb8 s2,keepB s3 hb8⟩ (fun hHeld=>?_)
    clear hK K hb8 s0 s1 s2 s3
    try simp only [zN]
    refine zt 2 ?_;try simp only [zN];refine zt 3 ?_;try simp only [zN];refine zu 4 ?_;try simp only [zN];refine zu 5 ?_;try simp only [zN];refine zu 6 ?_;try simp only [zN];refine zu 7 ?_;try simp only [zN];refine zu 8 ?_;try simp only [zN];refine zu 9 ?_;try simp only [zN];refine zu 10 ?_;try simp only [zN];refine zu 11 ?_;try simp only [zN];refine zu 12 ?_;try simp only [zN];refine zu 13 ?_;try simp only [zN];refine zu 14 ?_;try simp only [zN];refine zu 15 ?_;try simp only [zN];refine zu 16 ?_;try simp only [zN];refine zu 17 ?_;try simp only [zN];refine zt 18 ?_;try simp only [zN]
    refine wpAnyH_done (by kernel_rfl) ?_ _
    have HW:=keepB hb hHeld.2.2.2
    clear hHeld
    go_wp2
    go_ret
    exact ⟨by rw [HE.out];rfl,HW.out⟩
   ·rw [hm] at HM HAT
    clear hm
    by_cases h0 : (0 : Int) < (k : Int)
    ·obtain ⟨j,rfl⟩ : ∃ j,k = j + 1:=⟨k - 1,by omega⟩
     have hj : j < l.length:=by omega
     obtain ⟨ad',e3,hd0,hd1⟩:=atPart HR.out hb.out j hj
     injection e3 with e3
     subst e3
     clear hd1
     rw [Nat.add_sub_cancel,getD_at l j _ hj,decide_eq_false (Nat.succ_ne_zero j),Bool.false_or] at HAT
     have e1 : IntKind.i64.wrap (((j + 1 : Nat) : Int) - 1) = (j : Int):=by simp [IntKind.wrap,IntKind.bits,IntKind.signed];omega
     have p4 : (0 : Int) ≤ (j : Int):=by omega
     have p5 : (j : Int) < (l.length : Int):=by omega
     generalize l[j].f0 = q at *
     generalize l[j + 1] = x at *
     generalize hk1 : j + 1 = k at *
     have h0n : 0 < k:=by omega
     have h0d : decide (0 < k) = true:=decide_eq_true h0n
     by_cases hup : q < x.f0
     ·have HN : Hid (allFrom (adjB l) 0 (k + 1) = true):=HYES.out (by rw [HAT.out,decide_eq_true hup];rfl)
      have hup2 : decide (x.f0 ≤ q) = false:=decide_eq_false (by omega)
      clear HNO HYES HAT
      go_wp2
      skip
      refine wp_region_held_drew (S:=fun W=>W.cell? (ad.add (j * 2)) = some (.int .i64 q) ∧ W.cell? ⟨wr.heap.size,0,none⟩ = some (.int .i64 x.f0) ∧ W.cell? ⟨wr.heap.size,1,none⟩ = some (.string x.f1) ∧ W.cell? ⟨w.heap.size,2,none⟩ = some (.slice (some ad) l.length c) ∧ Hid (Below wr.heap.size wr W)) (by kernel_rfl) ?_ (fun hHeld=>?_)
      ·exact ⟨keepc ((Below.refl wr.heap.size wr).alloc (Nat.le_refl _) _).drew hd0,by simp [go_sem],by simp [go_sem],keepc ((Below.refl wr.heap.size wr).alloc (Nat.le_refl _) _).drew dx_2,((Below.refl wr.heap.size wr).alloc (Nat.le_refl _) _).drew⟩
      refine zt 0 ?_;try simp only [zN]
      refine wpAnyH_ready (rs:=[1]) (by kernel_rfl) (by simp) ?_
      refine AllReadyH.cons (o:=_) rfl (fun K hK=>?_) AllReadyH.nil
      rw [if_pos (by rfl)]
      go_simp
      obtain ⟨s0,s1,s2,s3,s4⟩:=hHeld
      refine (parts_may.calls x.f0 x.f1 _ _ HM.out).mono ?_
      rintro e8 w8 ⟨rfl,hb8⟩
      refine hK.out _ _ ⟨keepc hb8 s0,keepc hb8 s1,keepc hb8 s2,keepc hb8 s3,keepB s4 hb8⟩ (fun hHeld=>?_)
      clear hK K hb8 s0 s1 s2 s3 s4
      try simp only [zN]
      refine zt 2 ?_;try simp only [zN];refine zt 3 ?_;try simp only [zN];refine zt 4 ?_;try simp only [zN];refine zt 5 ?_;try simp only [zN];refine zt 6 ?_;try simp only [zN];refine zt 7 ?_;try simp only [zN];refine zt 8 ?_;try simp only [zN];refine zt 9 ?_;try simp only [zN];refine zt 10 ?_;try simp only [zN];refine zt 11 ?_;try simp only [zN];refine zt 12 ?_;try simp only [zN];refine zt 13 ?_;try simp only [zN];refine zt 14 ?_;try simp only [zN];refine zt 15 ?_;try simp only [zN];refine zt 16 ?_;try simp only [zN];refine zt 17 ?_;try simp only [zN];refine zt 18 ?_;try simp only [zN]
      refine wpAnyH_done (by kernel_rfl) ?_ _
      have HW:=keepB hb hHeld.2.2.2.2
      have HKX:=zk hkb (outB hHeld.2.2.2.2)
      clear hHeld
      go_wp2
      go_roundw
      case rel=>exact ⟨k + 1,by go_num,by omega,HN,HKX,HW⟩
      case measure=>simp [intOf];omega
     ·have HE : Hid (fineB u key l = false):=HNO.out (by rw [HAT.out,decide_eq_false hup];rfl)
      have hup2 : decide (x.f0 ≤ q) = true:=decide_eq_true (by omega)
      clear HNO HYES HAT
      go_wp2
      skip
      refine wp_region_held_drew (S:=fun W=>W.cell? (ad.add (j * 2)) = some (.int .i64 q) ∧ W.cell? ⟨wr.heap.size,0,none⟩ = some (.int .i64 x.f0) ∧ W.cell? ⟨wr.heap.size,1,none⟩ = some (.string x.f1) ∧ W.cell? ⟨w.heap.size,2,none⟩ = some (.slice (some ad) l.length c) ∧ Hid (Below wr.heap.size wr W)) (by kernel_rfl) ?_ (fun hHeld=>?_)
      ·exact ⟨keepc ((Below.refl wr.heap.size wr).alloc (Nat.le_refl _) _).drew hd0,by simp [go_sem],by simp [go_sem],keepc ((Below.refl wr.heap.size wr).alloc (Nat.le_refl _) _).drew dx_2,((Below.refl wr.heap.size wr).alloc (Nat.le_refl _) _).drew⟩
      refine zt 0 ?_;try simp only [zN]
      refine wpAnyH_ready (rs:=[1]) (by kernel_rfl) (by simp) ?_
      refine AllReadyH.cons (o:=_) rfl (fun K hK=>?_) AllReadyH.nil
      rw [if_pos (by rfl)]
      go_simp
      obtain ⟨s0,s1,s2,s3,s4⟩:=hHeld
      refine (parts_may.calls x.f0 x.f1 _ _ HM.out).mono ?_
      rintro e8 w8 ⟨rfl,hb8⟩
      refine hK.out _ _ ⟨keepc hb8 s0,keepc hb8 s1,keepc hb8 s2,keepc hb8 s3,keepB s4 hb8⟩ (fun hHeld=>?_)
      clear hK K hb8 s0 s1 s2 s3 s4
      try simp only [zN]
      refine zt 2 ?_;try simp only [zN];refine zt 3 ?_;try simp only [zN];refine zt 4 ?_;try simp only [zN];refine zt 5 ?_;try simp only [zN];refine zt 6 ?_;try simp only [zN];refine zt 7 ?_;try simp only [zN];refine zt 8 ?_;try simp only [zN];refine zt 9 ?_;try simp only [zN];refine zt 10 ?_;try simp only [zN];refine zt 11 ?_;try simp only [zN];refine zt 12 ?_;try simp only [zN];refine zt 13 ?_;try simp only [zN];refine zt 14 ?_;try simp only [zN];refine zt 15 ?_;try simp only [zN];refine zt 16 ?_;try simp only [zN];refine zt 17 ?_;try simp only [zN];refine zt 18 ?_;try simp only [zN]
      refine wpAnyH_done (by kernel_rfl) ?_ _
      have HW:=keepB hb hHeld.2.2.2.2
      clear hHeld
      go_wp2
      go_ret
      exact ⟨by rw [HE.out];rfl,HW.out⟩
    ·have HN : Hid (allFrom (adjB l) 0 (k + 1) = true):=HYES.out (by
      rw [HAT.out]
      obtain rfl : k = 0:=by omega
      rfl)
     generalize l[k] = x at *
     have h0n : ¬ 0 < k:=by omega
     have h0d : decide (0 < k) = false:=decide_eq_false h0n
     clear HNO HYES HAT
     go_wp2
     skip
     refine wp_region_held_drew (S:=fun W=>W.cell? ⟨wr.heap.size,0,none⟩ = some (.int .i64 x.f0) ∧ W.cell? ⟨wr.heap.size,1,none⟩ = some (.string x.f1) ∧ W.cell? ⟨w.heap.size,2,none⟩ = some (.slice (some ad) l.length c) ∧ Hid (Below wr.heap.size wr W)) (by kernel_rfl) ?_ (fun hHeld=>?_)
     ·exact ⟨by simp [go_sem],by simp [go_sem],keepc ((Below.refl wr.heap.size wr).alloc (Nat.le_refl _) _).drew dx_2,((Below.refl wr.heap.size wr).alloc (Nat.le_refl _) _).drew⟩
     refine zt 0 ?_;try simp only [zN]
     refine wpAnyH_ready (rs:=[1]) (by kernel_rfl) (by simp) ?_
     refine AllReadyH.cons (o:=_) rfl (fun K hK=>?_) AllReadyH.nil
     rw [if_pos (by rfl)]
     go_simp
     obtain ⟨s0,s1,s2,s3⟩:=hHeld
     refine (parts_may.calls x.f0 x.f1 _ _ HM.out).mono ?_
     rintro e8 w8 ⟨rfl,hb8⟩
     refine hK.out _ _ ⟨keepc hb8 s0,keepc hb8 s1,keepc hb8 s2,keepB s3 hb8⟩ (fun hHeld=>?_)
     clear hK K hb8 s0 s1 s2 s3
     try simp only [zN]
     refine zt 2 ?_;try simp only [zN];refine zt 3 ?_;try simp only [zN];refine zt 4 ?_;try simp only [zN];refine zt 5 ?_;try simp only [zN];refine zt 6 ?_;try simp only [zN];refine zu 7 ?_;try simp only [zN];refine zu 8 ?_;try simp only [zN];refine zu 9 ?_;try simp only [zN];refine zu 10 ?_;try simp only [zN];refine zu 11 ?_;try simp only [zN];refine zu 12 ?_;try simp only [zN];refine zu 13 ?_;try simp only [zN];refine zu 14 ?_;try simp only [zN];refine zu 15 ?_;try simp only [zN];refine zu 16 ?_;try simp only [zN];refine zt 17 ?_;try simp only [zN];refine zt 18 ?_;try simp only [zN]
     refine wpAnyH_done (by kernel_rfl) ?_ _
     have HW:=keepB hb hHeld.2.2.2
     have HKX:=zk hkb (outB hHeld.2.2.2)
     clear hHeld
     go_wp2
     go_roundw
     case rel=>exact ⟨k + 1,by go_num,by omega,HN,HKX,HW⟩
     case measure=>simp [intOf];omega
  ·have HE : Hid (fineB u key l = true):=by
    obtain rfl : k = l.length:=by omega
    exact HEX.out.trans hall.out
   go_wp2
   go_ret
   exact ⟨by rw [HE.out];rfl,hb.out⟩
theorem check_calls {w : World} {A : Option Addr} {c : Nat} {l : List S101} (hr : Kd.C k101 w A l.length l) (hc : l.length ≤ c) :
  Calls Tryz.prog 68 #[.slice A l.length c] w fun e w'=>e = .returned (.int .i64 (errB (checkB l))) ∧ Below w.heap.size w w':=by
 have HB0 : Hid (Below w.heap.size w w):=Below.refl _ _
 have HR:=zh hr
 have hlen : (l.length : Int) ≤ 9223372036854775807:=by have:=hr.2.1;omega
 clear hr
 by_cases p3 : 10 < l.length
 ·have HE : Hid (checkB l = false):=by unfold Hid checkB;rw [decide_eq_false (show ¬ l.length ≤ 10 by omega)];simp
  have d3 : decide ((10 : Int) < (l.length : Int)) = true:=by simp;omega
  go_enter Tryz.func68,Tryz.ntmps68
  go_wp2
  go_ret
  exact ⟨by rw [HE.out];rfl,HB0.out⟩
 have d3 : decide ((10 : Int) < (l.length : Int)) = false:=by simp;omega
 have HEX : Hid (checkB l = allFrom (adjU l) 0 l.length):=by
  unfold Hid checkB
  rw [decide_eq_true (show l.length ≤ 10 by omega)];rfl
 go_enter Tryz.func68,Tryz.ntmps68
 go_wp2
 go_loopw [10] (fun i wr=>∃ (k : Nat),i = .int .i64 k ∧ k ≤ l.length ∧ Hid (allFrom (adjU l) 0 k = true) ∧ Hid (Below w.heap.size w wr)) (fun i _=>l.length - (intOf i).toNat)
 case atStart=>exact ⟨0,rfl,Nat.zero_le _,rfl,HB0⟩
 case round =>
  obtain ⟨k,rfl,hk,hall,hb⟩:=hrel
  by_cases hlt : k < l.length
  ·have HNO : Hid (adjU l k = false → checkB l = false):=fun h=>by
    rw [HEX.out,allFrom_false k (Nat.zero_le _) (by omega) h]
   have HYES : Hid (adjU l k = true → allFrom (adjU l) 0 (k + 1) = true):=fun h=>by
    rw [allFrom_snoc,hall.out,Nat.zero_add,h];rfl
   have HAT : Hid (adjU l k = (fineB l[k].f0 l[k].f1 l[k].f2 && (decide (k = 0) || decide ((l.getD (k - 1) z101).f0 < l[k].f0)))):=by
    unfold Hid adjU;rw [getD_at l k _ hlt]
   clear hall
   obtain ⟨ad,A2,c2,e',hc0,hc1,hc2,hl2,hC2⟩:=atUpload HR.out hb.out k hlt
   subst e'
   have HFC:=zh (fun (W : World) (h : Below wr.heap.size wr W)=>fine_calls (w:=W) (c:=c2) l[k].f0 l[k].f1 (Kd.C_below hC2 h) hl2)
   clear hC2
   cases hm : fineB l[k].f0 l[k].f1 l[k].f2
   ·have HE : Hid (checkB l = false):=HNO.out (by rw [HAT.out,hm];rfl)
    rw [hm] at HFC
    clear hm HNO HYES HAT
    generalize l[k] = x at *
    go_wp2
    skip
    refine wp_region_held_drew (S:=fun W=>W.cell? ⟨wr.heap.size,0,none⟩ = some (.int .u64 x.f0) ∧ W.cell? ⟨wr.heap.size,1,none⟩ = some (.string x.f1) ∧ W.cell? ⟨wr.heap.size,2,none⟩ = some (.slice A2 x.f2.length c2) ∧ Hid (Below wr.heap.size wr W)) (by kernel_rfl) ?_ (fun hHeld=>?_)
    ·exact ⟨by simp [go_sem],by simp [go_sem],by simp [go_sem],((Below.refl wr.heap.size wr).alloc (Nat.le_refl _) _).drew⟩
    refine zt 0 ?_;try simp only [zN]
    refine wpAnyH_ready (rs:=[1]) (by kernel_rfl) (by simp) ?_
    refine AllReadyH.cons (o:=_) rfl (fun K hK=>?_) AllReadyH.nil
    rw [if_pos (by rfl)]
    go_simp
    obtain ⟨s0,s1,s2,s3⟩:=hHeld
    refine (HFC.out _ (outB s3)).mono ?_
    rintro e8 w8 ⟨rfl,hb8⟩
    refine hK.out _ _ ⟨keepc hb8 s0,keepc hb8 s1,keepc hb8 s2,keepB s3 hb8⟩ (fun hHeld=>?_)
    clear hK K hb8 s0 s1 s2 s3
    try simp only [zN]
    refine zt 2 ?_;try simp only [zN];refine zt 3 ?_;try simp only [zN];refine zu 4 ?_;try simp only [zN];refine zu 5 ?_;try simp only [zN];refine zu 6 ?_;try simp only [zN];refine zu 7 ?_;try simp only [zN];refine zu 8 ?_;try simp only [zN];refine zu 9 ?_;try simp only [zN];refine zu 10 ?_;try simp only [zN];refine zu 11 ?_;try simp only [zN];refine zu 12 ?_;try simp only [zN];refine zu 13 ?_;try simp only [zN];refine zu 14 ?_;try simp only [zN];refine zu 15 ?_;try simp only [zN];refine zu 16 ?_;try simp only [zN];refine zt 17 ?_;try simp only [zN]
    refine wpAnyH_done (by kernel_rfl) ?_ _
    have HW:=keepB hb hHeld.2.2.2
    clear hHeld
    go_wp2
    go_ret
    exact ⟨by rw [HE.out];rfl,HW.out⟩
   ·rw [hm] at HFC HAT
    clear hm
    by_cases h0 : (0 : Int) < (k : Int)
    ·obtain ⟨j,rfl⟩ : ∃ j,k = j + 1:=⟨k - 1,by omega⟩
     have hj : j < l.length:=by omega
     obtain ⟨ad',A4,c4,e3,hd0,hd1,hd2,hm2,hD2⟩:=atUpload HR.out hb.out j hj
     injection e3 with e3
     subst e3
     clear hd1 hd2 hm2 hD2
     rw [Nat.add_sub_cancel,getD_at l j _ hj,decide_eq_false (Nat.succ_ne_zero j),Bool.false_or] at HAT
     have e1 : IntKind.i64.wrap (((j + 1 : Nat) : Int) - 1) = (j : Int):=by simp [IntKind.wrap,IntKind.bits,IntKind.signed];omega
     have p4 : (0 : Int) ≤ (j : Int):=by omega
     have p5 : (j : Int) < (l.length : Int):=by omega
     generalize l[j].f0 = q at *
     generalize l[j + 1] = x at *
     generalize hk1 : j + 1 = k at *
     have h0n : 0 < k:=by omega
     have h0d : decide (0 < k) = true:=decide_eq_true h0n
     by_cases hup : q < x.f0
     ·have HN : Hid (allFrom (adjU l) 0 (k + 1) = true):=HYES.out (by rw [HAT.out,decide_eq_true hup];rfl)
      have hup2 : decide (x.f0 ≤ q) = false:=decide_eq_false (by omega)
      clear HNO HYES HAT
      go_wp2
      skip
      refine wp_region_held_drew (S:=fun W=>W.cell? (ad.add (j * 3)) = some (.int .u64 q) ∧ W.cell? ⟨wr.heap.size,0,none⟩ = some (.int .u64 x.f0) ∧ W.cell? ⟨wr.heap.size,1,none⟩ = some (.string x.f1) ∧ W.cell? ⟨wr.heap.size,2,none⟩ = some (.slice A2 x.f2.length c2) ∧ Hid (Below wr.heap.size wr W)) (by kernel_rfl) ?_ (fun hHeld=>?_)
      ·exact ⟨keepc ((Below.refl wr.heap.size wr).alloc (Nat.le_refl _) _).drew hd0,by simp [go_sem],by simp [go_sem],by simp [go_sem],((Below.refl wr.heap.size wr).alloc (Nat.le_refl _) _).drew⟩
      refine zt 0 ?_;try simp only [zN]
      refine wpAnyH_ready (rs:=[1]) (by kernel_rfl) (by simp) ?_
      refine AllReadyH.cons (o:=_) rfl (fun K hK=>?_) AllReadyH.nil
      rw [if_pos (by rfl)]
      go_simp
      obtain ⟨s0,s1,s2,s3,s4⟩:=hHeld
      refine (HFC.out _ (outB s4)).mono ?_
      rintro e8 w8 ⟨rfl,hb8⟩
      refine hK.out _ _ ⟨keepc hb8 s0,keepc hb8 s1,keepc hb8 s2,keepc hb8 s3,keepB s4 hb8⟩ (fun hHeld=>?_)
      clear hK K hb8 s0 s1 s2 s3 s4
      try simp only [zN]
      refine zt 2 ?_;try simp only [zN];refine zt 3 ?_;try simp only [zN];refine zt 4 ?_;try simp only [zN];refine zt 5 ?_;try simp only [zN];refine zt 6 ?_;try simp only [zN];refine zt 7 ?_;try simp only [zN];refine zt 8 ?_;try simp only [zN];refine zt 9 ?_;try simp only [zN];refine zt 10 ?_;try simp only [zN];refine zt 11 ?_;try simp only [zN];refine zt 12 ?_;try simp only [zN];refine zt 13 ?_;try simp only [zN];refine zt 14 ?_;try simp only [zN];refine zt 15 ?_;try simp only [zN];refine zt 16 ?_;try simp only [zN];refine zt 17 ?_;try simp only [zN]
      refine wpAnyH_done (by kernel_rfl) ?_ _
      have HW:=keepB hb hHeld.2.2.2.2
      clear hHeld
      go_wp2
      go_roundw
      case rel=>exact ⟨k + 1,by go_num,by omega,HN,HW⟩
      case measure=>simp [intOf];omega
     ·have HE : Hid (checkB l = false):=HNO.out (by rw [HAT.out,decide_eq_false hup];rfl)
      have hup2 : decide (x.f0 ≤ q) = true:=decide_eq_true (by omega)
      clear HNO HYES HAT
      go_wp2
      skip
      refine wp_region_held_drew (S:=fun W=>W.cell? (ad.add (j * 3)) = some (.int .u64 q) ∧ W.cell? ⟨wr.heap.size,0,none⟩ = some (.int .u64 x.f0) ∧ W.cell? ⟨wr.heap.size,1,none⟩ = some (.string x.f1) ∧ W.cell? ⟨wr.heap.size,2,none⟩ = some (.slice A2 x.f2.length c2) ∧ Hid (Below wr.heap.size wr W)) (by kernel_rfl) ?_ (fun hHeld=>?_)
      ·exact ⟨keepc ((Below.refl wr.heap.size wr).alloc (Nat.le_refl _) _).drew hd0,by simp [go_sem],by simp [go_sem],by simp [go_sem],((Below.refl wr.heap.size wr).alloc (Nat.le_refl _) _).drew⟩
      refine zt 0 ?_;try simp only [zN]
      refine wpAnyH_ready (rs:=[1]) (by kernel_rfl) (by simp) ?_
      refine AllReadyH.cons (o:=_) rfl (fun K hK=>?_) AllReadyH.nil
      rw [if_pos (by rfl)]
      go_simp
      obtain ⟨s0,s1,s2,s3,s4⟩:=hHeld
      refine (HFC.out _ (outB s4)).mono ?_
      rintro e8 w8 ⟨rfl,hb8⟩
      refine hK.out _ _ ⟨keepc hb8 s0,keepc hb8 s1,keepc hb8 s2,keepc hb8 s3,keepB s4 hb8⟩ (fun hHeld=>?_)
      clear hK K hb8 s0 s1 s2 s3 s4
      try simp only [zN]
      refine zt 2 ?_;try simp only [zN];refine zt 3 ?_;try simp only [zN];refine zt 4 ?_;try simp only [zN];refine zt 5 ?_;try simp only [zN];refine zt 6 ?_;try simp only [zN];refine zt 7 ?_;try simp only [zN];refine zt 8 ?_;try simp only [zN];refine zt 9 ?_;try simp only [zN];refine zt 10 ?_;try simp only [zN];refine zt 11 ?_;try simp only [zN];refine zt 12 ?_;try simp only [zN];refine zt 13 ?_;try simp only [zN];refine zt 14 ?_;try simp only [zN];refine zt 15 ?_;try simp only [zN];refine zt 16 ?_;try simp only [zN];refine zt 17 ?_;try simp only [zN]
      refine wpAnyH_done (by kernel_rfl) ?_ _
      have HW:=keepB hb hHeld.2.2.2.2
      clear hHeld
      go_wp2
      go_ret
      exact ⟨by rw [HE.out];rfl,HW.out⟩
    ·have HN : Hid (allFrom (adjU l) 0 (k + 1) = true):=HYES.out (by
      rw [HAT.out]
      obtain rfl : k = 0:=by omega
      rfl)
     generalize l[k] = x at *
     have h0n : ¬ 0 < k:=by omega
     have h0d : decide (0 < k) = false:=decide_eq_false h0n
     clear HNO HYES HAT
     go_wp2
     skip
     refine wp_region_held_drew (S:=fun W=>W.cell? ⟨wr.heap.size,0,none⟩ = some (.int .u64 x.f0) ∧ W.cell? ⟨wr.heap.size,1,none⟩ = some (.string x.f1) ∧ W.cell? ⟨wr.heap.size,2,none⟩ = some (.slice A2 x.f2.length c2) ∧ Hid (Below wr.heap.size wr W)) (by kernel_rfl) ?_ (fun hHeld=>?_)
     ·exact ⟨by simp [go_sem],by simp [go_sem],by simp [go_sem],((Below.refl wr.heap.size wr).alloc (Nat.le_refl _) _).drew⟩
     refine zt 0 ?_;try simp only [zN]
     refine wpAnyH_ready (rs:=[1]) (by kernel_rfl) (by simp) ?_
     refine AllReadyH.cons (o:=_) rfl (fun K hK=>?_) AllReadyH.nil
     rw [if_pos (by rfl)]
     go_simp
     obtain ⟨s0,s1,s2,s3⟩:=hHeld
     refine (HFC.out _ (outB s3)).mono ?_
     rintro e8 w8 ⟨rfl,hb8⟩
     refine hK.out _ _ ⟨keepc hb8 s0,keepc hb8 s1,keepc hb8 s2,keepB s3 hb8⟩ (fun hHeld=>?_)
     clear hK K hb8 s0 s1 s2 s3
     try simp only [zN]
     refine zt 2 ?_;try simp only [zN];refine zt 3 ?_;try simp only [zN];refine zt 4 ?_;try simp only [zN];refine zt 5 ?_;try simp only [zN];refine zt 6 ?_;try simp only [zN];refine zu 7 ?_;try simp only [zN];refine zu 8 ?_;try simp only [zN];refine zu 9 ?_;try simp only [zN];refine zu 10 ?_;try simp only [zN];refine zu 11 ?_;try simp only [zN];refine zu 12 ?_;try simp only [zN];refine zu 13 ?_;try simp only [zN];refine zu 14 ?_;try simp only [zN];refine zu 15 ?_;try simp only [zN];refine zt 16 ?_;try simp only [zN];refine zt 17 ?_;try simp only [zN]
     refine wpAnyH_done (by kernel_rfl) ?_ _
     have HW:=keepB hb hHeld.2.2.2
     clear hHeld
     go_wp2
     go_roundw
     case rel=>exact ⟨k + 1,by go_num,by omega,HN,HW⟩
     case measure=>simp [intOf];omega
  ·have HE : Hid (checkB l = true):=by
    obtain rfl : k = l.length:=by omega
    exact HEX.out.trans hall.out
   go_wp2
   go_ret
   exact ⟨by rw [HE.out];rfl,hb.out⟩
end
section
open Go.WideMaps Go.Maps
def octV (l : List S47) : Nat:=(l.map (fun v=>v.f1.size)).sum
def octE (l : List S56) : Nat:=(l.map (fun x=>octV x.f1)).sum
def cntE (l : List S56) : Nat:=(l.map (fun x=>x.f1.length)).sum
def octP (l : List S40) : Nat:=(l.map (fun v=>v.f1.size)).sum
def octU (l : List S101) : Nat:=(l.map (fun x=>octP x.f2)).sum
def bigN : Int:=9223372036854775807
theorem rdV' (l : List S47) (i : Nat) (h : i < l.length) : rd_T47 l (i : Int) = l[i]:=rdVersion l i h
theorem rdE' (l : List S56) (i : Nat) (h : i < l.length) : rd_T56 l (i : Int) = l[i]:=rdEntry l i h
theorem rdU' (l : List S101) (i : Nat) (h : i < l.length) : rd_T101 l (i : Int) = l[i]:=rdUpload l i h
theorem rdP' (l : List S40) (i : Nat) (h : i < l.length) : rd_T40 l (i : Int) = l[i]:=rdPart l i h
theorem succ_w (i : Nat) (h : (i : Int) < bigN) : wrap64 ((i : Int) + 1) = ((i + 1 : Nat) : Int):=by unfold bigN at h;rw [wrap64_of (by omega) (by omega)];omega
theorem sum_w (a b : Nat) (h : ((a + b : Nat) : Int) ≤ bigN) : wrap64 ((a : Int) + (b : Int)) = ((a + b : Nat) : Int):=by unfold bigN at h;rw [wrap64_of (by omega) (by omega)];omega
theorem count_l1 (L : List S56) (n i : Nat) (k : Nat) (hi : (i : Int) < bigN) (vs : List S47) (hv : (vs.length : Int) ≤ bigN) : ∀ (d j acc : Nat),j + d = vs.length → ((acc + octV (vs.drop j) : Nat) : Int) ≤ bigN →
  index_Count.l1 (k + d + 1) n acc L (L.length : Int) i vs (vs.length : Int) (j : Int) = index_Count.l0 k n ((acc + octV (vs.drop j) : Nat) : Int) L (L.length : Int) ((i + 1 : Nat) : Int):=by
 intro d
 induction d with
 | zero =>
  intro j acc hj hb
  rw [show k + 0 + 1 = k + 1 from rfl]
  simp only [index_Count.l1]
  rw [if_neg (by omega),succ_w i hi,List.drop_eq_nil_of_le (by omega)]
  rfl
 | succ d ih =>
  intro j acc hj hb
  have hj' : j < vs.length:=by omega
  rw [List.drop_eq_getElem_cons hj'] at hb ⊢
  have e : octV (vs[j] :: vs.drop (j + 1)) = vs[j].f1.size + octV (vs.drop (j + 1)):=by unfold octV;rw [List.map_cons,List.sum_cons]
  rw [e] at hb ⊢
  rw [show k + (d + 1) + 1 = (k + d + 1) + 1 from rfl]
  generalize hK : k + d + 1 = K
  simp only [index_Count.l1]
  subst hK
  rw [if_pos (by omega),if_pos (by omega),if_pos (by omega),rdV' vs j hj',succ_w j (by omega),sum_w acc _ (by omega),ih (j + 1) (acc + vs[j].f1.size) (by omega) (by omega),Nat.add_assoc]
def needE : List S56 → Nat
 | []=>1
 | x :: xs=>needE xs + x.f1.length + 2
theorem count_l0 (L : List S56) (hL : (L.length : Int) ≤ bigN) (hV : ∀ x ∈ L,(x.f1.length : Int) ≤ bigN) : ∀ (xs : List S56) (i n acc : Nat),xs = L.drop i → i ≤ L.length → ((n + cntE xs : Nat) : Int) ≤ bigN → ((acc + octE xs : Nat) : Int) ≤ bigN →
  index_Count.l0 (needE xs) n acc L (L.length : Int) (i : Int) = some (((n + cntE xs : Nat) : Int),((acc + octE xs : Nat) : Int)):=by
 intro xs
 induction xs with
 | nil =>
  intro i n acc hx hi hn ha
  have : L.length ≤ i:=by
   have:=congrArg List.length hx
   rw [List.length_drop] at this;simp at this;omega
  simp only [needE,index_Count.l0]
  rw [if_neg (by omega)]
  rfl
 | cons x xs ih =>
  intro i n acc hx hi hn ha
  have hlen : i < L.length:=by
   have:=congrArg List.length hx
   rw [List.length_drop] at this;simp only [List.length_cons] at this;omega
  rw [List.drop_eq_getElem_cons hlen] at hx
  injection hx with hx1 hx2
  have e1 : cntE (x :: xs) = x.f1.length + cntE xs:=by unfold cntE;rw [List.map_cons,List.sum_cons]
  have e2 : octE (x :: xs) = octV x.f1 + octE xs:=by unfold octE;rw [List.map_cons,List.sum_cons]
  rw [e1] at hn ⊢;rw [e2] at ha ⊢
  show index_Count.l0 (needE xs + x.f1.length + 1 + 1) _ _ _ _ _ = _
  generalize hK : needE xs + x.f1.length + 1 = K
  simp only [index_Count.l0]
  subst hK
  rw [if_pos (by omega),if_pos (by omega),if_pos (by omega),rdE' L i hlen,← hx1,sum_w n _ (by omega)]
  have:=count_l1 L (n + x.f1.length) i (needE xs) (by omega) x.f1 (by rw [hx1];exact hV _ (List.getElem_mem hlen)) x.f1.length 0 acc (by omega) (by rw [List.drop_zero];omega)
  rw [show ((0 : Nat) : Int) = 0 from rfl,List.drop_zero] at this
  rw [this,ih (i + 1) _ _ hx2 (by omega) (by omega) (by omega),Nat.add_assoc,Nat.add_assoc]
theorem count_f (L : List S56) (hL : (L.length : Int) ≤ bigN) (hV : ∀ x ∈ L,(x.f1.length : Int) ≤ bigN) (hc : (cntE L : Int) ≤ bigN) (ho : (octE L : Int) ≤ bigN) : index_Count.f (needE L) L = some ((cntE L : Int),(octE L : Int)):=by
 unfold index_Count.f
 have:=count_l0 L hL hV L 0 0 0 rfl (Nat.zero_le _) (by simpa using hc) (by simpa using ho)
 simpa using this
theorem octs_l1 (L : List S101) (i : Nat) (k : Nat) (hi : (i : Int) < bigN) (vs : List S40) (hv : (vs.length : Int) ≤ bigN) : ∀ (d j acc : Nat),j + d = vs.length → ((acc + octP (vs.drop j) : Nat) : Int) ≤ bigN →
  parts_Octets.l1 (k + d + 1) acc L (L.length : Int) i vs (vs.length : Int) (j : Int) = parts_Octets.l0 k ((acc + octP (vs.drop j) : Nat) : Int) L (L.length : Int) ((i + 1 : Nat) : Int):=by
 intro d
 induction d with
 | zero =>
  intro j acc hj hb
  rw [show k + 0 + 1 = k + 1 from rfl]
  simp only [parts_Octets.l1]
  rw [if_neg (by omega),succ_w i hi,List.drop_eq_nil_of_le (by omega)]
  rfl
 | succ d ih =>
  intro j acc hj hb
  have hj' : j < vs.length:=by omega
  rw [List.drop_eq_getElem_cons hj'] at hb ⊢
  have e : octP (vs[j] :: vs.drop (j + 1)) = vs[j].f1.size + octP (vs.drop (j + 1)):=by unfold octP;rw [List.map_cons,List.sum_cons]
  rw [e] at hb ⊢
  rw [show k + (d + 1) + 1 = (k + d + 1) + 1 from rfl]
  generalize hK : k + d + 1 = K
  simp only [parts_Octets.l1]
  subst hK
  rw [if_pos (by omega),if_pos (by omega),if_pos (by omega),rdP' vs j hj',succ_w j (by omega),sum_w acc _ (by omega),ih (j + 1) (acc + vs[j].f1.size) (by omega) (by omega),Nat.add_assoc]
def needP : List S101 → Nat
 | []=>1
 | x :: xs=>needP xs + x.f2.length + 2
theorem octs_l0 (L : List S101) (hL : (L.length : Int) ≤ bigN) (hV : ∀ x ∈ L,(x.f2.length : Int) ≤ bigN) : ∀ (xs : List S101) (i acc : Nat),xs = L.drop i → i ≤ L.length → ((acc + octU xs : Nat) : Int) ≤ bigN →
  parts_Octets.l0 (needP xs) acc L (L.length : Int) (i : Int) = some ((acc + octU xs : Nat) : Int):=by
 intro xs
 induction xs with
 | nil =>
  intro i acc hx hi ha
  have : L.length ≤ i:=by
   have:=congrArg List.length hx
   rw [List.length_drop] at this;simp at this;omega
  simp only [needP,parts_Octets.l0]
  rw [if_neg (by omega)]
  rfl
 | cons x xs ih =>
  intro i acc hx hi ha
  have hlen : i < L.length:=by
   have:=congrArg List.length hx
   rw [List.length_drop] at this;simp only [List.length_cons] at this;omega
  rw [List.drop_eq_getElem_cons hlen] at hx
  injection hx with hx1 hx2
  have e2 : octU (x :: xs) = octP x.f2 + octU xs:=by unfold octU;rw [List.map_cons,List.sum_cons]
  rw [e2] at ha ⊢
  show parts_Octets.l0 (needP xs + x.f2.length + 1 + 1) _ _ _ _ = _
  generalize hK : needP xs + x.f2.length + 1 = K
  simp only [parts_Octets.l0]
  subst hK
  rw [if_pos (by omega),if_pos (by omega),if_pos (by omega),rdU' L i hlen,← hx1]
  have:=octs_l1 L i (needP xs) (by omega) x.f2 (by rw [hx1];exact hV _ (List.getElem_mem hlen)) x.f2.length 0 acc (by omega) (by rw [List.drop_zero];omega)
  rw [show ((0 : Nat) : Int) = 0 from rfl,List.drop_zero] at this
  rw [this,ih (i + 1) _ hx2 (by omega) (by omega),Nat.add_assoc]
theorem octs_f (L : List S101) (hL : (L.length : Int) ≤ bigN) (hV : ∀ x ∈ L,(x.f2.length : Int) ≤ bigN) (ho : (octU L : Int) ≤ bigN) : parts_Octets.f (needP L) L = some (octU L : Int):=by
 unfold parts_Octets.f
 have:=octs_l0 L hL hV L 0 0 rfl (Nat.zero_le _) (by simpa using ho)
 simpa using this
theorem sum_le {α : Type} (f : α → Nat) (m : Nat) : ∀ l : List α,(∀ x ∈ l,f x ≤ m) → (l.map f).sum ≤ m * l.length
 | [],_=>by simp
 | x :: l,h=>by
  rw [List.map_cons,List.sum_cons,List.length_cons,Nat.mul_succ]
  have h1:=h x List.mem_cons_self
  have h2:=sum_le f m l (fun y hy=>h y (List.mem_cons_of_mem _ hy))
  omega
theorem chain_small {l : List S47} (h : chainB l = true) : l.length ≤ 20 ∧ (∀ v ∈ l,mayV v = true) ∧ chB l = true:=by
 unfold chainB at h
 simp only [Bool.and_eq_true,decide_eq_true_eq,Bool.not_eq_true',List.any_eq_false] at h
 exact ⟨h.1,fun v hv=>by have:=h.2.1 v hv;unfold badV at this;simpa using this,h.2.2⟩
theorem mayV_small {v : S47} (h : mayV v = true) : v.f0 ≤ 281474976710655 ∧ v.f1.size ≤ 2000 ∧ 0 ≤ v.f3 ∧ v.f3 ≤ 1099511627775:=by
 unfold mayV at h
 simp only [Bool.and_eq_true,decide_eq_true_eq] at h
 exact ⟨h.1,by omega,h.2.2.2.1,h.2.2.2.2⟩
theorem octV_le {l : List S47} (h : chainB l = true) : octV l ≤ 40000:=by
 obtain ⟨h1,h2,_⟩:=chain_small h
 have:=sum_le (fun v : S47=>v.f1.size) 2000 l (fun v hv=>(mayV_small (h2 v hv)).2.1)
 unfold octV;omega
theorem index_at {l : List S56} (h : indexB l = true) : l.length ≤ 60 ∧ ∀ j (hj : j < l.length),keyB l[j].f0 = true ∧ upB l j = true ∧ l[j].f1.length ≠ 0 ∧ chainB l[j].f1 = true:=by
 unfold indexB at h
 simp only [Bool.and_eq_true,decide_eq_true_eq] at h
 refine ⟨h.1,fun j hj=>?_⟩
 have:=allFrom_at h.2 j (Nat.zero_le _) (by omega)
 unfold ixAt at this
 rw [getD_at l j _ hj] at this
 simp only [Bool.and_eq_true,Bool.not_eq_true',beq_eq_false_iff_ne] at this
 exact ⟨this.1,this.2.1,this.2.2.1,this.2.2.2⟩
theorem index_mem {l : List S56} (h : indexB l = true) : ∀ x ∈ l,keyB x.f0 = true ∧ x.f1.length ≠ 0 ∧ chainB x.f1 = true:=by
 intro x hx
 obtain ⟨j,hj,rfl⟩:=List.getElem_of_mem hx
 obtain ⟨h1,_,h3,h4⟩:=(index_at h).2 j hj
 exact ⟨h1,h3,h4⟩
theorem octE_le {l : List S56} (h : indexB l = true) : octE l ≤ 2400000 ∧ cntE l ≤ 1200:=by
 have h1:=(index_at h).1
 have a:=sum_le (fun x : S56=>octV x.f1) 40000 l (fun x hx=>octV_le (index_mem h x hx).2.2)
 have b:=sum_le (fun x : S56=>x.f1.length) 20 l (fun x hx=>(chain_small (index_mem h x hx).2.2).1)
 unfold octE cntE
 constructor <;> omega
theorem fine_small {u : Int} {key : ByteArray} {l : List S40} (h : fineB u key l = true) : numB u = true ∧ keyB key = true ∧ l.length ≤ 30 ∧ ∀ p ∈ l,mayB p = true:=by
 unfold fineB at h
 simp only [Bool.and_eq_true,decide_eq_true_eq] at h
 refine ⟨h.1,h.2.1,h.2.2.1,fun p hp=>?_⟩
 obtain ⟨j,hj,rfl⟩:=List.getElem_of_mem hp
 have:=allFrom_at h.2.2.2 j (Nat.zero_le _) (by omega)
 unfold adjB at this
 rw [getD_at l j _ hj] at this
 simp only [Bool.and_eq_true] at this
 exact this.1
theorem check_mem {l : List S101} (h : checkB l = true) : l.length ≤ 10 ∧ ∀ u ∈ l,fineB u.f0 u.f1 u.f2 = true:=by
 unfold checkB at h
 simp only [Bool.and_eq_true,decide_eq_true_eq] at h
 refine ⟨h.1,fun u hu=>?_⟩
 obtain ⟨j,hj,rfl⟩:=List.getElem_of_mem hu
 have:=allFrom_at h.2 j (Nat.zero_le _) (by omega)
 unfold adjU at this
 rw [getD_at l j _ hj] at this
 simp only [Bool.and_eq_true] at this
 exact this.1
theorem mayB_small {p : S40} (h : mayB p = true) : 1 ≤ p.f0 ∧ p.f0 ≤ 1000 ∧ p.f1.size ≤ 2000:=by
 unfold mayB at h
 simp only [Bool.and_eq_true,decide_eq_true_eq] at h
 exact h
theorem octU_le {l : List S101} (h : checkB l = true) : octU l ≤ 600000:=by
 obtain ⟨h1,h2⟩:=check_mem h
 have a:=sum_le (fun u : S101=>octP u.f2) 60000 l (fun u hu=>by
  obtain ⟨_,_,h3,h4⟩:=fine_small (h2 u hu)
  have:=sum_le (fun p : S40=>p.f1.size) 2000 u.f2 (fun p hp=>(mayB_small (h4 p hp)).2.2)
  show (u.f2.map _).sum ≤ _
  omega)
 unfold octU;omega
theorem fuel_up {α : Type} {f : Nat → Option α} (hm : ∀ k,LeO (f k) (f (k + 1))) {k : Nat} {r : α} (h : f k = some r) : ∀ d,f (k + d) = some r
 | 0=>h
 | d + 1=>hm _ _ (fuel_up hm h d)
def octB (L : List S56) (U : List S101) : Int:=(octE L : Int) + (octU U : Int)
theorem octets_calls {w : World} {A2 A3 : Option Addr} {c2 c3 : Nat} (nm : ByteArray) (st : Int) (L : List S56) (U : List S101) (la : Int) (h2 : Kd.C k56 w A2 L.length L) (g2 : L.length ≤ c2) (h3 : Kd.C k101 w A3 U.length U) (g3 : U.length ≤ c3) (hL : indexB L = true) (hU : checkB U = true) :
  Calls Tryz.prog 69 #[.agg #[.string nm,.int .i64 st,.slice A2 L.length c2,.slice A3 U.length c3,.int .u64 la]] w fun e w'=>e = .returned (.int .i64 (octB L U)) ∧ Below w.heap.size w w':=by
 have a1:=octE_le hL
 have a2:=octU_le hU
 have a3:=index_at hL
 have a4:=check_mem hU
 have e1:=count_f L (by unfold bigN;omega) (fun x hx=>by unfold bigN;have:=(chain_small (index_mem hL x hx).2.2).1;omega) (by unfold bigN;omega) (by unfold bigN;omega)
 have e2:=octs_f U (by unfold bigN;omega) (fun x hx=>by unfold bigN;have:=(fine_small (a4.2 x hx)).2.2.1;omega) (by unfold bigN;omega)
 have m1:=fun d=>fuel_up (fun k=>index_Count.mono L k) e1 d
 have m2:=fun d=>fuel_up (fun k=>parts_Octets.mono U k) e2 d
 refine bucket_octets.calls (needE L + needP U) nm st A2 c2 L A3 c3 U la _ w h2 g2 h3 g3 ?_
 unfold bucket_octets.f
 rw [m1,Option.bind_some,Nat.add_comm (needE L),m2,Option.bind_some]
 unfold octB
 rw [wrap64_of (by omega) (by omega)]
end
section
open Go.WideMaps Go.Maps
def farB (last st : Int) (v : S47) : Bool:=decide (last < v.f0) || ((st == 0) && !(v.f0 == 0))
def updB (last : Int) (u : S101) : Bool:=decide (last < u.f0)
theorem farB.walk (v : S47) (last st : Int) (g : Nat) (w : World) (h4 : w.cell? ⟨g,4,none⟩ = some (.int .u64 last)) (h1 : w.cell? ⟨g,1,none⟩ = some (.int .i64 st)) :
  Calls Tryz.prog 70 #[.agg #[.int .u64 v.f0,.string v.f1,.bool v.f2,.int .i64 v.f3],.pointer (some ⟨g,0,none⟩)] w fun e w'=>e = .returned (.bool (farB last st v)) ∧ Below w.heap.size w w':=by
 have HB0 : Hid (Below w.heap.size w w):=Below.refl _ _
 have e0:=World.new_ne w _ h4
 have hlt:=World.block_lt_of_cell? w _ h4
 obtain ⟨a,s,m,t⟩:=v
 by_cases p1 : last < a
 ·have HE : Hid (farB last st ⟨a,s,m,t⟩ = true):=by unfold Hid farB;simp [p1]
  go_enter Tryz.func70,Tryz.ntmps70
  go_wp2
  go_ret
  exact ⟨by rw [HE.out];rfl,HB0.out.alloc (Nat.le_refl _) _⟩
 ·cases p2 : (st == 0)
  ·have HE : Hid (farB last st ⟨a,s,m,t⟩ = false):=by unfold Hid farB;simp [p1,p2]
   go_enter Tryz.func70,Tryz.ntmps70
   go_wp2
   go_ret
   exact ⟨by rw [HE.out];rfl,HB0.out.alloc (Nat.le_refl _) _⟩
  ·have HE : Hid (farB last st ⟨a,s,m,t⟩ = (a != 0)):=by unfold Hid farB;simp [p1,p2,bne]
   go_enter Tryz.func70,Tryz.ntmps70
   go_wp2
   go_ret
   exact ⟨by rw [HE.out];rfl,HB0.out.alloc (Nat.le_refl _) _⟩
theorem updB.walk (u : S101) (A2 : Option Addr) (c2 : Nat) (last : Int) (g : Nat) (w : World) (h4 : w.cell? ⟨g,4,none⟩ = some (.int .u64 last)) :
  Calls Tryz.prog 73 #[.agg #[.int .u64 u.f0,.string u.f1,.slice A2 u.f2.length c2],.pointer (some ⟨g,0,none⟩)] w fun e w'=>e = .returned (.bool (updB last u)) ∧ Below w.heap.size w w':=by
 have HB0 : Hid (Below w.heap.size w w):=Below.refl _ _
 have e0:=World.new_ne w _ h4
 have hlt:=World.block_lt_of_cell? w _ h4
 go_enter Tryz.func73,Tryz.ntmps73
 go_wp2
 go_ret
 exact ⟨rfl,HB0.out.alloc (Nat.le_refl _) _⟩
theorem idx_far.walk (A : Option Addr) (c : Nat) (l : List S47) (last st : Int) (g : Nat) (w : World) (hr : Kd.C k47 w A l.length l) (h4 : w.cell? ⟨g,4,none⟩ = some (.int .u64 last)) (h1 : w.cell? ⟨g,1,none⟩ = some (.int .i64 st)) :
  Calls Tryz.prog 128 #[.slice A l.length c,.func (.func 70) #[] #[.pointer (some ⟨g,0,none⟩)]] w fun e w'=>e = .returned (.int .i64 (posI (l.findIdx? (farB last st)))) ∧ Below w.heap.size w w':=by
 have HR:=zh hr
 have hlen : (l.length : Int) ≤ 9223372036854775807:=by have:=hr.2.1;omega
 clear hr
 have HB0 : Hid (Below w.heap.size w w):=Below.refl _ _
 have Hh4:=zh h4;clear h4
 have Hh1:=zh h1;clear h1
 go_enter Tryz.func128,Tryz.ntmps128
 go_wp2
 go_loopw [5,8] (fun _ i wr=>∃ (k : Nat),i = .int .i64 k ∧ k ≤ l.length ∧ Hid (∀ j (hj : j < k) (hl : j < l.length),(farB last st) l[j] = false) ∧ Hid (Below w.heap.size w wr)) (fun _ i _=>l.length - (intOf i).toNat)
 case atStart=>exact ⟨0,rfl,Nat.zero_le _,fun j hj=>absurd hj (Nat.not_lt_zero _),HB0⟩
 case round =>
  obtain ⟨k,rfl,hk,hall,hb⟩:=hrel
  by_cases hlt : k < l.length
  ·obtain ⟨ad,e',hc0,hc1,hc2,hc3⟩:=atVersion HR.out hb.out k hlt
   subst e'
   have Hwh4:=zh (keepc hb.out Hh4.out)
   have Hwh1:=zh (keepc hb.out Hh1.out)
   have HC:=zh (farB.walk l[k] last st g wr Hwh4.out Hwh1.out)
   cases hp : (farB last st) l[k]
   ·have hn : Hid (∀ j (hj : j < k + 1) (hl : j < l.length),(farB last st) l[j] = false):=fun j hj hl=>by
     rcases Nat.eq_or_lt_of_le (Nat.le_of_lt_succ hj) with rfl | h
     ·exact hp
     ·exact hall.out j h hl
    rw [hp] at HC
    clear hp
    go_wp2_with (go_at_call 70;refine HC.out.mono ?_;rintro e w1 ⟨rfl,hb1⟩;have HB1:=zh hb1;clear hb1)
    go_roundw
    case rel=>exact ⟨k + 1,by go_num,by omega,hn,keepB hb HB1.out⟩
    case measure=>simp [intOf];omega
   ·have hn : Hid (l.findIdx? (farB last st) = some k):=by
     unfold Hid
     rw [List.findIdx?_eq_some_iff_getElem]
     exact ⟨hlt,hp,fun j hj=>by rw [hall.out j hj (by omega)];simp⟩
    rw [hp] at HC
    clear hp
    go_wp2_with (go_at_call 70;refine HC.out.mono ?_;rintro e w1 ⟨rfl,hb1⟩;have HB1:=zh hb1;clear hb1)
    go_ret
    exact ⟨by rw [hn.out];rfl,keepB hb HB1.out⟩
  ·have hn : Hid (l.findIdx? (farB last st) = none):=by
    unfold Hid
    rw [List.findIdx?_eq_none_iff]
    intro u hu
    obtain ⟨j,hj,rfl⟩:=List.getElem_of_mem hu
    exact hall.out j (by omega) hj
   go_wp2
   go_ret
   exact ⟨by rw [hn.out];rfl,hb.out⟩
theorem cont_far.walk (A : Option Addr) (c : Nat) (l : List S47) (last st : Int) (g : Nat) (w : World) (hr : Kd.C k47 w A l.length l) (h4 : w.cell? ⟨g,4,none⟩ = some (.int .u64 last)) (h1 : w.cell? ⟨g,1,none⟩ = some (.int .i64 st)) :
  Calls Tryz.prog 71 #[.slice A l.length c,.func (.func 70) #[] #[.pointer (some ⟨g,0,none⟩)]] w fun e w'=>e = .returned (.bool (l.any (farB last st))) ∧ Below w.heap.size w w':=by
 have H:=zh (idx_far.walk A c l last st g w hr h4 h1)
 clear hr h4 h1
 have HA:=zh (pos_any l (farB last st))
 generalize posI (l.findIdx? (farB last st)) = r at H HA
 generalize l.any (farB last st) = q at HA ⊢
 go_enter Tryz.func71,Tryz.ntmps71
 go_wp2_with (go_at_call 128;refine H.out.mono ?_;rintro e w1 ⟨rfl,hb⟩;have HB:=zh hb;clear hb)
 go_ret
 refine ⟨?_,HB.out⟩
 show Ending.returned (.bool (decide (0 ≤ r))) = _
 rw [HA.out]
theorem idx_upd.walk (A : Option Addr) (c : Nat) (l : List S101) (last : Int) (g : Nat) (w : World) (hr : Kd.C k101 w A l.length l) (h4 : w.cell? ⟨g,4,none⟩ = some (.int .u64 last)) :
  Calls Tryz.prog 129 #[.slice A l.length c,.func (.func 73) #[] #[.pointer (some ⟨g,0,none⟩)]] w fun e w'=>e = .returned (.int .i64 (posI (l.findIdx? (updB last)))) ∧ Below w.heap.size w w':=by
 have HR:=zh hr
 have hlen : (l.length : Int) ≤ 9223372036854775807:=by have:=hr.2.1;omega
 clear hr
 have HB0 : Hid (Below w.heap.size w w):=Below.refl _ _
 have Hh4:=zh h4;clear h4
 go_enter Tryz.func129,Tryz.ntmps129
 go_wp2
 go_loopw [5,8] (fun _ i wr=>∃ (k : Nat),i = .int .i64 k ∧ k ≤ l.length ∧ Hid (∀ j (hj : j < k) (hl : j < l.length),(updB last) l[j] = false) ∧ Hid (Below w.heap.size w wr)) (fun _ i _=>l.length - (intOf i).toNat)
 case atStart=>exact ⟨0,rfl,Nat.zero_le _,fun j hj=>absurd hj (Nat.not_lt_zero _),HB0⟩
 case round =>
  obtain ⟨k,rfl,hk,hall,hb⟩:=hrel
  by_cases hlt : k < l.length
  ·obtain ⟨ad,A2,c2,e',hc0,hc1,hc2,hl2,hC2⟩:=atUpload HR.out hb.out k hlt
   subst e'
   have Hwh4:=zh (keepc hb.out Hh4.out)
   have HC:=zh (updB.walk l[k] A2 c2 last g wr Hwh4.out)
   have HCC2:=zh hC2;clear hC2
   cases hp : (updB last) l[k]
   ·have hn : Hid (∀ j (hj : j < k + 1) (hl : j < l.length),(updB last) l[j] = false):=fun j hj hl=>by
     rcases Nat.eq_or_lt_of_le (Nat.le_of_lt_succ hj) with rfl | h
     ·exact hp
     ·exact hall.out j h hl
    rw [hp] at HC
    clear hp
    go_wp2_with (go_at_call 73;refine HC.out.mono ?_;rintro e w1 ⟨rfl,hb1⟩;have HB1:=zh hb1;clear hb1)
    go_roundw
    case rel=>exact ⟨k + 1,by go_num,by omega,hn,keepB hb HB1.out⟩
    case measure=>simp [intOf];omega
   ·have hn : Hid (l.findIdx? (updB last) = some k):=by
     unfold Hid
     rw [List.findIdx?_eq_some_iff_getElem]
     exact ⟨hlt,hp,fun j hj=>by rw [hall.out j hj (by omega)];simp⟩
    rw [hp] at HC
    clear hp
    go_wp2_with (go_at_call 73;refine HC.out.mono ?_;rintro e w1 ⟨rfl,hb1⟩;have HB1:=zh hb1;clear hb1)
    go_ret
    exact ⟨by rw [hn.out];rfl,keepB hb HB1.out⟩
  ·have hn : Hid (l.findIdx? (updB last) = none):=by
    unfold Hid
    rw [List.findIdx?_eq_none_iff]
    intro u hu
    obtain ⟨j,hj,rfl⟩:=List.getElem_of_mem hu
    exact hall.out j (by omega) hj
   go_wp2
   go_ret
   exact ⟨by rw [hn.out];rfl,hb.out⟩
theorem cont_upd.walk (A : Option Addr) (c : Nat) (l : List S101) (last : Int) (g : Nat) (w : World) (hr : Kd.C k101 w A l.length l) (h4 : w.cell? ⟨g,4,none⟩ = some (.int .u64 last)) :
  Calls Tryz.prog 72 #[.slice A l.length c,.func (.func 73) #[] #[.pointer (some ⟨g,0,none⟩)]] w fun e w'=>e = .returned (.bool (l.any (updB last))) ∧ Below w.heap.size w w':=by
 have H:=zh (idx_upd.walk A c l last g w hr h4)
 clear hr h4
 have HA:=zh (pos_any l (updB last))
 generalize posI (l.findIdx? (updB last)) = r at H HA
 generalize l.any (updB last) = q at HA ⊢
 go_enter Tryz.func72,Tryz.ntmps72
 go_wp2_with (go_at_call 129;refine H.out.mono ?_;rintro e w1 ⟨rfl,hb⟩;have HB:=zh hb;clear hb)
 go_ret
 refine ⟨?_,HB.out⟩
 show Ending.returned (.bool (decide (0 ≤ r))) = _
 rw [HA.out]
end
section
open Go.WideMaps Go.Maps
def headB (b : S26) : Bool:=bnameB b.f0 && (decide (0 ≤ b.f1) && (decide (b.f1 ≤ 2) && decide (b.f4 ≤ 281474976710655)))
def nearB (last st : Int) (x : S56) : Bool:=!(x.f1.any (farB last st))
def bucketB (b : S26) : Bool:=headB b && (indexB b.f2 && (checkB b.f3 && (decide (octB b.f2 b.f3 ≤ 20000) && (b.f2.all (nearB b.f4 b.f1) && !(b.f3.any (updB b.f4))))))
theorem bucket.walk (b : S26) (A2 A3 : Option Addr) (c2 c3 : Nat) (w : World) (h2 : Kd.C k56 w A2 b.f2.length b.f2) (g2 : b.f2.length ≤ c2) (h3 : Kd.C k101 w A3 b.f3.length b.f3) (g3 : b.f3.length ≤ c3) :
  Calls Tryz.prog 25 #[.agg #[.string b.f0,.int .i64 b.f1,.slice A2 b.f2.length c2,.slice A3 b.f3.length c3,.int .u64 b.f4]] w fun e w'=>e = .returned (.int .i64 (errB (bucketB b))) ∧ Below w.heap.size w w':=by
 have T1 : True:=trivial
 have T2 : True:=trivial
 have T3 : True:=trivial
 have T4 : True:=trivial
 have T5 : True:=trivial
 have HB0:=zh ((Below.refl w.heap.size w).alloc (Nat.le_refl _) (.cells #[.string b.f0,.int .i64 b.f1,.slice A2 b.f2.length c2,.slice A3 b.f3.length c3,.int .u64 b.f4] 26))
 have K0:=zh (blk_new w (.cells #[.string b.f0,.int .i64 b.f1,.slice A2 b.f2.length c2,.slice A3 b.f3.length c3,.int .u64 b.f4] 26))
 have HI:=zh (fun (W : World) (h : Below w.heap.size w W)=>index.walk A2 c2 b.f2 W (Kd.C_below h2 h))
 have HP:=zh (fun (W : World) (h : Below w.heap.size w W)=>check_calls (w:=W) (c:=c3) (Kd.C_below h3 h) g3)
 have H2:=zh h2
 have H3:=zh h3
 have hlen : (b.f2.length : Int) ≤ 9223372036854775807:=by have:=h2.2.1;omega
 clear h2 h3
 cases q1 : bnameB b.f0
 ·have HNM:=zh (fun W=>bname.walk b.f0 W)
  rw [q1] at HNM
  have HE : Hid (bucketB b = false):=by unfold Hid bucketB headB;simp [q1]
  clear q1
  go_enter Tryz.func25,Tryz.ntmps25
  go_wp2_with (first | (go_at_call 66;clear T1;refine (HNM.out _).mono ?_;rintro e w1 ⟨rfl,hb⟩;have HB1:=keepB HB0 hb;have K1:=zk K0 hb;clear hb;have d1_0:=zj K1 0;have d1_1:=zj K1 1;have d1_2:=zj K1 2;have d1_3:=zj K1 3;have d1_4:=zj K1 4))
  go_loopw [3,46] (fun ok i wr=>ok = .bool false ∧ ∃ (k : Nat),i = .int .i64 k ∧ k ≤ b.f2.length ∧ Hid (wr.heap[w.heap.size]? = some (.cells #[.string b.f0,.int .i64 b.f1,.slice A2 b.f2.length c2,.slice A3 b.f3.length c3,.int .u64 b.f4] 26 (0,0))) ∧ Hid (Below w.heap.size w wr)) (fun _ i _=>b.f2.length - (intOf i).toNat)
  case atStart=>exact ⟨rfl,0,rfl,Nat.zero_le _,K1,HB1⟩
  case round =>
   obtain ⟨rfl,k,rfl,hk,hkb,hb⟩:=hrel
   have dx_0:=zj hkb 0;have dx_1:=zj hkb 1;have dx_2:=zj hkb 2;have dx_3:=zj hkb 3;have dx_4:=zj hkb 4
   by_cases hlt : k < b.f2.length
   ·obtain ⟨ad,A1,c1,e',hc0,hc1,hl1,hC1⟩:=atEntry H2.out hb.out k hlt
    subst e'
    have HC1:=zh hC1;clear hC1
    go_wp2
    go_roundw
    case rel=>exact ⟨rfl,k + 1,by go_num,by omega,blk_alloc hkb.out _,hb.out.alloc hb.out.size _⟩
    case measure=>simp [intOf];omega
   ·go_wp2
    go_ret
    exact ⟨by rw [HE.out];rfl,hb.out⟩
 ·have HNM:=zh (fun W=>bname.walk b.f0 W)
  rw [q1] at HNM
  by_cases p1 : 0 ≤ b.f1
  ·by_cases p2 : b.f1 ≤ 2
   ·by_cases p3 : b.f4 ≤ 281474976710655
    ·cases q2 : indexB b.f2
     ·rw [q2] at HI
      rw [show errB false = 1 from rfl] at HI
      have HE : Hid (bucketB b = false):=by unfold Hid bucketB headB;simp [q1,p1,p2,p3,q2]
      clear q2 q1
      go_enter Tryz.func25,Tryz.ntmps25
      go_wp2_with (first | (go_at_call 66;clear T1;refine (HNM.out _).mono ?_;rintro e w1 ⟨rfl,hb⟩;have HB1:=keepB HB0 hb;have K1:=zk K0 hb;clear hb;have d1_0:=zj K1 0;have d1_1:=zj K1 1;have d1_2:=zj K1 2;have d1_3:=zj K1 3;have d1_4:=zj K1 4) | (go_at_call 67;clear T2;refine (HI.out _ HB1.out).mono ?_;rintro e w2 ⟨rfl,hb⟩;have HB2:=keepB HB1 hb;have K2:=zk K1 hb;clear hb;have d2_0:=zj K2 0;have d2_1:=zj K2 1;have d2_2:=zj K2 2;have d2_3:=zj K2 3;have d2_4:=zj K2 4))
      go_loopw [3,46] (fun ok i wr=>ok = .bool false ∧ ∃ (k : Nat),i = .int .i64 k ∧ k ≤ b.f2.length ∧ Hid (wr.heap[w.heap.size]? = some (.cells #[.string b.f0,.int .i64 b.f1,.slice A2 b.f2.length c2,.slice A3 b.f3.length c3,.int .u64 b.f4] 26 (0,0))) ∧ Hid (Below w.heap.size w wr)) (fun _ i _=>b.f2.length - (intOf i).toNat)
      case atStart=>exact ⟨rfl,0,rfl,Nat.zero_le _,K2,HB2⟩
      case round =>
       obtain ⟨rfl,k,rfl,hk,hkb,hb⟩:=hrel
       have dx_0:=zj hkb 0;have dx_1:=zj hkb 1;have dx_2:=zj hkb 2;have dx_3:=zj hkb 3;have dx_4:=zj hkb 4
       by_cases hlt : k < b.f2.length
       ·obtain ⟨ad,A1,c1,e',hc0,hc1,hl1,hC1⟩:=atEntry H2.out hb.out k hlt
        subst e'
        have HC1:=zh hC1;clear hC1
        go_wp2
        go_roundw
        case rel=>exact ⟨rfl,k + 1,by go_num,by omega,blk_alloc hkb.out _,hb.out.alloc hb.out.size _⟩
        case measure=>simp [intOf];omega
       ·go_wp2
        go_ret
        exact ⟨by rw [HE.out];rfl,hb.out⟩
     ·rw [q2] at HI
      rw [show errB true = 0 from rfl] at HI
      cases q3 : checkB b.f3
      ·rw [q3] at HP
       rw [show errB false = 1 from rfl] at HP
       have HE : Hid (bucketB b = false):=by unfold Hid bucketB headB;simp [q1,p1,p2,p3,q2,q3]
       clear q3 q2 q1
       go_enter Tryz.func25,Tryz.ntmps25
       go_wp2_with (first | (go_at_call 66;clear T1;refine (HNM.out _).mono ?_;rintro e w1 ⟨rfl,hb⟩;have HB1:=keepB HB0 hb;have K1:=zk K0 hb;clear hb;have d1_0:=zj K1 0;have d1_1:=zj K1 1;have d1_2:=zj K1 2;have d1_3:=zj K1 3;have d1_4:=zj K1 4) | (go_at_call 67;clear T2;refine (HI.out _ HB1.out).mono ?_;rintro e w2 ⟨rfl,hb⟩;have HB2:=keepB HB1 hb;have K2:=zk K1 hb;clear hb;have d2_0:=zj K2 0;have d2_1:=zj K2 1;have d2_2:=zj K2 2;have d2_3:=zj K2 3;have d2_4:=zj K2 4) | (go_at_call 68;clear T3;refine (HP.out _ HB2.out).mono ?_;rintro e w3 ⟨rfl,hb⟩;have HB3:=keepB HB2 hb;have K3:=zk K2 hb;clear hb;have d3_0:=zj K3 0;have d3_1:=zj K3 1;have d3_2:=zj K3 2;have d3_3:=zj K3 3;have d3_4:=zj K3 4))
       go_loopw [3,46] (fun ok i wr=>ok = .bool false ∧ ∃ (k : Nat),i = .int .i64 k ∧ k ≤ b.f2.length ∧ Hid (wr.heap[w.heap.size]? = some (.cells #[.string b.f0,.int .i64 b.f1,.slice A2 b.f2.length c2,.slice A3 b.f3.length c3,.int .u64 b.f4] 26 (0,0))) ∧ Hid (Below w.heap.size w wr)) (fun _ i _=>b.f2.length - (intOf i).toNat)
       case atStart=>exact ⟨rfl,0,rfl,Nat.zero_le _,K3,HB3⟩
       case round =>
        obtain ⟨rfl,k,rfl,hk,hkb,hb⟩:=hrel
        have dx_0:=zj hkb 0;have dx_1:=zj hkb 1;have dx_2:=zj hkb 2;have dx_3:=zj hkb 3;have dx_4:=zj hkb 4
        by_cases hlt : k < b.f2.length
        ·obtain ⟨ad,A1,c1,e',hc0,hc1,hl1,hC1⟩:=atEntry H2.out hb.out k hlt
         subst e'
         have HC1:=zh hC1;clear hC1
         go_wp2
         go_roundw
         case rel=>exact ⟨rfl,k + 1,by go_num,by omega,blk_alloc hkb.out _,hb.out.alloc hb.out.size _⟩
         case measure=>simp [intOf];omega
        ·go_wp2
         go_ret
         exact ⟨by rw [HE.out];rfl,hb.out⟩
      ·rw [q3] at HP
       rw [show errB true = 0 from rfl] at HP
       have HO:=zh (fun (W : World) (h : Below w.heap.size w W)=>octets_calls (w:=W) b.f0 b.f1 b.f2 b.f3 b.f4 (Kd.C_below H2.out h) g2 (Kd.C_below H3.out h) g3 q2 q3)
       by_cases p4 : octB b.f2 b.f3 ≤ 20000
       ·have HEX : Hid (bucketB b = (b.f2.all (nearB b.f4 b.f1) && !(b.f3.any (updB b.f4)))):=by unfold Hid bucketB headB;simp [q1,p1,p2,p3,q2,q3,p4]
        have d4x : decide (octB b.f2 b.f3 ≤ 20000) = true:=decide_eq_true p4
        clear q3 q2 q1
        generalize octB b.f2 b.f3 = oc at *
        go_enter Tryz.func25,Tryz.ntmps25
        go_wp2_with (first | (go_at_call 66;clear T1;refine (HNM.out _).mono ?_;rintro e w1 ⟨rfl,hb⟩;have HB1:=keepB HB0 hb;have K1:=zk K0 hb;clear hb;have d1_0:=zj K1 0;have d1_1:=zj K1 1;have d1_2:=zj K1 2;have d1_3:=zj K1 3;have d1_4:=zj K1 4) | (go_at_call 67;clear T2;refine (HI.out _ HB1.out).mono ?_;rintro e w2 ⟨rfl,hb⟩;have HB2:=keepB HB1 hb;have K2:=zk K1 hb;clear hb;have d2_0:=zj K2 0;have d2_1:=zj K2 1;have d2_2:=zj K2 2;have d2_3:=zj K2 3;have d2_4:=zj K2 4) | (go_at_call 68;clear T3;refine (HP.out _ HB2.out).mono ?_;rintro e w3 ⟨rfl,hb⟩;have HB3:=keepB HB2 hb;have K3:=zk K2 hb;clear hb;have d3_0:=zj K3 0;have d3_1:=zj K3 1;have d3_2:=zj K3 2;have d3_3:=zj K3 3;have d3_4:=zj K3 4) | (go_at_call 69;clear T4;refine (HO.out _ HB3.out).mono ?_;rintro e w4 ⟨rfl,hb⟩;have HB4:=keepB HB3 hb;have K4:=zk K3 hb;clear hb;have d4_0:=zj K4 0;have d4_1:=zj K4 1;have d4_2:=zj K4 2;have d4_3:=zj K4 3;have d4_4:=zj K4 4))
        go_loopw [3,46] (fun ok i wr=>∃ q : Bool,ok = .bool q ∧ ∃ (k : Nat),i = .int .i64 k ∧ k ≤ b.f2.length ∧ Hid (q = (b.f2.take k).all (nearB b.f4 b.f1)) ∧ Hid (wr.heap[w.heap.size]? = some (.cells #[.string b.f0,.int .i64 b.f1,.slice A2 b.f2.length c2,.slice A3 b.f3.length c3,.int .u64 b.f4] 26 (0,0))) ∧ Hid (Below w.heap.size w wr)) (fun _ i _=>b.f2.length - (intOf i).toNat)
        case atStart=>exact ⟨true,rfl,0,rfl,Nat.zero_le _,rfl,K4,HB4⟩
        case round =>
         obtain ⟨q,rfl,k,rfl,hk,hq,hkb,hb⟩:=hrel
         have dx_0:=zj hkb 0;have dx_1:=zj hkb 1;have dx_2:=zj hkb 2;have dx_3:=zj hkb 3;have dx_4:=zj hkb 4
         by_cases hlt : k < b.f2.length
         ·obtain ⟨ad,A1,c1,e',hc0,hc1,hl1,hC1⟩:=atEntry H2.out hb.out k hlt
          subst e'
          have hz : (b.f2.take (k + 1)).all (nearB b.f4 b.f1) = ((b.f2.take k).all (nearB b.f4 b.f1) && nearB b.f4 b.f1 b.f2[k]):=by
           rw [List.take_succ_eq_append_getElem hlt,List.all_append];simp
          have HZ:=zh hz;clear hz
          have gne : wr.heap.size ≠ w.heap.size:=by have:=blk_lt hkb.out;omega
          have HF:=zh (fun (W : World) (h : Below wr.heap.size wr W)=>cont_far.walk A1 c1 b.f2[k].f1 b.f4 b.f1 w.heap.size W (Kd.C_below hC1 h) (keepc h dx_4) (keepc h dx_1))
          clear hC1
          cases q
          ·have HN : Hid (false = (b.f2.take (k + 1)).all (nearB b.f4 b.f1)):=by unfold Hid;rw [HZ.out,← hq.out];rfl
           clear HF HZ
           go_wp2
           go_roundw
           case rel=>exact ⟨false,rfl,k + 1,by go_num,by omega,HN,blk_alloc hkb.out _,hb.out.alloc hb.out.size _⟩
           case measure=>simp [intOf];omega
          ·have HN : Hid ((!(b.f2[k].f1.any (farB b.f4 b.f1))) = (b.f2.take (k + 1)).all (nearB b.f4 b.f1)):=by unfold Hid;rw [HZ.out,← hq.out];rfl
           clear HZ
           generalize b.f2[k].f1.any (farB b.f4 b.f1) = qq at HF HN
           generalize b.f2[k] = x at *
           go_wp2_with (go_at_call 71;refine (HF.out _ ((Below.refl _ _).alloc (Nat.le_refl _) _)).mono ?_;rintro e wz ⟨rfl,hbz⟩;have HBZ:=zh hbz;clear hbz)
           go_roundw
           case rel=>exact ⟨!qq,rfl,k + 1,by go_num,by omega,HN,zh (blk_below (blk_alloc hkb.out _) HBZ.out),(hb.out.alloc hb.out.size _).trans (HBZ.out.mono (by have:=hb.out.size;simp;omega))⟩
           case measure=>simp [intOf];omega
         ·have hq2 : q = b.f2.all (nearB b.f4 b.f1):=by have:=hq.out;rwa [List.take_of_length_le (by omega)] at this
          cases q
          ·have HE : Hid (bucketB b = false):=by unfold Hid;rw [HEX.out,← hq2];rfl
           clear hq2 hq
           go_wp2
           go_ret
           exact ⟨by rw [HE.out];rfl,hb.out⟩
          ·have HE : Hid (bucketB b = !(b.f3.any (updB b.f4))):=by unfold Hid;rw [HEX.out,← hq2];rfl
           clear hq2 hq
           have HU:=zh (cont_upd.walk A3 c3 b.f3 b.f4 w.heap.size wr (Kd.C_below H3.out hb.out) dx_4)
           cases hu : b.f3.any (updB b.f4)
           all_goals
            rw [hu] at HE HU
            clear hu
            go_wp2_with (go_at_call 72;refine HU.out.mono ?_;rintro e wz ⟨rfl,hbz⟩;have HBZ:=zh hbz;clear hbz)
            go_ret
            exact ⟨by rw [HE.out];rfl,keepB hb HBZ.out⟩
       ·skip
        have HE : Hid (bucketB b = false):=by unfold Hid bucketB headB;simp [q1,p1,p2,p3,q2,q3,p4]
        clear q3 q2 q1
        have d4x : decide (octB b.f2 b.f3 ≤ 20000) = false:=decide_eq_false p4
        generalize octB b.f2 b.f3 = oc at *
        go_enter Tryz.func25,Tryz.ntmps25
        go_wp2_with (first | (go_at_call 66;clear T1;refine (HNM.out _).mono ?_;rintro e w1 ⟨rfl,hb⟩;have HB1:=keepB HB0 hb;have K1:=zk K0 hb;clear hb;have d1_0:=zj K1 0;have d1_1:=zj K1 1;have d1_2:=zj K1 2;have d1_3:=zj K1 3;have d1_4:=zj K1 4) | (go_at_call 67;clear T2;refine (HI.out _ HB1.out).mono ?_;rintro e w2 ⟨rfl,hb⟩;have HB2:=keepB HB1 hb;have K2:=zk K1 hb;clear hb;have d2_0:=zj K2 0;have d2_1:=zj K2 1;have d2_2:=zj K2 2;have d2_3:=zj K2 3;have d2_4:=zj K2 4) | (go_at_call 68;clear T3;refine (HP.out _ HB2.out).mono ?_;rintro e w3 ⟨rfl,hb⟩;have HB3:=keepB HB2 hb;have K3:=zk K2 hb;clear hb;have d3_0:=zj K3 0;have d3_1:=zj K3 1;have d3_2:=zj K3 2;have d3_3:=zj K3 3;have d3_4:=zj K3 4) | (go_at_call 69;clear T4;refine (HO.out _ HB3.out).mono ?_;rintro e w4 ⟨rfl,hb⟩;have HB4:=keepB HB3 hb;have K4:=zk K3 hb;clear hb;have d4_0:=zj K4 0;have d4_1:=zj K4 1;have d4_2:=zj K4 2;have d4_3:=zj K4 3;have d4_4:=zj K4 4))
        go_loopw [3,46] (fun ok i wr=>ok = .bool false ∧ ∃ (k : Nat),i = .int .i64 k ∧ k ≤ b.f2.length ∧ Hid (wr.heap[w.heap.size]? = some (.cells #[.string b.f0,.int .i64 b.f1,.slice A2 b.f2.length c2,.slice A3 b.f3.length c3,.int .u64 b.f4] 26 (0,0))) ∧ Hid (Below w.heap.size w wr)) (fun _ i _=>b.f2.length - (intOf i).toNat)
        case atStart=>exact ⟨rfl,0,rfl,Nat.zero_le _,K4,HB4⟩
        case round =>
         obtain ⟨rfl,k,rfl,hk,hkb,hb⟩:=hrel
         have dx_0:=zj hkb 0;have dx_1:=zj hkb 1;have dx_2:=zj hkb 2;have dx_3:=zj hkb 3;have dx_4:=zj hkb 4
         by_cases hlt : k < b.f2.length
         ·obtain ⟨ad,A1,c1,e',hc0,hc1,hl1,hC1⟩:=atEntry H2.out hb.out k hlt
          subst e'
          have HC1:=zh hC1;clear hC1
          go_wp2
          go_roundw
          case rel=>exact ⟨rfl,k + 1,by go_num,by omega,blk_alloc hkb.out _,hb.out.alloc hb.out.size _⟩
          case measure=>simp [intOf];omega
         ·go_wp2
          go_ret
          exact ⟨by rw [HE.out];rfl,hb.out⟩
    ·skip
     have HE : Hid (bucketB b = false):=by unfold Hid bucketB headB;simp [q1,p1,p2,p3]
     clear q1
     go_enter Tryz.func25,Tryz.ntmps25
     go_wp2_with (first | (go_at_call 66;clear T1;refine (HNM.out _).mono ?_;rintro e w1 ⟨rfl,hb⟩;have HB1:=keepB HB0 hb;have K1:=zk K0 hb;clear hb;have d1_0:=zj K1 0;have d1_1:=zj K1 1;have d1_2:=zj K1 2;have d1_3:=zj K1 3;have d1_4:=zj K1 4))
     go_loopw [3,46] (fun ok i wr=>ok = .bool false ∧ ∃ (k : Nat),i = .int .i64 k ∧ k ≤ b.f2.length ∧ Hid (wr.heap[w.heap.size]? = some (.cells #[.string b.f0,.int .i64 b.f1,.slice A2 b.f2.length c2,.slice A3 b.f3.length c3,.int .u64 b.f4] 26 (0,0))) ∧ Hid (Below w.heap.size w wr)) (fun _ i _=>b.f2.length - (intOf i).toNat)
     case atStart=>exact ⟨rfl,0,rfl,Nat.zero_le _,K1,HB1⟩
     case round =>
      obtain ⟨rfl,k,rfl,hk,hkb,hb⟩:=hrel
      have dx_0:=zj hkb 0;have dx_1:=zj hkb 1;have dx_2:=zj hkb 2;have dx_3:=zj hkb 3;have dx_4:=zj hkb 4
      by_cases hlt : k < b.f2.length
      ·obtain ⟨ad,A1,c1,e',hc0,hc1,hl1,hC1⟩:=atEntry H2.out hb.out k hlt
       subst e'
       have HC1:=zh hC1;clear hC1
       go_wp2
       go_roundw
       case rel=>exact ⟨rfl,k + 1,by go_num,by omega,blk_alloc hkb.out _,hb.out.alloc hb.out.size _⟩
       case measure=>simp [intOf];omega
      ·go_wp2
       go_ret
       exact ⟨by rw [HE.out];rfl,hb.out⟩
   ·skip
    have HE : Hid (bucketB b = false):=by unfold Hid bucketB headB;simp [q1,p1,p2]
    clear q1
    go_enter Tryz.func25,Tryz.ntmps25
    go_wp2_with (first | (go_at_call 66;clear T1;refine (HNM.out _).mono ?_;rintro e w1 ⟨rfl,hb⟩;have HB1:=keepB HB0 hb;have K1:=zk K0 hb;clear hb;have d1_0:=zj K1 0;have d1_1:=zj K1 1;have d1_2:=zj K1 2;have d1_3:=zj K1 3;have d1_4:=zj K1 4))
    go_loopw [3,46] (fun ok i wr=>ok = .bool false ∧ ∃ (k : Nat),i = .int .i64 k ∧ k ≤ b.f2.length ∧ Hid (wr.heap[w.heap.size]? = some (.cells #[.string b.f0,.int .i64 b.f1,.slice A2 b.f2.length c2,.slice A3 b.f3.length c3,.int .u64 b.f4] 26 (0,0))) ∧ Hid (Below w.heap.size w wr)) (fun _ i _=>b.f2.length - (intOf i).toNat)
    case atStart=>exact ⟨rfl,0,rfl,Nat.zero_le _,K1,HB1⟩
    case round =>
     obtain ⟨rfl,k,rfl,hk,hkb,hb⟩:=hrel
     have dx_0:=zj hkb 0;have dx_1:=zj hkb 1;have dx_2:=zj hkb 2;have dx_3:=zj hkb 3;have dx_4:=zj hkb 4
     by_cases hlt : k < b.f2.length
     ·obtain ⟨ad,A1,c1,e',hc0,hc1,hl1,hC1⟩:=atEntry H2.out hb.out k hlt
      subst e'
      have HC1:=zh hC1;clear hC1
      go_wp2
      go_roundw
      case rel=>exact ⟨rfl,k + 1,by go_num,by omega,blk_alloc hkb.out _,hb.out.alloc hb.out.size _⟩
      case measure=>simp [intOf];omega
     ·go_wp2
      go_ret
      exact ⟨by rw [HE.out];rfl,hb.out⟩
  ·skip
   have HE : Hid (bucketB b = false):=by unfold Hid bucketB headB;simp [q1,p1]
   clear q1
   go_enter Tryz.func25,Tryz.ntmps25
   go_wp2_with (first | (go_at_call 66;clear T1;refine (HNM.out _).mono ?_;rintro e w1 ⟨rfl,hb⟩;have HB1:=keepB HB0 hb;have K1:=zk K0 hb;clear hb;have d1_0:=zj K1 0;have d1_1:=zj K1 1;have d1_2:=zj K1 2;have d1_3:=zj K1 3;have d1_4:=zj K1 4))
   go_loopw [3,46] (fun ok i wr=>ok = .bool false ∧ ∃ (k : Nat),i = .int .i64 k ∧ k ≤ b.f2.length ∧ Hid (wr.heap[w.heap.size]? = some (.cells #[.string b.f0,.int .i64 b.f1,.slice A2 b.f2.length c2,.slice A3 b.f3.length c3,.int .u64 b.f4] 26 (0,0))) ∧ Hid (Below w.heap.size w wr)) (fun _ i _=>b.f2.length - (intOf i).toNat)
   case atStart=>exact ⟨rfl,0,rfl,Nat.zero_le _,K1,HB1⟩
   case round =>
    obtain ⟨rfl,k,rfl,hk,hkb,hb⟩:=hrel
    have dx_0:=zj hkb 0;have dx_1:=zj hkb 1;have dx_2:=zj hkb 2;have dx_3:=zj hkb 3;have dx_4:=zj hkb 4
    by_cases hlt : k < b.f2.length
    ·obtain ⟨ad,A1,c1,e',hc0,hc1,hl1,hC1⟩:=atEntry H2.out hb.out k hlt
     subst e'
     have HC1:=zh hC1;clear hC1
     go_wp2
     go_roundw
     case rel=>exact ⟨rfl,k + 1,by go_num,by omega,blk_alloc hkb.out _,hb.out.alloc hb.out.size _⟩
     case measure=>simp [intOf];omega
    ·go_wp2
     go_ret
     exact ⟨by rw [HE.out];rfl,hb.out⟩
end
section
theorem info36 : (Tryz.prog.info? 36).map (fun i=>(i.zero,i.size,i.bytes)) = some (some (.int .u32 0),1,4):=by kernel_rfl
structure S43 where
 f0 : Int
 f1 : Int
def z43 : S43:=⟨(0 : Int),(0 : Int)⟩
def k43 : Kd S43:=Kd.iso (Kd.pair (Kd.int .i64) (Kd.int .u32)) (fun x : S43=>(x.f0,x.f1))
theorem k43_open {w : World} {x : S43} {cs : List Value} (h : k43.K w x cs) : cs = [.int .i64 x.f0,.int .u32 x.f1]:=by
 obtain ⟨_,_,rfl,rfl,rfl⟩:=h
 exact rfl
theorem k43_mk (w : World) (x : S43)  : k43.K w x [.int .i64 x.f0,.int .u32 x.f1]:=⟨[.int .i64 x.f0],[.int .u32 x.f1],rfl,rfl,rfl⟩
def rd_T43 (xs : List S43) (i : Int) : S43:=xs.getD i.toNat z43
theorem at_T43 {w : World} {A : Option Addr} {n : Nat} {xs : List S43} (h : Kd.C k43 w A n xs) (i : Int) (h0 : 0 ≤ i) (h1 : i < n) : ∃ ad ,A = some ad ∧ w.cell? (ad.add (i.toNat * 2)) = some (.int .i64 (rd_T43 xs i).f0) ∧ w.cell? ⟨(ad.add (i.toNat * 2)).block,(ad.add (i.toNat * 2)).off + 1,none⟩ = some (.int .u32 (rd_T43 xs i).f1):=by
 obtain ⟨ad,c,e,_,hK,hc0⟩:=Kd.C_get h z43 i h0 h1
 have hc : ∀ j u,c[j]? = some u → w.cell? (ad.add (i.toNat * 2 + j)) = some u:=hc0
 obtain rfl:=k43_open hK
 exact ⟨ad,e,hc 0 _ rfl,by rw [← add_field _ _ 1 (by omega)];exact hc 1 _ rfl⟩
end
section
open Go.WideMaps Go.Maps
def isPiece (x : S43) (p : S40) : Bool:=decide (p.f0 = x.f0) && decide (tagOf p.f1 = x.f1)
theorem lacks1.walk (n m t : Int) (d : ByteArray) (hd : d.size ≤ 9223372036854775807) (b : Nat) (w : World) (h0 : w.cell? ⟨b,0,none⟩ = some (.int .i64 m)) (h1 : w.cell? ⟨b,1,none⟩ = some (.int .u32 t)) :
  Calls Tryz.prog 140 #[.agg #[.int .i64 n,.string d],.pointer (some ⟨b,0,none⟩)] w fun e w'=>e = .returned (.bool (isPiece ⟨m,t⟩ ⟨n,d⟩)) ∧ Below w.heap.size w w':=by
 have HB0 : Hid (Below w.heap.size w w):=Below.refl _ _
 have e0:=World.new_ne w _ h0
 have hlt:=World.block_lt_of_cell? w _ h0
 by_cases hn : n = m
 ·subst hn
  have HE : Hid (isPiece ⟨n,t⟩ ⟨n,d⟩ = (tagOf d == t)):=by unfold Hid isPiece;simp;rfl
  go_enter Tryz.func140,Tryz.ntmps140
  go_wp2
  go_region_held3 (fun w'=>w'.cell? ⟨b,1,none⟩ = some (.int .u32 t) ∧ w'.cell? ⟨b,0,none⟩ = some (.int .i64 n) ∧ w'.cell? ⟨w.heap.size,0,none⟩ = some (.int .i64 n) ∧ w'.cell? ⟨w.heap.size,1,none⟩ = some (.string d) ∧ Hid (Below w.heap.size w w')) (((try go_split_ands);refine ⟨?_,?_,?_,?_,?_⟩ <;> first | (refine keepc hb ?_;assumption) | (refine keepB ?_ hb;assumption) | assumption | (refine keepD ?_;assumption) | exact (HB0.out.alloc (Nat.le_refl _) _).drew | (go_keep;done)))
   (first | (go_at_call 93;refine (tag_Of.walk d hd _).mono ?_;rintro e w' ⟨rfl,hb⟩))
  all_goals ((try go_split_ands);go_wp2;go_ret;exact ⟨by rw [HE.out];rfl,outB (by assumption)⟩)
 ·have hn' : (n == m) = false:=beq_eq_false_iff_ne.2 hn
  have HE : Hid (isPiece ⟨m,t⟩ ⟨n,d⟩ = false):=by unfold Hid isPiece;simp [hn]
  go_enter Tryz.func140,Tryz.ntmps140
  go_wp2
  go_quiet (fail)
  go_wp2
  go_ret
  exact ⟨by rw [HE.out];rfl,(HB0.out.alloc (Nat.le_refl _) _).trans (below_drewN _ _ _)⟩
theorem rd40 (l : List S40) (k : Nat) (h : k < l.length) : rd_T40 l k = l[k]:=by unfold rd_T40;simp [List.getD_eq_getElem?_getD,h]
theorem at40 {w w1 : World} {A : Option Addr} {l : List S40} (hr : Kd.C k40 w A l.length l) (hb : Below w.heap.size w w1) (k : Nat) (h : k < l.length) :
  ∃ ad,A = some ad ∧ w1.cell? (ad.add (k * 2)) = some (.int .i64 l[k].f0) ∧ w1.cell? ⟨(ad.add (k * 2)).block,(ad.add (k * 2)).off + 1,none⟩ = some (.string l[k].f1):=by
 obtain ⟨ad,e,h0,h1⟩:=at_T40 hr k (by omega) (by omega)
 rw [Int.toNat_natCast,rd40 l k h] at h0 h1
 exact ⟨ad,e,keepc hb h0,keepc hb h1⟩
/-- slices.IndexFunc over parts, with the closure of lacks. -/
def hasPiece (x : S43) (l : List S40) : Bool:=l.any (isPiece x)
def FitsP (l : List S40) : Prop:=∀ p ∈ l,p.f1.size ≤ 9223372036854775807
theorem idx63.walk (A : Option Addr) (c : Nat) (l : List S40) (x : S43) (b : Nat) (w : World) (hr : Kd.C k40 w A l.length l) (hf : FitsP l) (h0 : w.cell? ⟨b,0,none⟩ = some (.int .i64 x.f0)) (h1 : w.cell? ⟨b,1,none⟩ = some (.int .u32 x.f1)) :
  Calls Tryz.prog 166 #[.slice A l.length c,.func (.func 140) #[] #[.pointer (some ⟨b,0,none⟩)]] w fun e w'=>(∃ r,e = .returned (.int .i64 r) ∧ ((0 ≤ r) ↔ hasPiece x l = true)) ∧ Below w.heap.size w w':=by
 have HR:=zh hr
 have hlen : (l.length : Int) ≤ 9223372036854775807:=by have:=hr.2.1;omega
 clear hr
 have HB0 : Hid (Below w.heap.size w w):=Below.refl _ _
 have H0:=zh h0;have H1:=zh h1;have HF:=zh hf;clear h0 h1 hf
 go_enter Tryz.func166,Tryz.ntmps166
 go_wp2
 go_loopw [5,8] (fun _ i wr=>∃ (k : Nat),i = .int .i64 k ∧ k ≤ l.length ∧ Hid ((l.take k).any (isPiece x) = false) ∧ Hid (Below w.heap.size w wr)) (fun _ i _=>l.length - (intOf i).toNat)
 case atStart=>exact ⟨0,rfl,Nat.zero_le _,by simp [Hid],HB0⟩
 case round =>
  obtain ⟨k,rfl,hk,hall,hb⟩:=hrel
  by_cases hlt : k < l.length
  ·obtain ⟨ad,e',hc0,hc1⟩:=at40 HR.out hb.out k hlt
   subst e'
   have HC:=zh (lacks1.walk l[k].f0 x.f0 x.f1 l[k].f1 (HF.out _ (List.getElem_mem hlt)) b wr (keepc hb.out H0.out) (keepc hb.out H1.out))
   have hal:=hall.out
   cases hp : isPiece x l[k]
   ·have hn : Hid ((l.take (k + 1)).any (isPiece x) = false):=by
     unfold Hid;rw [List.take_succ_eq_append_getElem hlt,List.any_append,hal];simp [hp]
    have hp2 : isPiece ⟨x.f0,x.f1⟩ ⟨l[k].f0,l[k].f1⟩ = false:=hp
    rw [hp2] at HC
    clear hp hp2 hal
    go_wp2_with (go_at_call 140;refine HC.out.mono ?_;rintro e w1 ⟨rfl,hb1⟩;have HB1:=zh hb1;clear hb1)
    go_roundw
    case rel=>exact ⟨k + 1,by go_num,by omega,hn,keepB hb HB1.out⟩
    case measure=>simp [intOf];omega
   ·have hn : Hid (hasPiece x l = true):=by
     unfold Hid hasPiece;rw [List.any_eq_true];exact ⟨l[k],List.getElem_mem hlt,hp⟩
    have hp2 : isPiece ⟨x.f0,x.f1⟩ ⟨l[k].f0,l[k].f1⟩ = true:=hp
    rw [hp2] at HC
    clear hp hp2 hal
    go_wp2_with (go_at_call 140;refine HC.out.mono ?_;rintro e w1 ⟨rfl,hb1⟩;have HB1:=zh hb1;clear hb1)
    go_ret
    exact ⟨⟨k,rfl,by simp [hn.out]⟩,keepB hb HB1.out⟩
  ·have hn : Hid (hasPiece x l = false):=by
    have:=hall.out;rw [List.take_of_length_le (by omega)] at this;exact this
   go_wp2
   go_ret
   exact ⟨⟨-1,rfl,by simp [hn.out]⟩,hb.out⟩
theorem cont45.walk (A : Option Addr) (c : Nat) (l : List S40) (x : S43) (b : Nat) (w : World) (hr : Kd.C k40 w A l.length l) (hf : FitsP l) (h0 : w.cell? ⟨b,0,none⟩ = some (.int .i64 x.f0)) (h1 : w.cell? ⟨b,1,none⟩ = some (.int .u32 x.f1)) :
  Calls Tryz.prog 139 #[.slice A l.length c,.func (.func 140) #[] #[.pointer (some ⟨b,0,none⟩)]] w fun e w'=>e = .returned (.bool (hasPiece x l)) ∧ Below w.heap.size w w':=by
 have H:=zh (idx63.walk A c l x b w hr hf h0 h1)
 clear hr hf h0 h1
 go_enter Tryz.func139,Tryz.ntmps139
 go_wp2_with (go_at_call 166;refine H.out.mono ?_;rintro e w1 ⟨⟨r,rfl,hr⟩,hb⟩;have HB:=zh hb;have HR:=zh hr;clear hb hr)
 go_ret
 refine ⟨?_,HB.out⟩
 show Ending.returned (.bool (decide (0 ≤ r))) = _
 congr 2
 have:=HR.out
 cases h : hasPiece x l <;> simp_all
theorem lacks.walk (i : Int) (key : ByteArray) (A : Option Addr) (c : Nat) (l : List S40) (x : S43) (w : World) (hr : Kd.C k40 w A l.length l) (hf : FitsP l) :
  Calls Tryz.prog 96 #[.agg #[.int .u64 i,.string key,.slice A l.length c],.agg #[.int .i64 x.f0,.int .u32 x.f1]] w fun e w'=>e = .returned (.bool (!hasPiece x l)) ∧ Below w.heap.size w w':=by
 have HB1:=(Below.refl w.heap.size w).alloc (Nat.le_refl _) (.cells #[.int .u64 i,.string key,.slice A l.length c] 153)
 have HB2:=zh (HB1.alloc (by simp) (.cells #[.int .i64 x.f0,.int .u32 x.f1] 43))
 have H:=zh (cont45.walk A c l x (w.heap.size + 1) ((w.alloc (.cells #[.int .u64 i,.string key,.slice A l.length c] 153)).alloc (.cells #[.int .i64 x.f0,.int .u32 x.f1] 43)) (Kd.C_below hr HB2.out) hf (by simp [go_sem]) (by simp [go_sem]))
 clear HB1 hr hf
 go_enter Tryz.func96,Tryz.ntmps96
 go_wp2_with (go_at_call 139;refine H.out.mono ?_;rintro e w1 ⟨rfl,hb⟩;have HB:=zh hb;clear hb)
 go_ret
 exact ⟨rfl,keepB HB2 HB.out⟩
end
section
open Go.WideMaps Go.Maps
/-- All blocks of types that are not on the list are as they were. -/
def KT (ts : List TypeId) (w w' : World) : Prop:=∀ (k : Nat) (cs : Array Value) (t : TypeId) (fr : Nat × Nat),w.heap[k]? = some (Obj.cells cs t fr) → t ∉ ts → w'.heap[k]? = some (Obj.cells cs t fr)
theorem KT.refl (ts : List TypeId) (w : World) : KT ts w w:=fun _ _ _ _ h _=>h
theorem KT.trans {ts : List TypeId} {a b c : World} (h : KT ts a b) (k : KT ts b c) : KT ts a c:=fun i cs t fr hi ht=>k i cs t fr (h i cs t fr hi ht) ht
theorem KT.mono {ts ts' : List TypeId} {a b : World} (h : KT ts a b) (hs : ∀ t,t ∈ ts → t ∈ ts') : KT ts' a b:=fun i cs t fr hi ht=>h i cs t fr hi (fun m=>ht (hs t m))
theorem KT.below {ts : List TypeId} {a b : World} (h : Below a.heap.size a b) : KT ts a b:=fun i cs t fr hi _=>(h.block i (blk_lt hi)).trans hi
theorem KT.alloc {ts : List TypeId} {a b : World} (h : KT ts a b) (o : Obj) : KT ts a (b.alloc o):=fun i cs t fr hi ht=>blk_alloc (h i cs t fr hi ht) o
theorem KT.drew {ts : List TypeId} {a b : World} (h : KT ts a b) : KT ts a b.drew:=h
theorem KT.set {ts : List TypeId} {a b : World} (h : KT ts a b) {g : Nat} {cs : Array Value} {t : TypeId} (hb : b.heap[g]? = some (.cells cs t (0,0))) (ht : t ∈ ts) (j : Nat) (v : Value) : KT ts a (b.setCell ⟨g,j,none⟩ v) :=
 fun i cs' t' fr hi ht'=>by
  have hne : i ≠ g:=fun e=>by
   subst e
   have:=(h i cs' t' fr hi ht').symm.trans hb
   injection this with this;injection this with _ e2 _
   exact ht' (e2 ▸ ht)
  exact (Below.heap_setCell _ _ _ _ hne).trans (h i cs' t' fr hi ht')
theorem KT.grown {ts : List TypeId} {a b c : World} (h : KT ts a b) {e : TypeId} {base sz n : Nat} {v : Value} {xs : List Value} (ho : b.ownsRow base e sz v n xs) (hg : b.grownBy c v.ownBlock) (ht : e ∈ ts) : KT ts a c :=
 fun i cs' t' fr hi ht'=>by
  have hb:=h i cs' t' fr hi ht'
  refine (hg.block i (blk_lt hb) (fun e1=>?_)).trans hb
  obtain ⟨cells,hc⟩:=own_typed ho i e1.symm
  rw [hb] at hc
  injection hc with hc;injection hc with _ e2 _
  exact ht' (e2 ▸ ht)
theorem KT.blk {ts : List TypeId} {a b : World} (h : KT ts a b) {g : Nat} {cs : Array Value} {t : TypeId} {fr : Nat × Nat} (hb : a.heap[g]? = some (.cells cs t fr)) (ht : t ∉ ts) : b.heap[g]? = some (.cells cs t fr):=h g cs t fr hb ht
theorem KT.own {ts : List TypeId} {a b : World} (h : KT ts a b) (hs : a.heap.size ≤ b.heap.size) {e : TypeId} {base sz n : Nat} {v : Value} {xs : List Value} (ho : a.ownsRow base e sz v n xs) (ht : e ∉ ts) : b.ownsRow base e sz v n xs :=
 own_move ho (fun k hk=>by
  obtain ⟨cells,hc⟩:=own_typed ho k hk
  rw [hc];exact h k _ _ _ hc ht)
theorem KT.builder {ts : List TypeId} {a b : World} (h : KT ts a b) (hs : a.heap.size ≤ b.heap.size) {B n : Nat} {p : Value} {bs : List Value} (ho : Lib.BuilderAt 159 5 B n p bs a) (h1 : 159 ∉ ts) (h2 : 5 ∉ ts) : Lib.BuilderAt 159 5 B n p bs b:=by
 obtain ⟨hB,v,hb,hown,hne⟩:=ho
 exact ⟨hB,v,h.blk hb h1,h.own hs hown h2,hne⟩
theorem KT.isBuilder {ts : List TypeId} {a b : World} (h : KT ts a b) (hs : a.heap.size ≤ b.heap.size) {B n : Nat} {bs : List Value} (ho : Lib.IsBuilder 159 5 B n bs a) (h1 : 159 ∉ ts) (h2 : 5 ∉ ts) : Lib.IsBuilder 159 5 B n bs b:=by
 rcases ho with ho | ho
 ·exact Or.inl (h.builder hs ho h1 h2)
 ·exact Or.inr (h.builder hs ho h1 h2)
theorem bd_check2 (B b : Nat) (bs : List Value) (w : World) (h : Lib.IsBuilder 159 5 B b bs w) :
  Calls Tryz.prog 141 #[.pointer (some ⟨b,0,none⟩)] w fun e w'=>e = .returned (.tuple #[]) ∧ (Lib.BuilderAt 159 5 B b (.pointer (some ⟨b,0,none⟩)) bs w' ∧ Below B w w' ∧ KT [159,5] w w'):=by
 rcases h with h | h
 ·refine (bd_check_fresh b w h.cell0 h.shape h.frozen0).mono ?_
  rintro e w' ⟨rfl,rfl⟩
  obtain ⟨_,v,hb,_⟩:=id h
  exact ⟨rfl,h.used _,(Below.refl B w).setCell (p:=⟨b,0,none⟩) h.1 _,(KT.refl _ w).set hb (by simp) _ _⟩
 ·refine (bd_check_used b w h.cell0).mono ?_
  rintro e w' ⟨rfl,rfl⟩
  exact ⟨rfl,h,Below.refl B _,KT.refl _ _⟩
theorem bd_Write (B b : Nat) (bs : List Value) (s : ByteArray) (w : World) (h : Lib.IsBuilder 159 5 B b bs w) (hlen : bs.length + s.size ≤ 140737488355328) (hBw : B ≤ w.heap.size) :
  Calls Tryz.prog 98 #[.pointer (some ⟨b,0,none⟩),.string s] w fun e w'=>e = .returned (.tuple #[.int .i64 s.size,.nilIface]) ∧ (Lib.IsBuilder 159 5 B b (bs ++ Lib.strCells s) w' ∧ Below B w w' ∧ KT [159,5] w w'):=by
 obtain ⟨i0,hi,hz0,hz1,hz2⟩:=info_parts bd_info5
 go_enter Tryz.func98,Tryz.ntmps98
 go_wp2_with (go_at_call 141;refine (bd_check2 B b bs _ h).mono ?_)
 rintro e w1 ⟨rfl,h1,hb1,hk1⟩
 obtain ⟨hB,v,hbk,hown,hne⟩:=h1
 have HK1:=zh hk1;clear hk1
 have c0 : w1.cell? ⟨b,0,none⟩ = some (.pointer (some ⟨b,0,none⟩)):=by rw [Lib.cell_of_heap hbk];rfl
 have c1 : w1.cell? ⟨b,1,none⟩ = some v:=by rw [Lib.cell_of_heap hbk];rfl
 go_wp2_with (at_builtin;refine Lib.wpList_append_own_string _ rfl _ _ 157 9 rfl B 5 i0 Tryz.underlying157 Tryz.underlying9 hi hz0 hz1 hz2 _ _ _ rfl hown s rfl ?c3 ?c4 ?c5 ?_)
 case c3=>unfold maxLen;omega
 case c4=>omega
 case c5=>have:=hb1.size;omega
 intro v' w2 hown' hgrow _
 have hlt : b < w1.heap.size:=blk_lt hbk
 have hb2 : w2.heap[b]? = some (.cells #[.pointer (some ⟨b,0,none⟩),v] 159 (0,0)):=by
  rw [hgrow.block b hlt (fun e=>hne e.symm)]
  exact hbk
 have HK2:=zh (((HK1.out.grown hown hgrow (by simp)).set hb2 (by simp) 1 v'))
 have d0 : w2.cell? ⟨b,0,none⟩ = some (.pointer (some ⟨b,0,none⟩)):=by rw [Lib.cell_of_heap hb2];rfl
 have d1 : w2.cell? ⟨b,1,none⟩ = some v:=by rw [Lib.cell_of_heap hb2];rfl
 have f1 : w2.frozen? ⟨b,1,none⟩ = false:=Lib.frozen_of_heap hb2 1
 obtain ⟨ao,n',cap,rfl⟩ : ∃ ao n' cap,v' = .slice ao n' cap:=by
  rcases hown'.2 with ⟨hv,_⟩ | ⟨g,cap,cur,hv,_⟩
  ·exact ⟨_,_,_,hv⟩
  ·exact ⟨_,_,_,hv⟩
 go_wp2
 go_ret2
 refine ⟨rfl,?_,?_,HK2.out⟩
 ·exact Or.inr (Lib.BuilderAt.put (T:=159) (e:=5) hB hb2 (bs':=bs ++ Lib.strCells s) (by simpa [Lib.strCells_length] using hown') (by decide))
 ·exact (hb1.grown hgrow (by have:=hb1.size;omega) (fun k hk=>(hown.lt k hk).1)).setCell (p:=⟨b,1,none⟩) hB _
def dataOf (l : List S40) (n : Int) : ByteArray:=l.foldl (fun s p=>if p.f0 = n then p.f1 else s) ⟨#[]⟩
theorem data_calls {w : World} {A : Option Addr} {c : Nat} {l : List S40} (u : Int) (key : ByteArray) (n : Int) (hr : Kd.C k40 w A l.length l) (hc : l.length ≤ c) :
  Calls Tryz.prog 97 #[.agg #[.int .u64 u,.string key,.slice A l.length c],.int .i64 n] w fun e w'=>e = .returned (.string (dataOf l n)) ∧ Below w.heap.size w w':=by
 have HR:=zh hr
 have hlen : (l.length : Int) ≤ 9223372036854775807:=by have:=hr.2.1;omega
 clear hr
 have HB1:=zh ((Below.refl w.heap.size w).alloc (Nat.le_refl _) (.cells #[.int .u64 u,.string key,.slice A l.length c] 153))
 go_enter Tryz.func97,Tryz.ntmps97
 go_wp2
 go_loopw [5,7,11] (fun s _ i wr=>∃ (k : Nat) (q : ByteArray),i = .int .i64 k ∧ s = .string q ∧ k ≤ l.length ∧ Hid ((l.take k).foldl (fun s p=>if p.f0 = n then p.f1 else s) ⟨#[]⟩ = q) ∧ Hid (Below w.heap.size w wr)) (fun _ _ i _=>l.length - (intOf i).toNat)
 case atStart=>exact ⟨0,⟨#[]⟩,rfl,rfl,Nat.zero_le _,rfl,HB1⟩
 case round =>
  obtain ⟨k,q,rfl,rfl,hk,hq,hb⟩:=hrel
  by_cases hlt : k < l.length
  ·obtain ⟨ad,e',hc0,hc1⟩:=atPart HR.out hb.out k hlt
   subst e'
   have HFS : Hid ((l.take (k + 1)).foldl (fun s p=>if p.f0 = n then p.f1 else s) ⟨#[]⟩ = if l[k].f0 = n then l[k].f1 else q):=by
    unfold Hid;rw [List.take_succ_eq_append_getElem hlt,List.foldl_append,hq.out];rfl
   generalize l[k] = x at *
   have hlw:=World.block_lt_of_cell? wr _ hc0
   by_cases hp : x.f0 = n
   ·rw [if_pos hp] at HFS
    have d1 : (x.f0 == n) = true:=beq_iff_eq.2 hp
    clear hp
    go_wp2
    go_roundw
    case rel=>exact ⟨k + 1,_,by go_num,rfl,by omega,HFS,hb.out.alloc hb.out.size _⟩
    case measure=>simp [intOf];omega
   ·rw [if_neg hp] at HFS
    have d1 : (x.f0 == n) = false:=beq_eq_false_iff_ne.2 hp
    clear hp
    go_wp2
    go_roundw
    case rel=>exact ⟨k + 1,q,by go_num,rfl,by omega,HFS,hb.out.alloc hb.out.size _⟩
    case measure=>simp [intOf];omega
  ·obtain rfl : k = l.length:=by omega
   have hn : Hid (dataOf l n = q):=by have:=hq.out;rw [List.take_length] at this;exact this
   go_wp2
   go_ret
   exact ⟨by rw [hn.out];rfl,hb.out⟩
theorem dataOf_size (l : List S40) (n : Int) (M : Nat) (h : ∀ p ∈ l,p.f1.size ≤ M) : (dataOf l n).size ≤ M:=by
 unfold dataOf
 have : ∀ (l : List S40) (s : ByteArray),(∀ p ∈ l,p.f1.size ≤ M) → s.size ≤ M → (l.foldl (fun s p=>if p.f0 = n then p.f1 else s) s).size ≤ M:=by
  intro l
  induction l with
  | nil=>intro s _ hs;exact hs
  | cons p l ih =>
   intro s h hs
   rw [List.foldl_cons]
   refine ih _ (fun q hq=>h q (List.mem_cons_of_mem _ hq)) ?_
   split
   ·exact h p List.mem_cons_self
   ·exact hs
 exact this l _ h (Nat.zero_le _)
theorem fine_sizes {u : Int} {key : ByteArray} {l : List S40} (h : fineB u key l = true) : ∀ p ∈ l,p.f1.size ≤ 2000:=by
 unfold fineB at h
 simp only [Bool.and_eq_true] at h
 intro p hp
 obtain ⟨k,hk,rfl⟩:=List.getElem_of_mem hp
 have:=allFrom_at h.2.2.2 k (by omega) (by omega)
 unfold adjB mayB at this
 simp only [Bool.and_eq_true,decide_eq_true_eq] at this
 have:=this.1.2.2
 rwa [List.getD_eq_getElem?_getD,List.getElem?_eq_getElem hk] at this
end
section
open Go.WideMaps Go.Maps
theorem rd48 (l : List S43) (k : Nat) (h : k < l.length) : rd_T43 l k = l[k]:=by unfold rd_T43;simp [List.getD_eq_getElem?_getD,h]
theorem at48 {w w1 : World} {A : Option Addr} {l : List S43} (hr : Kd.C k43 w A l.length l) (hb : Below w.heap.size w w1) (k : Nat) (h : k < l.length) :
  ∃ ad,A = some ad ∧ w1.cell? (ad.add (k * 2)) = some (.int .i64 l[k].f0) ∧ w1.cell? ⟨(ad.add (k * 2)).block,(ad.add (k * 2)).off + 1,none⟩ = some (.int .u32 l[k].f1):=by
 obtain ⟨ad,e,h0,h1⟩:=at_T43 hr k (by omega) (by omega)
 rw [Int.toNat_natCast,rd48 l k h] at h0 h1
 exact ⟨ad,e,keepc hb h0,keepc hb h1⟩
def lackB (ps : List S40) (x : S43) : Bool:=!hasPiece x ps
theorem idx44.walk (A : Option Addr) (c : Nat) (l : List S43) (i : Int) (key : ByteArray) (A2 : Option Addr) (c2 : Nat) (ps : List S40) (w : World) (hr : Kd.C k43 w A l.length l) (hr2 : Kd.C k40 w A2 ps.length ps) (hf : FitsP ps) :
  Calls Tryz.prog 138 #[.slice A l.length c,.func (.func 96) #[.agg #[.int .u64 i,.string key,.slice A2 ps.length c2]] #[]] w fun e w'=>(∃ r,e = .returned (.int .i64 r) ∧ ((0 ≤ r) ↔ l.any (lackB ps) = true)) ∧ Below w.heap.size w w':=by
 have HR:=zh hr
 have HR2:=zh hr2
 have hlen : (l.length : Int) ≤ 9223372036854775807:=by have:=hr.2.1;omega
 clear hr hr2
 have HB0 : Hid (Below w.heap.size w w):=Below.refl _ _
 have HF:=zh hf;clear hf
 go_enter Tryz.func138,Tryz.ntmps138
 go_wp2
 go_loopw [5,8] (fun _ i wr=>∃ (k : Nat),i = .int .i64 k ∧ k ≤ l.length ∧ Hid ((l.take k).any (lackB ps) = false) ∧ Hid (Below w.heap.size w wr)) (fun _ i _=>l.length - (intOf i).toNat)
 case atStart=>exact ⟨0,rfl,Nat.zero_le _,by simp [Hid],HB0⟩
 case round =>
  obtain ⟨k,rfl,hk,hall,hb⟩:=hrel
  by_cases hlt : k < l.length
  ·obtain ⟨ad,e',hc0,hc1⟩:=at48 HR.out hb.out k hlt
   subst e'
   have HC:=zh (lacks.walk i key A2 c2 ps l[k] wr (Kd.C_below HR2.out hb.out) HF.out)
   have hal:=hall.out
   cases hp : hasPiece l[k] ps
   ·have hn : Hid (l.any (lackB ps) = true):=by
     unfold Hid;rw [List.any_eq_true];exact ⟨l[k],List.getElem_mem hlt,by simp [lackB,hp]⟩
    rw [hp] at HC
    clear hp hal
    go_wp2_with (go_at_call 96;refine HC.out.mono ?_;rintro e w1 ⟨rfl,hb1⟩;have HB1:=zh hb1;clear hb1)
    go_ret
    exact ⟨⟨k,rfl,by simp [hn.out]⟩,keepB hb HB1.out⟩
   ·have hn : Hid ((l.take (k + 1)).any (lackB ps) = false):=by
     unfold Hid;rw [List.take_succ_eq_append_getElem hlt,List.any_append,hal];simp [lackB,hp]
    rw [hp] at HC
    clear hp hal
    go_wp2_with (go_at_call 96;refine HC.out.mono ?_;rintro e w1 ⟨rfl,hb1⟩;have HB1:=zh hb1;clear hb1)
    go_roundw
    case rel=>exact ⟨k + 1,by go_num,by omega,hn,keepB hb HB1.out⟩
    case measure=>simp [intOf];omega
  ·have hn : Hid (l.any (lackB ps) = false):=by
    have:=hall.out;rw [List.take_of_length_le (by omega)] at this;exact this
   go_wp2
   go_ret
   exact ⟨⟨-1,rfl,by simp [hn.out]⟩,hb.out⟩
theorem cont23.walk (A : Option Addr) (c : Nat) (l : List S43) (i : Int) (key : ByteArray) (A2 : Option Addr) (c2 : Nat) (ps : List S40) (w : World) (hr : Kd.C k43 w A l.length l) (hr2 : Kd.C k40 w A2 ps.length ps) (hf : FitsP ps) :
  Calls Tryz.prog 95 #[.slice A l.length c,.func (.func 96) #[.agg #[.int .u64 i,.string key,.slice A2 ps.length c2]] #[]] w fun e w'=>e = .returned (.bool (l.any (lackB ps))) ∧ Below w.heap.size w w':=by
 have H:=zh (idx44.walk A c l i key A2 c2 ps w hr hr2 hf)
 clear hr hr2 hf
 go_enter Tryz.func95,Tryz.ntmps95
 go_wp2_with (go_at_call 138;refine H.out.mono ?_;rintro e w1 ⟨⟨r,rfl,hr⟩,hb⟩;have HB:=zh hb;have HR:=zh hr;clear hb hr)
 go_ret
 refine ⟨?_,HB.out⟩
 show Ending.returned (.bool (decide (0 ≤ r))) = _
 congr 2
 have:=HR.out
 cases h : l.any (lackB ps) <;> simp_all
end
section
open Go.WideMaps Go.Maps
def ordAt (l : List S43) (i : Nat) : Bool:=decide ((l.getD (i - 1) z43).f0 < (l.getD i z43).f0)
def ordB (l : List S43) : Bool:=allFrom (ordAt l) 1 (l.length - 1)
def longAt (ps : List S40) (l : List S43) (i : Nat) : Bool:=!(decide (i + 1 < l.length) && decide ((dataOf ps (l.getD i z43).f0).size < 5))
def longB (ps : List S40) (l : List S43) : Bool:=allFrom (longAt ps l) 0 l.length
def bytesFor (ps : List S40) (l : List S43) : List UInt8:=l.flatMap fun x=>(dataOf ps x.f0).data.toList
def tagsFor (l : List S43) : List Int:=l.map fun x=>x.f1
def noStr : ByteArray:=⟨#[]⟩
def wholeR (u : S101) (l : List S43) : ByteArray × ByteArray × Int :=
 if fineB u.f0 u.f1 u.f2 = false ∨ l.length = 0 then (noStr,noStr,1)
 else if ordB l = false then (noStr,noStr,9)
 else if l.any (lackB u.f2) = true then (noStr,noStr,4)
 else if longB u.f2 l = false then (noStr,noStr,3)
 else if 2000 < (bytesFor u.f2 l).length then (noStr,noStr,6)
 else (⟨(bytesFor u.f2 l).toArray⟩,manyText (tagsFor l),0)
def wholeV (r : ByteArray × ByteArray × Int) : Value:=.tuple #[.string r.1,.string r.2.1,.int .i64 r.2.2]
theorem ordAt_eq (l : List S43) (m : Nat) (h : m + 1 < l.length) : ordAt l (m + 1) = decide (l[m].f0 < l[m + 1].f0):=by
 unfold ordAt
 rw [Nat.add_sub_cancel,List.getD_eq_getElem?_getD,List.getD_eq_getElem?_getD,List.getElem?_eq_getElem (by omega),List.getElem?_eq_getElem h];rfl
theorem notOr {b : Bool} {n : Nat} (h : b = true) (hz : ¬ n = 0) : ¬ (b = false ∨ n = 0):=by
 intro h'
 rcases h' with h' | h'
 ·rw [h] at h';cases h'
 ·exact hz h'
theorem bytesFor_snoc (ps : List S40) (l : List S43) (k : Nat) (h : k < l.length) : Lib.byteCells (bytesFor ps (l.take (k + 1))) = Lib.byteCells (bytesFor ps (l.take k)) ++ Lib.strCells (dataOf ps l[k].f0):=by
 rw [Lib.strCells_eq,← Lib.byteCells_append,List.take_succ_eq_append_getElem h]
 unfold bytesFor
 rw [List.flatMap_append];simp
theorem tagsFor_snoc (l : List S43) (k : Nat) (h : k < l.length) : (tagsFor (l.take (k + 1))).map (Value.int .u32) = (tagsFor (l.take k)).map (Value.int .u32) ++ [.int .u32 l[k].f1]:=by
 rw [List.take_succ_eq_append_getElem h]
 unfold tagsFor
 rw [List.map_append,List.map_append];rfl
theorem bytesFor_len (ps : List S40) (l : List S43) (k : Nat) (h : ∀ p ∈ ps,p.f1.size ≤ 2000) (hk : k ≤ l.length) : (bytesFor ps (l.take k)).length ≤ 2000 * k:=by
 induction k with
 | zero=>simp [bytesFor]
 | succ k ih =>
  rw [List.take_succ_eq_append_getElem (by omega)]
  have h1:=ih (by omega)
  have h2:=dataOf_size ps (l[k]'(by omega)).f0 2000 h
  unfold bytesFor at h1 ⊢
  rw [List.flatMap_append,List.length_append]
  simp only [List.flatMap_cons,List.flatMap_nil,List.append_nil]
  have : (dataOf ps (l[k]'(by omega)).f0).data.toList.length = (dataOf ps (l[k]'(by omega)).f0).size:=by rw [Array.length_toList];rfl
  omega
theorem longAt_eq (ps : List S40) (l : List S43) (k : Nat) (h : k < l.length) : longAt ps l k = !(decide (k + 1 < l.length) && decide ((dataOf ps l[k].f0).size < 5)):=by
 unfold longAt
 rw [List.getD_eq_getElem?_getD,List.getElem?_eq_getElem h];rfl
theorem reps_int (k : IntKind) (w : World) (xs : List Int) : Reps ((Kd.int k).K w) 1 xs (xs.map (Value.int k)):=by
 refine ⟨by simp,fun j p h=>?_⟩
 rw [Nat.mul_one]
 obtain ⟨hj,rfl⟩:=List.getElem?_eq_some_iff.1 h
 show _ = [Value.int k xs[j]]
 rw [List.drop_eq_getElem_cons (by simpa using hj)]
 simp
theorem whole.walk (u : S101) (A2 : Option Addr) (c2 : Nat) (A : Option Addr) (c : Nat) (l : List S43) (w : World) (hl : l.length < 100)
  (hr2 : Kd.C k40 w A2 u.f2.length u.f2) (hc2 : u.f2.length ≤ c2) (hr : Kd.C k43 w A l.length l) :
  Calls Tryz.prog 46 #[.agg #[.int .u64 u.f0,.string u.f1,.slice A2 u.f2.length c2],.slice A l.length c] w fun e w'=>e = .returned (wholeV (wholeR u l)) ∧ Below w.heap.size w w':=by
 have HB0 : Hid (Below w.heap.size w w):=Below.refl _ _
 have HFN:=zh (fun (W : World) (hb : Below w.heap.size w W)=>fine_calls (w:=W) (A:=A2) (c:=c2) u.f0 u.f1 (Kd.C_below hr2 hb) hc2)
 have HR:=zh hr
 have HR2:=zh hr2
 clear hr hr2
 cases hfn : fineB u.f0 u.f1 u.f2
 ·have HE : Hid (wholeR u l = (noStr,noStr,1)):=by unfold Hid wholeR;rw [if_pos (Or.inl hfn)]
  rw [hfn] at HFN
  clear hfn
  go_enter Tryz.func46,Tryz.ntmps46
  go_wp2_with (go_at_call 94;refine (HFN.out _ ((HB0.out.alloc (Nat.le_refl _) _).alloc (by simp) _)).mono ?_;rintro e w1 ⟨rfl,hb1⟩;have HB1:=zh hb1;clear hb1)
  go_ret3
  exact ⟨by rw [HE.out];rfl,keepB ((HB0.out.alloc (Nat.le_refl _) _).alloc (by simp) _) HB1.out⟩
 rw [hfn] at HFN
 by_cases hz : l.length = 0
 ·have HE : Hid (wholeR u l = (noStr,noStr,1)):=by unfold Hid wholeR;rw [if_pos (Or.inr hz)]
  have hz' : ((l.length : Int) == 0) = true:=beq_iff_eq.2 (by omega)
  clear hfn hz
  go_enter Tryz.func46,Tryz.ntmps46
  go_wp2_with (go_at_call 94;refine (HFN.out _ ((HB0.out.alloc (Nat.le_refl _) _).alloc (by simp) _)).mono ?_;rintro e w1 ⟨rfl,hb1⟩;have HB1:=zh hb1;clear hb1)
  go_ret3
  exact ⟨by rw [HE.out];rfl,keepB ((HB0.out.alloc (Nat.le_refl _) _).alloc (by simp) _) HB1.out⟩
 have hz' : ((l.length : Int) == 0) = false:=beq_eq_false_iff_ne.2 (by omega)
 have HF2:=zh hfn
 clear hfn
 go_enter Tryz.func46,Tryz.ntmps46
 go_wp2_with (go_at_call 94;refine (HFN.out _ ((HB0.out.alloc (Nat.le_refl _) _).alloc (by simp) _)).mono ?_;rintro e w1 ⟨rfl,hb1⟩;have HBK:=zh (blk_below (blk_new (w.alloc _) _) hb1);have HB1:=keepB ((HB0.out.alloc (Nat.le_refl _) _).alloc (by simp) _) hb1;clear hb1)
 go_loopw [8] (fun i wr=>∃ m : Nat,i = .int .i64 ((m : Int) + 1) ∧ m + 1 ≤ l.length ∧ Hid (allFrom (ordAt l) 1 m = true) ∧ Hid (Below w.heap.size w wr) ∧ Hid (wr.heap[w.heap.size + 1]? = some (.cells #[.int .u64 u.f0,.string u.f1,.slice A2 u.f2.length c2] 153 (0,0)))) (fun i _=>l.length - (intOf i).toNat)
 case atStart=>exact ⟨0,rfl,by omega,rfl,HB1,by simpa using HBK⟩
 case round =>
  obtain ⟨m,rfl,hm,ho,hb,hbk⟩:=hrel
  by_cases hlt : m + 1 < l.length
  ·obtain ⟨ad,e',hc0,_⟩:=at48 HR.out hb.out m (by omega)
   obtain ⟨ad',e2,hc1,_⟩:=at48 HR.out hb.out (m + 1) hlt
   obtain rfl : ad = ad':=by rw [e'] at e2;injection e2
   subst e'
   clear e2
   by_cases ho2 : l[m].f0 < l[m + 1].f0
   ·have h1 : ordAt l (m + 1) = true:=by rw [ordAt_eq l m hlt];exact decide_eq_true ho2
    have HN : Hid (allFrom (ordAt l) 1 (m + 1) = true):=by
     unfold Hid
     rw [allFrom_snoc,ho.out,Nat.add_comm,h1];rfl
    have d1 : decide (l[m].f0 ≥ l[m + 1].f0) = false:=by simp;omega
    go_wp2
    go_quiet (fail)
    go_wp2
    go_roundw
    case rel=>exact ⟨m + 1,by go_num,by omega,HN,keepN hb _,hbk⟩
    case measure=>simp [intOf];omega
   ·have h1 : ordAt l (m + 1) = false:=by rw [ordAt_eq l m hlt];exact decide_eq_false ho2
    have HE : Hid (wholeR u l = (noStr,noStr,9)):=by
     unfold Hid wholeR
     have : ordB l = false:=by
      cases h : ordB l
      ·rfl
      ·unfold ordB at h
       have:=allFrom_at h (m + 1) (by omega) (by omega)
       rw [h1] at this;exact this.symm
     rw [if_neg (notOr HF2.out hz),if_pos this]
    have d1 : decide (l[m].f0 ≥ l[m + 1].f0) = true:=by simp;omega
    go_wp2
    go_quiet (fail)
    go_wp2
    go_ret3
    exact ⟨by rw [HE.out];rfl,keepN hb _⟩
  ·have HO : Hid (ordB l = true):=by
    have:=ho.out
    unfold Hid ordB
    rw [show l.length - 1 = m by omega];exact this
   obtain rfl : m = l.length - 1:=by omega
   have hcells : ∀ j v,(#[.int .u64 u.f0,.string u.f1,.slice A2 u.f2.length c2] : Array Value)[j]? = some v → wr.cell? ⟨w.heap.size + 1,j,none⟩ = some v:=fun j v h=>(blk_cell hbk.out j).trans h
   have k0:=hcells 0 _ rfl
   have k1:=hcells 1 _ rfl
   have k2:=hcells 2 _ rfl
   clear hcells
   have hl1 : ((l.length - 1 : Nat) : Int) + 1 = l.length:=by omega
   have HC:=zh (cont23.walk A c l u.f0 u.f1 A2 c2 u.f2 wr (Kd.C_below HR.out hb.out) (Kd.C_below HR2.out hb.out) (fun p hp=>by have:=fine_sizes HF2.out p hp;omega))
   have hbs:=zh hb.out.size
   cases hla : l.any (lackB u.f2)
   ·rw [hla] at HC
    have HLA:=zh hla
    clear hla
    go_wp2_with (go_at_call 95;refine HC.out.mono ?_;rintro e w1 ⟨rfl,hb1⟩;have HB2:=keepB hb hb1;have HBK2:=zk hbk hb1;clear hb1)
    go_loopw [10,11,12,13,49] (fun v10 _ _ _ i wr=>∃ k : Nat,i = .int .i64 k ∧ k ≤ l.length ∧ Hid (allFrom (longAt u.f2 l) 0 k = true) ∧ Hid (Below w.heap.size w wr) ∧ Hid (wr.heap[w.heap.size + 1]? = some (.cells #[.int .u64 u.f0,.string u.f1,.slice A2 u.f2.length c2] 153 (0,0))) ∧
     Hid (Lib.IsBuilder 159 5 w.heap.size w1.heap.size (Lib.byteCells (bytesFor u.f2 (l.take k))) wr) ∧ Hid (wr.ownsRow w.heap.size 36 1 v10 k ((tagsFor (l.take k)).map (Value.int .u32)))) (fun _ _ _ _ i _=>l.length - (intOf i).toNat)
    case atStart =>
     refine ⟨0,rfl,Nat.zero_le _,rfl,HB2.out.alloc HB2.out.size _,blk_alloc HBK2.out _,?_,?_⟩
     ·have:=Lib.fresh_isBuilder 159 5 w1
      rcases this with h | h
      ·obtain ⟨h1,h2⟩:=h;exact Or.inl ⟨HB2.out.size,by obtain ⟨v,h3,h4,h5⟩:=h2;exact ⟨v,h3,own_weaken h4 HB2.out.size,h5⟩⟩
      ·obtain ⟨h1,h2⟩:=h;exact Or.inr ⟨HB2.out.size,by obtain ⟨v,h3,h4,h5⟩:=h2;exact ⟨v,h3,own_weaken h4 HB2.out.size,h5⟩⟩
     ·exact own_nil _ _ _ _
    case round =>
     obtain ⟨k,rfl,hk,hlo,hb3,hbk3,hbd,hown⟩:=hrel
     have HS:=zh (bytesFor_len u.f2 l k (fine_sizes HF2.out) hk)
     by_cases hlt : k < l.length
     ·obtain ⟨ad,e',hc0,hc1⟩:=at48 HR.out hb3.out k hlt
      subst e'
      have hcells : ∀ j v,(#[.int .u64 u.f0,.string u.f1,.slice A2 u.f2.length c2] : Array Value)[j]? = some v → (wr.alloc (.cells #[.int .i64 l[k].f0,.int .u32 l[k].f1] 43)).cell? ⟨w.heap.size + 1,j,none⟩ = some v:=fun j v h=>(blk_cell (blk_alloc hbk3.out _) j).trans h
      have k0:=hcells 0 _ rfl
      have k1:=hcells 1 _ rfl
      have k2:=hcells 2 _ rfl
      clear hcells
      have HSZ:=zh (dataOf_size u.f2 l[k].f0 2000 (fine_sizes HF2.out))
      have HLA2:=zh (longAt_eq u.f2 l k hlt)
      have HBS:=zh (bytesFor_snoc u.f2 l k hlt)
      have HTS:=zh (tagsFor_snoc l k hlt)
      have HD:=zh (data_calls (w:=wr.alloc (.cells #[.int .i64 l[k].f0,.int .u32 l[k].f1] 43)) (A:=A2) (c:=c2) u.f0 u.f1 l[k].f0 (Kd.C_below HR2.out (hb3.out.alloc hb3.out.size _)) hc2)
      have HBW:=zh (hb3.out.alloc hb3.out.size (.cells #[.int .i64 l[k].f0,.int .u32 l[k].f1] 43))
      have HK:=zh ((KT.refl [36] wr).alloc (.cells #[.int .i64 l[k].f0,.int .u32 l[k].f1] 43))
      have HNEW:=zh (blk_new wr (.cells #[.int .i64 l[k].f0,.int .u32 l[k].f1] 43))
      have HBDa:=zh (((KT.refl [] wr).alloc (.cells #[.int .i64 l[k].f0,.int .u32 l[k].f1] 43)).isBuilder (by simp) hbd.out (by simp) (by simp))
      have HOWNa:=zh (hown.out.alloc (.cells #[.int .i64 l[k].f0,.int .u32 l[k].f1] 43))
      obtain ⟨i0,hi,hy0,hy1,hy2⟩:=info_parts info36
      generalize hs : dataOf u.f2 l[k].f0 = s at *
      have HSS:=zh hs;clear hs
      by_cases g1 : k + 1 < l.length
      ·have d1 : decide ((k : Int) < (l.length : Int) - 1) = true:=by simp;omega
       by_cases g2 : s.size < 5
       ·have d2 : decide ((s.size : Int) < 5) = true:=by simp;omega
        have HE : Hid (wholeR u l = (noStr,noStr,3)):=by
         have : longB u.f2 l = false:=by
          cases h : longB u.f2 l
          ·rfl
          ·unfold longB at h
           have:=allFrom_at h k (by omega) (by omega)
           rw [HLA2.out] at this
           simp [g1,g2] at this
         unfold Hid wholeR
         rw [if_neg (notOr HF2.out hz),if_neg (by rw [HO.out];simp),if_neg (by rw [HLA.out];simp),if_pos this]
        clear g1 g2
        go_wp2_with (go_at_call 97;refine HD.out.mono ?_;rintro e w2 ⟨rfl,hb4⟩;have HB4:=keepB HBW hb4;clear hb4)
        go_ret3
        exact ⟨by rw [HE.out];rfl,HB4.out⟩
       ·skip
        have d2 : decide ((s.size : Int) < 5) = false:=by simp;omega
        have HLN : Hid (allFrom (longAt u.f2 l) 0 (k + 1) = true):=by
         unfold Hid;rw [allFrom_snoc,hlo.out,Nat.zero_add,HLA2.out];simp [g1,g2]
        clear g1 g2
        go_wp2_with (first
         | (go_at_call 97;refine HD.out.mono ?_;rintro e w2 ⟨rfl,hb4⟩;have HB4:=keepB HBW hb4;have HBD4:=zh ((KT.below (ts:=[]) hb4).isBuilder hb4.size HBDa.out (by simp) (by simp));have HOWN4:=zh ((KT.below (ts:=[]) hb4).own hb4.size HOWNa.out (by simp));have HNEW4:=zk HNEW hb4;have HBK4:=zh (blk_below (blk_alloc hbk3.out _) hb4);have HWR:=zh (bd_Write w.heap.size w1.heap.size _ s w2 HBD4.out (by rw [Lib.byteCells_length];have:=HS.out;have:=HSZ.out;omega) HB4.out.size);clear hb4)
         | (go_at_call 98;refine HWR.out.mono ?_;rintro e w3 ⟨rfl,hbd4,hb5,hk5⟩;have HB5:=zh (HB4.out.trans hb5);have HBD5:=zh hbd4;have HOWN5:=zh (hk5.own hb5.size HOWN4.out (by simp));have HBK5:=zh (hk5.blk HBK4.out (by simp));have hn5 : w3.cell? ⟨wr.heap.size,1,none⟩ = some (.int .u32 l[k].f1):=(blk_cell (hk5.blk HNEW4.out (by simp)) 1).trans rfl;clear hbd4 hb5 hk5)
         | (at_builtin;refine wpList_append_own _ rfl _ _ 160 rfl w.heap.size 36 i0 (.int .u32 0) 1 4 Tryz.underlying160 hi hy0 hy1 hy2 rfl (by decide) _ _ _ rfl (HOWN5.out.alloc _) ⟨w3.heap.size,0,none⟩ 1 1 [.int .u32 l[k].f1] rfl rfl ?c1 ?c2 ?c3 ?c4 ?c5 ?_))
        case c1=>exact World.news_of_block (cs:=#[.int .u32 l[k].f1]) (t:=36) (fr:=(0,0)) (heap_alloc_new w3 _)
        case c2=>simp [Value.oneCell']
        case c3=>unfold maxLen;omega
        case c4=>omega
        case c5=>have:=HB5.out.size;simp;omega
        intro v' w4 hown' hgrow _
        have HG:=zh hgrow
        have HOW:=zh hown'
        have HKT:=zh (((KT.refl [36] w3).alloc (.cells #[.int .u32 l[k].f1] 36)).grown (HOWN5.out.alloc _) hgrow (by simp))
        have HB6:=zh ((HB5.out.alloc HB5.out.size _).grown hgrow (by have:=HB5.out.size;simp;omega) (own_base HOWN5.out))
        clear hown' hgrow
        go_wp2
        go_roundw
        case rel =>
         refine ⟨k + 1,by go_num,by omega,HLN,HB6,HKT.out.blk HBK5.out (by simp),?_,?_⟩
         ·have:=HKT.out.isBuilder (by have:=HG.out.size;simp at this;omega) HBD5.out (by simp) (by simp)
          unfold Hid;rw [HBS.out];exact this
         ·unfold Hid;rw [HTS.out];exact HOW.out
        case measure=>simp [intOf];omega
      ·skip
       have HLN : Hid (allFrom (longAt u.f2 l) 0 (k + 1) = true):=by
        unfold Hid;rw [allFrom_snoc,hlo.out,Nat.zero_add,HLA2.out];simp [g1]
       have d1 : decide ((k : Int) < (l.length : Int) - 1) = false:=by simp;omega
       clear g1
       go_wp2_with (first
        | (go_at_call 97;refine HD.out.mono ?_;rintro e w2 ⟨rfl,hb4⟩;have HB4:=keepB HBW hb4;have HBD4:=zh ((KT.below (ts:=[]) hb4).isBuilder hb4.size HBDa.out (by simp) (by simp));have HOWN4:=zh ((KT.below (ts:=[]) hb4).own hb4.size HOWNa.out (by simp));have HNEW4:=zk HNEW hb4;have HBK4:=zh (blk_below (blk_alloc hbk3.out _) hb4);have HWR:=zh (bd_Write w.heap.size w1.heap.size _ s w2 HBD4.out (by rw [Lib.byteCells_length];have:=HS.out;have:=HSZ.out;omega) HB4.out.size);clear hb4)
        | (go_at_call 98;refine HWR.out.mono ?_;rintro e w3 ⟨rfl,hbd4,hb5,hk5⟩;have HB5:=zh (HB4.out.trans hb5);have HBD5:=zh hbd4;have HOWN5:=zh (hk5.own hb5.size HOWN4.out (by simp));have HBK5:=zh (hk5.blk HBK4.out (by simp));have hn5 : w3.cell? ⟨wr.heap.size,1,none⟩ = some (.int .u32 l[k].f1):=(blk_cell (hk5.blk HNEW4.out (by simp)) 1).trans rfl;clear hbd4 hb5 hk5)
        | (at_builtin;refine wpList_append_own _ rfl _ _ 160 rfl w.heap.size 36 i0 (.int .u32 0) 1 4 Tryz.underlying160 hi hy0 hy1 hy2 rfl (by decide) _ _ _ rfl (HOWN5.out.alloc _) ⟨w3.heap.size,0,none⟩ 1 1 [.int .u32 l[k].f1] rfl rfl ?c1 ?c2 ?c3 ?c4 ?c5 ?_))
       case c1=>exact World.news_of_block (cs:=#[.int .u32 l[k].f1]) (t:=36) (fr:=(0,0)) (heap_alloc_new w3 _)
       case c2=>simp [Value.oneCell']
       case c3=>unfold maxLen;omega
       case c4=>omega
       case c5=>have:=HB5.out.size;simp;omega
       intro v' w4 hown' hgrow _
       have HG:=zh hgrow
       have HOW:=zh hown'
       have HKT:=zh (((KT.refl [36] w3).alloc (.cells #[.int .u32 l[k].f1] 36)).grown (HOWN5.out.alloc _) hgrow (by simp))
       have HB6:=zh ((HB5.out.alloc HB5.out.size _).grown hgrow (by have:=HB5.out.size;simp;omega) (own_base HOWN5.out))
       clear hown' hgrow
       go_wp2
       go_roundw
       case rel =>
        refine ⟨k + 1,by go_num,by omega,HLN,HB6,HKT.out.blk HBK5.out (by simp),?_,?_⟩
        ·have:=HKT.out.isBuilder (by have:=HG.out.size;simp at this;omega) HBD5.out (by simp) (by simp)
         unfold Hid;rw [HBS.out];exact this
        ·unfold Hid;rw [HTS.out];exact HOW.out
       case measure=>simp [intOf];omega
     ·obtain rfl : k = l.length:=by omega
      rw [List.take_of_length_le (Nat.le_refl _)] at hown hbd HS
      have hlen2 : (tagsFor l).length = l.length:=by simp [tagsFor]
      obtain ⟨A3,c3,rfl,hrd⟩:=own_reads_row (R:=(Kd.int .u32).K wr) (ps:=tagsFor l) hown.out (reps_int _ _ _) hlen2
      have HRD : Hid (Kd.C (Kd.int .u32) wr A3 (tagsFor l).length (tagsFor l)):=by rw [hlen2];exact hrd
      have HLEN2:=zh hlen2
      have HLE:=zh (Tryz.Builder_Len w.heap.size w1.heap.size _ wr hbd.out)
      have hbl : (bytesFor u.f2 l).length ≤ 200000:=by have:=HS.out;omega
      clear hrd hlen2 HS
      have HT:=zh (tag_Many.walk (tagsFor l) c3 wr A3 (by rw [HLEN2.out];omega) (by rw [HLEN2.out];exact hl) HRD.out)
      rw [HLEN2.out] at HT
      rw [Lib.byteCells_length] at HLE
      by_cases g : 2000 < (bytesFor u.f2 l).length
      ·have HE : Hid (wholeR u l = (noStr,noStr,6)):=by
        unfold Hid wholeR
        rw [if_neg (notOr HF2.out hz),if_neg (by rw [HO.out];simp),if_neg (by rw [HLA.out];simp),if_neg (by have:=hlo.out;unfold longB;rw [this];simp),if_pos g]
       have d : decide ((2000 : Int) < (bytesFor u.f2 l).length) = true:=by simp;omega
       clear g
       generalize hq : (bytesFor u.f2 l).length = q at *
       clear hq
       go_wp2_with (go_at_call 99;refine HLE.out.mono ?_;rintro e w2 ⟨rfl,rfl⟩)
       go_ret3
       exact ⟨by rw [HE.out];rfl,hb3.out⟩
      ·have HE : Hid (wholeR u l = (⟨(bytesFor u.f2 l).toArray⟩,manyText (tagsFor l),0)):=by
        unfold Hid wholeR
        rw [if_neg (notOr HF2.out hz),if_neg (by rw [HO.out];simp),if_neg (by rw [HLA.out];simp),if_neg (by have:=hlo.out;unfold longB;rw [this];simp),if_neg g]
       have d : decide ((2000 : Int) < (bytesFor u.f2 l).length) = false:=by simp;omega
       clear g
       have HST:=zh (fun (W : World) (h : Below wr.heap.size wr W)=>Tryz.Builder_String_any w.heap.size w1.heap.size (bytesFor u.f2 l) W ((KT.below (ts:=[]) h).isBuilder h.size hbd.out (by simp) (by simp)) (Nat.le_trans hb3.out.size h.size))
       generalize hq : (bytesFor u.f2 l).length = q at *
       clear hq
       go_wp2_with (first
        | (go_at_call 99;refine HLE.out.mono ?_;rintro e w2 ⟨rfl,rfl⟩)
        | (go_at_call 100;refine HT.out.mono ?_;rintro e w2 ⟨rfl,hb4⟩;have HB4:=zh hb4;clear hb4)
        | (go_at_call 101;refine (HST.out _ HB4.out).mono ?_;rintro e w3 ⟨rfl,hb5⟩;have HB5:=zh hb5;clear hb5))
       go_ret3
       exact ⟨by rw [HE.out];rfl,(hb3.out.trans (HB4.out.mono hb3.out.size)).trans HB5.out⟩
   ·have HE : Hid (wholeR u l = (noStr,noStr,4)):=by
     unfold Hid wholeR
     rw [if_neg (notOr HF2.out hz),if_neg (by rw [HO.out];simp),if_pos hla]
    rw [hla] at HC
    clear hla
    go_wp2_with (go_at_call 95;refine HC.out.mono ?_;rintro e w1 ⟨rfl,hb1⟩;have HB2:=keepB hb hb1;clear hb1)
    go_ret3
    exact ⟨by rw [HE.out];rfl,HB2.out⟩
end
section
open Go.WideMaps Go.Maps
theorem place1.walk (i : Int) (key : ByteArray) (v : Value) (id : Int) (b : Nat) (w : World) (h0 : w.cell? ⟨b,0,none⟩ = some (.int .u64 id)) :
  Calls Tryz.prog 134 #[.agg #[.int .u64 i,.string key,v],.pointer (some ⟨b,0,none⟩)] w fun e w'=>e = .returned (.bool (i == id)) ∧ Below w.heap.size w w':=by
 have HB0 : Hid (Below w.heap.size w w):=Below.refl _ _
 have e0:=World.new_ne w _ h0
 have hlt:=World.block_lt_of_cell? w _ h0
 go_enter Tryz.func134,Tryz.ntmps134
 go_wp2
 go_ret
 exact ⟨rfl,HB0.out.alloc (Nat.le_refl _) _⟩
def posU (l : List S101) (id : Int) : Option Nat:=l.findIdx? (fun u=>u.f0 == id)
theorem idx59.walk (A : Option Addr) (c : Nat) (l : List S101) (id : Int) (b : Nat) (w : World) (hr : Kd.C k101 w A l.length l) (h0 : w.cell? ⟨b,0,none⟩ = some (.int .u64 id)) :
  Calls Tryz.prog 129 #[.slice A l.length c,.func (.func 134) #[] #[.pointer (some ⟨b,0,none⟩)]] w fun e w'=>e = .returned (.int .i64 (posI (posU l id))) ∧ Below w.heap.size w w':=by
 have HR:=zh hr
 have hlen : (l.length : Int) ≤ 9223372036854775807:=by have:=hr.2.1;omega
 clear hr
 have HB0 : Hid (Below w.heap.size w w):=Below.refl _ _
 have H0:=zh h0;clear h0
 go_enter Tryz.func129,Tryz.ntmps129
 go_wp2
 go_loopw [5,8] (fun _ i wr=>∃ (k : Nat),i = .int .i64 k ∧ k ≤ l.length ∧ Hid (∀ j (hj : j < k) (hl : j < l.length),(l[j].f0 == id) = false) ∧ Hid (Below w.heap.size w wr)) (fun _ i _=>l.length - (intOf i).toNat)
 case atStart=>exact ⟨0,rfl,Nat.zero_le _,fun j hj=>absurd hj (Nat.not_lt_zero _),HB0⟩
 case round =>
  obtain ⟨k,rfl,hk,hall,hb⟩:=hrel
  by_cases hlt : k < l.length
  ·obtain ⟨ad,A2,c2,e',hc0,hc1,hc2,_,_⟩:=atUpload HR.out hb.out k hlt
   subst e'
   have HC:=zh (place1.walk l[k].f0 l[k].f1 (.slice A2 l[k].f2.length c2) id b wr (keepc hb.out H0.out))
   cases hp : (l[k].f0 == id)
   ·have hn : Hid (∀ j (hj : j < k + 1) (hl : j < l.length),(l[j].f0 == id) = false):=fun j hj hl=>by
     rcases Nat.eq_or_lt_of_le (Nat.le_of_lt_succ hj) with rfl | h
     ·exact hp
     ·exact hall.out j h hl
    rw [hp] at HC
    clear hp
    go_wp2_with (go_at_call 134;refine HC.out.mono ?_;rintro e w1 ⟨rfl,hb1⟩;have HB1:=zh hb1;clear hb1)
    go_roundw
    case rel=>exact ⟨k + 1,by go_num,by omega,hn,keepB hb HB1.out⟩
    case measure=>simp [intOf];omega
   ·have hn : Hid (posU l id = some k):=by
     unfold Hid posU
     rw [List.findIdx?_eq_some_iff_getElem]
     exact ⟨hlt,hp,fun j hj=>by rw [hall.out j hj (by omega)];simp⟩
    rw [hp] at HC
    clear hp
    go_wp2_with (go_at_call 134;refine HC.out.mono ?_;rintro e w1 ⟨rfl,hb1⟩;have HB1:=zh hb1;clear hb1)
    go_ret
    exact ⟨by rw [hn.out];rfl,keepB hb HB1.out⟩
  ·have hn : Hid (posU l id = none):=by
    unfold Hid posU
    rw [List.findIdx?_eq_none_iff]
    intro u hu
    obtain ⟨j,hj,rfl⟩:=List.getElem_of_mem hu
    exact hall.out j (by omega) hj
   go_wp2
   go_ret
   exact ⟨by rw [hn.out];rfl,hb.out⟩
def placeR (l : List S101) (id : Int) : Int × Int :=
 if checkB l = false then (0,1) else match posU l id with | none=>(0,4) | some i=>(i,0)
theorem place.walk (A : Option Addr) (c : Nat) (l : List S101) (id : Int) (w : World) (hr : Kd.C k101 w A l.length l) (hc : l.length ≤ c) :
  Calls Tryz.prog 87 #[.slice A l.length c,.int .u64 id] w fun e w'=>e = .returned (.tuple #[.int .i64 (placeR l id).1,.int .i64 (placeR l id).2]) ∧ Below w.heap.size w w':=by
 have HB0 : Hid (Below w.heap.size w w):=Below.refl _ _
 have HB1:=zh (HB0.out.alloc (Nat.le_refl _) (.cells #[.int .u64 id] 24))
 have HK:=zh (check_calls (w:=w.alloc (.cells #[.int .u64 id] 24)) (Kd.C_below hr HB1.out) hc)
 have HN:=zh (show (w.alloc (.cells #[.int .u64 id] 24)).cell? ⟨w.heap.size,0,none⟩ = some (.int .u64 id) by simp [go_sem])
 have HI:=zh (fun (W : World) (hb : Below (w.heap.size + 1) (w.alloc (.cells #[.int .u64 id] 24)) W)=>idx59.walk A c l id w.heap.size W (Kd.C_below hr (HB1.out.trans (hb.mono (Nat.le_succ _)))) (by rw [hb.cell (p:=⟨w.heap.size,0,none⟩) (Nat.lt_succ_self _)];exact HN.out))
 clear hr
 cases hk : checkB l
 ·have HE : Hid (placeR l id = (0,1)):=by unfold Hid placeR;rw [if_pos hk]
  rw [hk] at HK
  have e1 : errB false = 1:=rfl
  rw [e1] at HK
  clear hk e1
  go_enter Tryz.func87,Tryz.ntmps87
  go_wp2_with (go_at_call 68;refine HK.out.mono ?_;rintro e w1 ⟨rfl,hb⟩;have HB2:=zh hb;clear hb)
  go_ret2
  exact ⟨by rw [HE.out];rfl,keepB HB1 HB2.out⟩
 ·rw [hk] at HK
  have e1 : errB true = 0:=rfl
  rw [e1] at HK
  clear e1
  cases hp : posU l id with
  | none =>
   have HE : Hid (placeR l id = (0,4)):=by unfold Hid placeR;rw [if_neg (by simp [hk]),hp]
   rw [hp] at HI
   have e2 : posI none = -1:=rfl
   rw [e2] at HI
   clear hk hp e2
   go_enter Tryz.func87,Tryz.ntmps87
   go_wp2_with (first | (go_at_call 68;refine HK.out.mono ?_;rintro e w1 ⟨rfl,hb⟩;have HB2:=zh hb;clear hb) | (go_at_call 129;refine (HI.out _ (by simpa using HB2.out)).mono ?_;rintro e w2 ⟨rfl,hb⟩;have HB3:=zh hb;clear hb))
   go_ret2
   exact ⟨by rw [HE.out];rfl,keepB (keepB HB1 HB2.out) HB3.out⟩
  | some i =>
   have HE : Hid (placeR l id = ((i : Int),0)):=by unfold Hid placeR;rw [if_neg (by simp [hk]),hp]
   rw [hp] at HI
   have e2 : posI (some i) = i:=rfl
   rw [e2] at HI
   clear hk hp e2
   go_enter Tryz.func87,Tryz.ntmps87
   go_wp2_with (first | (go_at_call 68;refine HK.out.mono ?_;rintro e w1 ⟨rfl,hb⟩;have HB2:=zh hb;clear hb) | (go_at_call 129;refine (HI.out _ (by simpa using HB2.out)).mono ?_;rintro e w2 ⟨rfl,hb⟩;have HB3:=zh hb;clear hb))
   go_ret2
   exact ⟨by rw [HE.out];rfl,keepB (keepB HB1 HB2.out) HB3.out⟩
def findR (l : List S101) (id : Int) : S101 × Int :=
 if checkB l = false then (z101,1) else match posU l id with | none=>(z101,4) | some i=>(l.getD i z101,0)
def FindPost (l : List S101) (id : Int) (w : World) (e : Ending) (w' : World) : Prop :=
 ∃ A2 c2,e = .returned (.tuple #[.agg #[.int .u64 (findR l id).1.f0,.string (findR l id).1.f1,.slice A2 (findR l id).1.f2.length c2],.int .i64 (findR l id).2]) ∧
  (findR l id).1.f2.length ≤ c2 ∧ Kd.C k40 w' A2 (findR l id).1.f2.length (findR l id).1.f2 ∧ Below w.heap.size w w'
theorem posU_lt {l : List S101} {id : Int} {i : Nat} (h : posU l id = some i) : ∃ hl : i < l.length,l[i].f0 = id:=by
 unfold posU at h
 rw [List.findIdx?_eq_some_iff_getElem] at h
 obtain ⟨hl,hp,_⟩:=h
 exact ⟨hl,by simpa using hp⟩
theorem find.walk (A : Option Addr) (c : Nat) (l : List S101) (id : Int) (w : World) (hr : Kd.C k101 w A l.length l) (hc : l.length ≤ c) :
  Calls Tryz.prog 44 #[.slice A l.length c,.int .u64 id] w (FindPost l id w):=by
 have HB0 : Hid (Below w.heap.size w w):=Below.refl _ _
 have HZ:=zh (fun (W : World) (hb : Below w.heap.size w W)=>place.walk A c l id W (Kd.C_below hr hb) hc)
 have HR:=zh hr
 have hlen : (l.length : Int) ≤ 9223372036854775807:=by have:=hr.2.1;omega
 clear hr
 have HA:=zh (HB0.out.alloc (Nat.le_refl _) (.cells #[.int .u64 0,.string ⟨#[]⟩,.slice none 0 0] 101))
 cases hk : checkB l
 ·skip
  have HE : Hid (findR l id = (z101,1)):=by unfold Hid findR;rw [if_pos hk]
  have e1 : placeR l id = (0,1):=by unfold placeR;rw [if_pos hk]
  rw [e1] at HZ
  clear hk e1
  go_enter Tryz.func44,Tryz.ntmps44
  go_wp2_with (go_at_call 87;refine (HZ.out _ HA.out).mono ?_;rintro e w1 ⟨rfl,hb⟩;have HB1:=keepB HA hb;have hs:=hb.size;have hk1:=blk_below (blk_new w _) hb;have d0:=(blk_cell hk1 0).trans rfl;have d1:=(blk_cell hk1 1).trans rfl;have d2:=(blk_cell hk1 2).trans rfl;have z0:=blk_frozen hk1 0;have z1:=blk_frozen hk1 1;have z2:=blk_frozen hk1 2;clear hb hk1)
  refine bodyPost_ret (v:=.tuple #[.agg #[.int .u64 0,.string ⟨#[]⟩,.slice none 0 0],.int .i64 1]) ?_ rfl ?_
  ·simp [results,Tryz.results44,go_sem,d0,d1,d2]
  ·exact ⟨none,0,by rw [HE.out];rfl,by rw [HE.out];exact Nat.zero_le _,by rw [HE.out];exact Kd.C_nil _ _,(((HB1.out.setCell (Nat.le_refl _) _).setCell (Nat.le_refl _) _).setCell (Nat.le_refl _) _)⟩
 ·cases hp : posU l id with
  | none =>
   have HE : Hid (findR l id = (z101,4)):=by unfold Hid findR;rw [if_neg (by simp [hk]),hp]
   have e1 : placeR l id = (0,4):=by unfold placeR;rw [if_neg (by simp [hk]),hp]
   rw [e1] at HZ
   clear hk e1 hp
   go_enter Tryz.func44,Tryz.ntmps44
   go_wp2_with (go_at_call 87;refine (HZ.out _ HA.out).mono ?_;rintro e w1 ⟨rfl,hb⟩;have HB1:=keepB HA hb;have hs:=hb.size;have hk1:=blk_below (blk_new w _) hb;have d0:=(blk_cell hk1 0).trans rfl;have d1:=(blk_cell hk1 1).trans rfl;have d2:=(blk_cell hk1 2).trans rfl;have z0:=blk_frozen hk1 0;have z1:=blk_frozen hk1 1;have z2:=blk_frozen hk1 2;clear hb hk1)
   refine bodyPost_ret (v:=.tuple #[.agg #[.int .u64 0,.string ⟨#[]⟩,.slice none 0 0],.int .i64 4]) ?_ rfl ?_
   ·simp [results,Tryz.results44,go_sem,d0,d1,d2]
   ·exact ⟨none,0,by rw [HE.out];rfl,by rw [HE.out];exact Nat.zero_le _,by rw [HE.out];exact Kd.C_nil _ _,(((HB1.out.setCell (Nat.le_refl _) _).setCell (Nat.le_refl _) _).setCell (Nat.le_refl _) _)⟩
  | some i =>
   obtain ⟨hil,hid⟩:=posU_lt hp
   clear hid
   have HE : Hid (findR l id = (l[i],0)):=by
    unfold Hid findR;rw [if_neg (by simp [hk]),hp];simp [List.getD_eq_getElem?_getD,hil]
   have e1 : placeR l id = ((i : Int),0):=by unfold placeR;rw [if_neg (by simp [hk]),hp]
   rw [e1] at HZ
   clear hk e1 hp
   obtain ⟨ad,A3,c3,e',g0,g1,g2,g3,g4⟩:=atUpload HR.out HB0.out i hil
   subst e'
   have G0:=zh g0;have G1:=zh g1;have G2:=zh g2;have G3:=zh g3;have G4:=zh g4
   clear g0 g1 g2 g3 g4
   go_enter Tryz.func44,Tryz.ntmps44
   go_wp2_with (go_at_call 87;refine (HZ.out _ HA.out).mono ?_;rintro e w1 ⟨rfl,hb⟩;have HB1:=keepB HA hb;have hs:=hb.size;have hk1:=blk_below (blk_new w _) hb;have d0:=(blk_cell hk1 0).trans rfl;have d1:=(blk_cell hk1 1).trans rfl;have d2:=(blk_cell hk1 2).trans rfl;have z0:=blk_frozen hk1 0;have z1:=blk_frozen hk1 1;have z2:=blk_frozen hk1 2;clear hb hk1;have g0:=keepc HB1.out G0.out;have g1:=keepc HB1.out G1.out;have g2:=keepc HB1.out G2.out)
   refine bodyPost_ret (v:=.tuple #[.agg #[.int .u64 l[i].f0,.string l[i].f1,.slice A3 l[i].f2.length c3],.int .i64 0]) ?_ rfl ?_
   ·simp [results,Tryz.results44,go_sem,d0,d1,d2]
   ·have hb:=(((HB1.out.setCell (p:=⟨w.heap.size,0,none⟩) (Nat.le_refl _) (.int .u64 l[i].f0)).setCell (p:=⟨w.heap.size,1,none⟩) (Nat.le_refl _) (.string l[i].f1)).setCell (p:=⟨w.heap.size,2,none⟩) (Nat.le_refl _) (.slice A3 l[i].f2.length c3))
    exact ⟨A3,c3,by rw [HE.out],by rw [HE.out];exact G3.out,by rw [HE.out];exact Kd.C_below G4.out hb,hb⟩
end
section
open Go.WideMaps Go.Maps
theorem clone34_nil (n c : Nat) (w : World) : Calls Tryz.prog 79 #[.slice none n c] w fun e w'=>e = .returned (.slice none 0 0) ∧ Below w.heap.size w w':=by
 have he:=Lib.run_eql_slice_nil_nil (P:=Tryz.prog) w n c Tryz.underlying23
 go_enter Tryz.func79,Tryz.ntmps79
 go_wp2
 go_ret
 exact ⟨rfl,Below.refl _ _⟩
theorem clone34.walk (ad : Addr) (n c : Nat) (cells : List Value) (w : World) (hl : cells.length = n * 3) (h1 : ∀ u ∈ cells,u.oneCell' = true) (hr : RawAt w ad cells) (hn : n ≤ 1000000) :
  Calls Tryz.prog 79 #[.slice (some ad) n c] w fun e w'=>∃ v,e = .returned v ∧ w'.ownsRow w.heap.size 101 3 v n cells ∧ Below w.heap.size w w':=by
 have he:=Lib.run_eql_slice_some_nil (P:=Tryz.prog) w ad n c Tryz.underlying23
 obtain ⟨i0,hi,hy0,hy1,hy2⟩:=info_parts info101
 have HL:=zh hl;have H1:=zh h1;have HR:=zh hr;clear hl h1 hr
 have HO : Hid ((w.alloc (.cells #[] 101)).ownsRow w.heap.size 101 3 (.slice (some ⟨w.heap.size,0,none⟩) 0 0) 0 []):=⟨rfl,Or.inr ⟨w.heap.size,0,#[],rfl,Nat.le_refl _,blk_new w _,Nat.le_refl _,by unfold maxLen;omega,rfl,rfl⟩⟩
 have HB:=zh ((Below.refl w.heap.size w).alloc (Nat.le_refl _) (.cells #[] 101))
 go_enter Tryz.func79,Tryz.ntmps79
 go_wp2_with (at_builtin;refine wpList_append_own _ rfl _ _ 23 rfl w.heap.size 101 i0 (.agg #[(.int .u64 0),(.string ⟨#[]⟩),(.slice none 0 0)]) 3 48 Tryz.underlying23 hi hy0 hy1 hy2 rfl (by decide) _ _ _ rfl HO.out ad n c cells rfl HL.out ?c1 ?c2 ?c3 ?c4 ?c5 ?_)
 case c1=>exact fun j u hu=>keepc (Below.alloc (Below.refl _ _) (Nat.le_refl _) _) (HR.out j u hu)
 case c2=>exact H1.out
 case c3=>unfold maxLen;omega
 case c4=>omega
 case c5=>simp
 intro v' w4 hown' hgrow _
 have HG:=zh (HB.out.grown hgrow (by simp) (own_base HO.out))
 have HOW:=zh hown'
 clear hown' hgrow
 go_wp2
 go_ret
 exact ⟨_,rfl,HOW.out,HG.out⟩
theorem clone39_nil (n c : Nat) (w : World) : Calls Tryz.prog 91 #[.slice none n c] w fun e w'=>e = .returned (.slice none 0 0) ∧ Below w.heap.size w w':=by
 have he:=Lib.run_eql_slice_nil_nil (P:=Tryz.prog) w n c Tryz.underlying99
 go_enter Tryz.func91,Tryz.ntmps91
 go_wp2
 go_ret
 exact ⟨rfl,Below.refl _ _⟩
theorem clone39.walk (ad : Addr) (n c : Nat) (cells : List Value) (w : World) (hl : cells.length = n * 2) (h1 : ∀ u ∈ cells,u.oneCell' = true) (hr : RawAt w ad cells) (hn : n ≤ 1000000) :
  Calls Tryz.prog 91 #[.slice (some ad) n c] w fun e w'=>∃ v,e = .returned v ∧ w'.ownsRow w.heap.size 40 2 v n cells ∧ Below w.heap.size w w':=by
 have he:=Lib.run_eql_slice_some_nil (P:=Tryz.prog) w ad n c Tryz.underlying99
 obtain ⟨i0,hi,hy0,hy1,hy2⟩:=info_parts info40
 have HL:=zh hl;have H1:=zh h1;have HR:=zh hr;clear hl h1 hr
 have HO : Hid ((w.alloc (.cells #[] 40)).ownsRow w.heap.size 40 2 (.slice (some ⟨w.heap.size,0,none⟩) 0 0) 0 []):=⟨rfl,Or.inr ⟨w.heap.size,0,#[],rfl,Nat.le_refl _,blk_new w _,Nat.le_refl _,by unfold maxLen;omega,rfl,rfl⟩⟩
 have HB:=zh ((Below.refl w.heap.size w).alloc (Nat.le_refl _) (.cells #[] 40))
 go_enter Tryz.func91,Tryz.ntmps91
 go_wp2_with (at_builtin;refine wpList_append_own _ rfl _ _ 99 rfl w.heap.size 40 i0 (.agg #[(.int .i64 0),(.string ⟨#[]⟩)]) 2 24 Tryz.underlying99 hi hy0 hy1 hy2 rfl (by decide) _ _ _ rfl HO.out ad n c cells rfl HL.out ?c1 ?c2 ?c3 ?c4 ?c5 ?_)
 case c1=>exact fun j u hu=>keepc (Below.alloc (Below.refl _ _) (Nat.le_refl _) _) (HR.out j u hu)
 case c2=>exact H1.out
 case c3=>unfold maxLen;omega
 case c4=>omega
 case c5=>simp
 intro v' w4 hown' hgrow _
 have HG:=zh (HB.out.grown hgrow (by simp) (own_base HO.out))
 have HOW:=zh hown'
 clear hown' hgrow
 go_wp2
 go_ret
 exact ⟨_,rfl,HOW.out,HG.out⟩
theorem lay1.walk (n m : Int) (d : ByteArray) (w : World) (h0 : 0 ≤ n) (h1 : n ≤ 1000) (h2 : 0 ≤ m) (h3 : m ≤ 1000) :
  Calls Tryz.prog 90 #[.agg #[.int .i64 n,.string d],.int .i64 m] w fun e w'=>e = .returned (.int .i64 (n - m)) ∧ Below w.heap.size w w':=by
 have HB0 : Hid (Below w.heap.size w w):=Below.refl _ _
 go_enter Tryz.func90,Tryz.ntmps90
 go_wp2
 go_ret
 exact ⟨rfl,HB0.out.alloc (Nat.le_refl _) _⟩
end
section
open Go.WideMaps Go.Maps
structure SortedP (l : List S40) : Prop where
 lo : ∀ (j : Nat) (h : j < l.length),1 ≤ l[j].f0 ∧ l[j].f0 ≤ 1000
 up : ∀ (i j : Nat) (h : i < j) (hj : j < l.length),l[i].f0 < l[j].f0
def lowP (l : List S40) (m : Int) : Nat:=l.findIdx (fun p=>decide (m ≤ p.f0))
def thereP (l : List S40) (m : Int) : Bool:=l.any (fun p=>p.f0 == m)
theorem bsearch.walk (A : Option Addr) (c : Nat) (l : List S40) (m : Int) (w : World) (hr : Kd.C k40 w A l.length l) (hs : SortedP l) (hn : l.length ≤ 1000) (hm0 : 1 ≤ m) (hm1 : m ≤ 1000) :
  Calls Tryz.prog 89 #[.slice A l.length c,.int .i64 m,.func (.func 90) #[] #[]] w fun e w'=>e = .returned (.tuple #[.int .i64 (lowP l m),.bool (thereP l m)]) ∧ Below w.heap.size w w':=by
 have HB0 : Hid (Below w.heap.size w w):=Below.refl _ _
 have HR:=zh hr;have HS:=zh hs;clear hr hs
 go_enter Tryz.func89,Tryz.ntmps89
 go_wp2
 go_loopw [9,10,11] (fun i j _ wr=>∃ (p q : Nat),i = .int .i64 p ∧ j = .int .i64 q ∧ p ≤ q ∧ q ≤ l.length ∧ Hid (∀ (x : Nat) (h : x < l.length),x < p → l[x].f0 < m) ∧ Hid (∀ (x : Nat) (h : x < l.length),q ≤ x → m ≤ l[x].f0) ∧ Hid (Below w.heap.size w wr)) (fun i j _ _=>(intOf j - intOf i).toNat)
 case atStart=>exact ⟨0,l.length,rfl,rfl,Nat.zero_le _,Nat.le_refl _,fun x _ h=>absurd h (Nat.not_lt_zero _),fun x h h'=>absurd h (by omega),HB0⟩
 case round =>
  obtain ⟨p,q,rfl,rfl,hpq,hq,hlo,hhi,hb⟩:=hrel
  by_cases hlt : p < q
  ·have hx : (p + q) / 2 < l.length:=by omega
   obtain ⟨ad,e',hc0,hc1⟩:=at40 HR.out hb.out ((p + q) / 2) hx
   subst e'
   have r:=HS.out.lo ((p + q) / 2) hx
   have HC:=zh (lay1.walk l[(p + q) / 2].f0 m l[(p + q) / 2].f1 wr (by omega) (by omega) (by omega) hm1)
   by_cases hv : l[(p + q) / 2].f0 - m < 0
   ·go_wp2_with (go_at_call 90;refine HC.out.mono ?_;rintro e w1 ⟨rfl,hb1⟩;have HB1:=zh hb1;clear hb1)
    go_roundw
    case rel =>
     exact ⟨(p + q) / 2 + 1,q,by go_num,rfl,by omega,hq,fun x h h'=>by
      rcases Nat.eq_or_lt_of_le (Nat.le_of_lt_succ h') with rfl | h2
      ·omega
      ·have:=HS.out.up x _ h2 hx;omega,hhi,keepB hb HB1.out⟩
    case measure=>simp [intOf];omega
   ·go_wp2_with (go_at_call 90;refine HC.out.mono ?_;rintro e w1 ⟨rfl,hb1⟩;have HB1:=zh hb1;clear hb1)
    go_roundw
    case rel =>
     exact ⟨p,(p + q) / 2,rfl,by go_num,by omega,by omega,hlo,fun x h h'=>by
      rcases Nat.eq_or_lt_of_le h' with rfl | h2
      ·omega
      ·have:=HS.out.up _ x h2 h;omega,keepB hb HB1.out⟩
    case measure=>simp [intOf];omega
  ·obtain rfl : p = q:=by omega
   have HL : Hid (lowP l m = p):=by
    unfold Hid lowP
    rcases Nat.eq_or_lt_of_le hq with h | h
    ·rw [h];apply List.findIdx_eq_length.2
     intro x hx
     obtain ⟨j,hj,rfl⟩:=List.getElem_of_mem hx
     have:=hlo.out j hj (by omega)
     simp;omega
    ·rw [List.findIdx_eq h]
     refine ⟨by simpa using hhi.out p h (Nat.le_refl _),fun j hj=>?_⟩
     have:=hlo.out j (by omega) hj
     simp;omega
   by_cases he : p = l.length
   ·have HT : Hid (thereP l m = false):=by
     unfold Hid thereP
     rw [List.any_eq_false]
     intro x hx
     obtain ⟨j,hj,rfl⟩:=List.getElem_of_mem hx
     have:=hlo.out j hj (by omega)
     simp;omega
    have d1 : decide ((p : Int) < l.length) = false:=by simp;omega
    have d2 : decide (p < l.length) = false:=by simp;omega
    subst he
    go_wp2
    go_ret2
    exact ⟨by rw [HL.out,HT.out];rfl,hb.out⟩
   ·have hx : p < l.length:=by omega
    obtain ⟨ad,e',hc0,hc1⟩:=at40 HR.out hb.out p hx
    subst e'
    have r:=HS.out.lo p hx
    have HC:=zh (lay1.walk l[p].f0 m l[p].f1 wr (by omega) (by omega) (by omega) hm1)
    have d1 : decide ((p : Int) < l.length) = true:=by simp;omega
    have HT : Hid (thereP l m = (l[p].f0 - m == 0)):=by
     unfold Hid thereP
     rw [Bool.eq_iff_iff,List.any_eq_true]
     constructor
     ·rintro ⟨x,hm,hxm⟩
      obtain ⟨j,hj,rfl⟩:=List.getElem_of_mem hm
      have hxm' : l[j].f0 = m:=by simpa using hxm
      have : j = p:=by
       rcases Nat.lt_trichotomy j p with h | h | h
       ·have:=hlo.out j hj h;omega
       ·exact h
       ·have:=HS.out.up p j h hj;have:=hhi.out p hx (Nat.le_refl _);omega
      subst this
      simp;omega
     ·intro h
      have h' : l[p].f0 - m = 0:=by simpa using h
      exact ⟨l[p],List.getElem_mem hx,by simp;omega⟩
    clear he
    go_wp2_with (go_at_call 90;refine HC.out.mono ?_;rintro e w1 ⟨rfl,hb1⟩;have HB1:=zh hb1;clear hb1)
    go_ret2
    exact ⟨by rw [HL.out,HT.out];rfl,keepB hb HB1.out⟩
end
section
open Go.WideMaps Go.Maps
def insAt (xs : List Value) (i : Nat) (c : List Value) : List Value:=xs.take (i * 2) ++ (c ++ xs.drop (i * 2))
def InsPost (base n i : Nat) (v : Value) (xs c : List Value) (w : World) (e : Ending) (w' : World) : Prop :=
 ∃ v',e = .returned v' ∧ w'.ownsRow base 40 2 v' (n + 1) (insAt xs i c) ∧ w.grownBy w' v.ownBlock
theorem insert_end.walk (base n : Nat) (v : Value) (xs : List Value) (bv : Nat) (N : Int) (D : ByteArray) (w : World) (hown : w.ownsRow base 40 2 v n xs) (hb : base ≤ w.heap.size) (hn : n ≤ 1000)
  (hv : w.heap[bv]? = some (.cells #[.int .i64 N,.string D] 40 (0,0))) :
  Calls Tryz.prog 92 #[v,.int .i64 n,.slice (some ⟨bv,0,none⟩) 1 1] w (InsPost base n n v xs [.int .i64 N,.string D] w):=by
 obtain ⟨i0,hi,hy0,hy1,hy2⟩:=info_parts info40
 have HV:=zh hv;clear hv
 have HX : Hid (insAt xs n [.int .i64 N,.string D] = xs ++ [.int .i64 N,.string D]):=by
  unfold Hid insAt;rw [List.take_of_length_le (by rw [hown.1];omega),List.drop_eq_nil_of_le (by rw [hown.1];omega),List.append_nil]
 have HOWN:=zh hown
 obtain ⟨A,cap,rfl,hA⟩ : ∃ A cap,v = .slice A n cap ∧ n ≤ cap:=by
  rcases hown.2 with ⟨h1,h2⟩ | ⟨g,cap,cur,h1,_,_,h2,_⟩
  ·exact ⟨none,0,by rw [h1,h2],by omega⟩
  ·exact ⟨_,cap,h1,h2⟩
 clear hown
 have C1 : Hid (∀ (j : Nat) (u : Value),([.int .i64 N,.string D] : List Value)[j]? = some u → w.cell? ((⟨bv,0,none⟩ : Addr).add j) = some u):=World.news_of_block HV.out
 have C2 : Hid (∀ u ∈ ([.int .i64 N,.string D] : List Value),u.oneCell' = true):=by unfold Hid;simp [Value.oneCell']
 have C3 : Hid (n + 1 ≤ maxLen):=by unfold Hid maxLen;omega
 have C4 : Hid ((n + 1) * 24 ≤ 140737488355328):=by unfold Hid;omega
 by_cases hc : cap = n
 all_goals
  go_enter Tryz.func92,Tryz.ntmps92
  go_wp2_with (at_builtin;refine wpList_append_own _ rfl _ _ 99 rfl base 40 i0 (.agg #[(.int .i64 0),(.string ⟨#[]⟩)]) 2 24 Tryz.underlying99 hi hy0 hy1 hy2 rfl (by decide) _ _ _ rfl HOWN.out ⟨bv,0,none⟩ 1 1 [.int .i64 N,.string D] rfl rfl C1.out C2.out C3.out C4.out hb ?_;intro v' w4 hown' hgrow _;have HO4:=zh hown';have HG4:=zh hgrow;clear hown' hgrow)
  go_ret
  exact ⟨v',rfl,by rw [HX.out];exact HO4.out,HG4.out⟩
end
section
open Go.WideMaps Go.Maps
def z40v : Value:=.agg #[(.int .i64 0),(.string ⟨#[]⟩)]
def z40L (n : Nat) : List Value:=(Builtin.zeroCells z40v.cells n).toList
theorem z40_len (n : Nat) : (z40L n).length = n * 2:=by unfold z40L;rw [Array.length_toList,size_zeroCells];rfl
theorem i40sz : (Tryz.prog.info? 40).map (·.size) = some 2:=by kernel_rfl
theorem insAt_len (xs : List Value) (i n : Nat) (hx : xs.length = n * 2) (hi : i ≤ n) (c : List Value) (hc : c.length = 2) : (insAt xs i c).length = (n + 1) * 2:=by
 unfold insAt;simp only [List.length_append,List.length_take,List.length_drop,hx,hc];omega
theorem ins_list (xs R1 : List Value) (i n nc : Nat) (hx : xs.length = n * 2) (hi : i < n) (hnc : n + 1 ≤ nc) (hR : R1.length = nc * 2) (h0 : R1.take (i * 2) = xs.take (i * 2)) (c : List Value) (hc : c.length = 2) :
  (splice (splice R1 (i * 2) c) ((i + 1) * 2) (xs.drop (i * 2))).length = nc * 2 ∧ (splice (splice R1 (i * 2) c) ((i + 1) * 2) (xs.drop (i * 2))).take ((n + 1) * 2) = insAt xs i c:=by
 have e1 : (splice R1 (i * 2) c).length = nc * 2:=by rw [length_splice _ _ _ (by omega)];exact hR
 have e2 : (splice R1 (i * 2) c).take ((i + 1) * 2) = xs.take (i * 2) ++ c:=by
  unfold splice
  rw [← List.append_assoc,h0]
  rw [List.take_left' (by rw [List.length_append,List.length_take,hx,hc];omega)]
 refine ⟨by rw [length_splice _ _ _ (by rw [e1,List.length_drop,hx];omega)];exact e1,?_⟩
 unfold splice at e2 ⊢
 rw [e2,← List.append_assoc,List.take_left' (by simp only [List.length_append,List.length_take,List.length_drop,hx,hc];omega)]
 unfold insAt
 rw [List.append_assoc]
theorem insert_grow.walk (base n i : Nat) (g cap : Nat) (cur : Array Value) (xs : List Value) (bv : Nat) (N : Int) (D : ByteArray) (w : World) (hi : i < n) (hn : n ≤ 1000) (hb : base ≤ w.heap.size)
  (hg : w.heap[g]? = some (.cells cur 40 (0,0))) (hx : xs.length = n * 2) (hcur : cur.toList.take (n * 2) = xs) (hcap : n ≤ cap) (hfull : cap < n + 1) (h1 : ∀ u ∈ xs,u.oneCell' = true)
  (hv : w.heap[bv]? = some (.cells #[.int .i64 N,.string D] 40 (0,0))) :
  Calls Tryz.prog 92 #[.slice (some ⟨g,0,none⟩) n cap,.int .i64 i,.slice (some ⟨bv,0,none⟩) 1 1] w (InsPost base n i (.slice (some ⟨g,0,none⟩) n cap) xs [.int .i64 N,.string D] w):=by
 obtain ⟨i0,hi0,hy0,hy1,hy2⟩:=info_parts info40
 have HV:=zh hv;clear hv
 have HG:=zh hg;clear hg
 have d0 : ¬ cap = i:=by omega
 have d1 : ¬ cap = 0:=by omega
 have d2 : ((i : Int) == n) = false:=beq_eq_false_iff_ne.2 (by omega)
 have d3 : decide ((cap : Int) < (n : Int) + 1) = true:=by simp;omega
 have d4 : (i : Int) ≤ cap:=by omega
 have XI:=zh (show (xs.take (i * 2)).length = i * 2 by rw [List.length_take];omega)
 have XC:=zh (show ∀ (j : Nat) (u : Value),(xs.take (i * 2))[j]? = some u → w.cell? ((⟨g,0,none⟩ : Addr).add j) = some u from fun j u hu=>by
  rw [add_at,blk_cell HG.out,Nat.zero_add]
  rw [List.getElem?_take] at hu
  split at hu
  ·rw [← hcur,List.getElem?_take] at hu
   split at hu
   ·simpa using hu
   ·cases hu
  ·cases hu)
 have XD:=zh (show ∀ (j : Nat) (u : Value),(xs.drop (i * 2))[j]? = some u → w.cell? ((⟨g,i * 2,none⟩ : Addr).add j) = some u from fun j u hu=>by
  rw [add_at,blk_cell HG.out]
  rw [List.getElem?_drop,← hcur,List.getElem?_take] at hu
  split at hu
  ·simpa using hu
  ·cases hu)
 clear hcur
 go_enter Tryz.func92,Tryz.ntmps92
 go_wp2_with (at_builtin;refine wpList_zeros_grow rfl _ _ 99 3 rfl 40 i0 z40v Tryz.underlying99 .i64 Tryz.underlying3 hi0 hy0 (by rw [hy1];rfl) (by rw [hy1];decide) ⟨g,0,none⟩ i cap (xs.take (i * 2)) rfl (by rw [hy1];exact XI.out) XC.out .i64 (n + 1 - i) ?a1 (by omega) (by omega) (by omega) (by rw [hy2];decide) z40L (fun _=>rfl) ?_)
 case a1 =>
  show Value.int .i64 ((n : Int) + 1 - i) = Value.int .i64 ((n + 1 - i : Nat) : Int)
  congr 1;omega
 intro nc w1 hnc hmx hw1
 have HMX:=zh hmx;clear hmx
 have hlen : i + (n + 1 - i) = n + 1:=by omega
 rw [hlen] at hnc hw1 ⊢
 clear hlen
 obtain ⟨R1,hR1⟩ : ∃ R1,R1 = xs.take (i * 2) ++ (z40L (n + 1 - i) ++ z40L (nc - (n + 1))):=⟨_,rfl⟩
 rw [← hR1] at hw1
 have HR1:=zh hR1;clear hR1
 have HB1 : Hid (w1.heap[w.heap.size]? = some (.cells R1.toArray 40 (0,0))):=by unfold Hid;rw [hw1.out];exact heap_alloc_new w.drew _
 have HD1 : Hid (Below w.heap.size w w1):=by unfold Hid;rw [hw1.out];exact (Below.refl _ _).drew.alloc (Nat.le_refl _) _
 have HL1 : Hid (R1.length = nc * 2):=by
  unfold Hid;rw [HR1.out,List.length_append,List.length_append,z40_len,z40_len,XI.out];omega
 have d5 : ¬ nc = i:=by omega
 have d6 : ¬ nc = i + 1:=by omega
 have d7 : (i : Int) ≤ (n : Int) + 1:=by omega
 clear hw1
 have C1 : Hid (∀ (j : Nat) (u : Value),([.int .i64 N,.string D] : List Value)[j]? = some u → w1.cell? ((⟨bv,0,none⟩ : Addr).add j) = some u):=fun j u hu=>keepc HD1.out (World.news_of_block HV.out j u hu)
 have C2 : Hid (∀ u ∈ ([.int .i64 N,.string D] : List Value),u.oneCell' = true):=by unfold Hid;simp [Value.oneCell']
 have C3 : Hid (([.int .i64 N,.string D] : List Value).length = Nat.min 1 (n + 1 - i) * 2):=by unfold Hid;rw [show Nat.min 1 (n + 1 - i) = 1 from by simp [Nat.min_def];omega];rfl
 have C4 : Hid (i * 2 + ([.int .i64 N,.string D] : List Value).length ≤ R1.toArray.size):=by unfold Hid;rw [List.size_toArray,HL1.out];simp;omega
 go_wp2_with (with_reducible refine wpList_copy_cells rfl (.tmp 43) (.tmp 44) 99 99 rfl 40 2 Tryz.underlying99 i40sz w.heap.size (i * 2) (n + 1 - i) (nc - i) ⟨bv,0,none⟩ 1 1 ?b1 rfl R1.toArray 40 HB1.out [.int .i64 N,.string D] C3.out C1.out C4.out C2.out ?_)
 case b1=>rfl
 intro w2 hw2
 have HB2 : Hid (w2.drew.heap[w.heap.size]? = some (.cells (splice R1 (i * 2) [.int .i64 N,.string D]).toArray 40 (0,0))):=by
  unfold Hid;rw [hw2.out];exact setRow_heap _ _ _ _ _ _ HB1.out
 have HD2 : Hid (Below w.heap.size w w2.drew):=by unfold Hid;rw [hw2.out];exact (below_setRow HD1.out (Nat.le_refl _) _).drew
 have HL2 : Hid ((splice R1 (i * 2) [.int .i64 N,.string D]).length = nc * 2):=by
  unfold Hid;rw [length_splice _ _ _ (by rw [HL1.out];simp;omega)];exact HL1.out
 have E1 : Hid (∀ (j : Nat) (u : Value),(xs.drop (i * 2))[j]? = some u → w2.drew.cell? ((⟨g,i * 2,none⟩ : Addr).add j) = some u):=fun j u hu=>keepc HD2.out (XD.out j u hu)
 have E2 : Hid (∀ u ∈ xs.drop (i * 2),u.oneCell' = true):=fun u hu=>h1 u (List.mem_of_mem_drop hu)
 have E3 : Hid ((xs.drop (i * 2)).length = Nat.min (n - i) (n - i) * 2):=by unfold Hid;rw [List.length_drop,hx,show (n - i).min (n - i) = n - i from Nat.min_self _];omega
 have E4 : Hid ((i + 1) * 2 + (xs.drop (i * 2)).length ≤ (splice R1 (i * 2) [.int .i64 N,.string D]).toArray.size):=by unfold Hid;rw [List.size_toArray,HL2.out,List.length_drop,hx];omega
 clear hw2
 have d8 : (i : Int) + 1 ≤ (n : Int) + 1:=by omega
 have d9 : (0 : Int) ≤ (i : Int) + 1:=by omega
 have d10 : (0 : Int) ≤ (i : Int):=by omega
 have d11 : (i : Int) ≤ (n : Int):=by omega
 have q1 : IntKind.i64.wrap ((i : Int) + 1) = (i : Int) + 1:=by rw [IntKind.wrap_i64];omega
 have q2 : ((i : Int) + 1).toNat = i + 1:=by omega
 go_wp2_with fail
 go_still_tail 8,(by kernel_rfl)
 change wpList _ _ _ _ _ w2.drew
 go_wp2_with (with_reducible refine wpList_copy_cells rfl (.tmp 50) (.tmp 53) 99 99 rfl 40 2 Tryz.underlying99 i40sz w.heap.size ((i + 1) * 2) (n - i) (nc - (i + 1)) ⟨g,i * 2,none⟩ (n - i) (cap - i) ?e1 ?e2 _ 40 HB2.out (xs.drop (i * 2)) E3.out E1.out E4.out E2.out ?_)
 case e1=>rfl
 case e2=>rfl
 intro w3 hw3
 go_wp2_with fail
 go_ret
 have HB3 : w3.heap[w.heap.size]? = some (.cells (splice (splice R1 (i * 2) [.int .i64 N,.string D]) ((i + 1) * 2) (xs.drop (i * 2))).toArray 40 (0,0)):=by
  rw [hw3.out];exact setRow_heap _ _ _ _ _ _ HB2.out
 have HD3 : Below w.heap.size w w3:=by rw [hw3.out];exact below_setRow HD2.out (Nat.le_refl _) _
 have hL:=ins_list xs R1 i n nc hx hi hnc HL1.out (by rw [HR1.out,List.take_left' XI.out]) [.int .i64 N,.string D] rfl
 refine ⟨_,rfl,⟨by rw [insAt_len xs i n hx (by omega) _ rfl],Or.inr ⟨w.heap.size,nc,_,rfl,hb,HB3,hnc,HMX.out,?_,?_⟩⟩,⟨HD3.os,HD3.tape,HD3.output,HD3.size,fun k hk _=>HD3.block k hk⟩⟩
 ·rw [List.size_toArray,hL.1]
 ·rw [hL.2]
end
section
open Go.WideMaps Go.Maps
theorem ins_list2 (cur xs : List Value) (i n cap : Nat) (hx : xs.length = n * 2) (hi : i < n) (hcap : n + 1 ≤ cap) (hR : cur.length = cap * 2) (h0 : cur.take (n * 2) = xs) (c : List Value) (hc : c.length = 2) :
  (splice (splice cur ((i + 1) * 2) (xs.drop (i * 2))) (i * 2) c).length = cap * 2 ∧ (splice (splice cur ((i + 1) * 2) (xs.drop (i * 2))) (i * 2) c).take ((n + 1) * 2) = insAt xs i c:=by
 have hl : (xs.drop (i * 2)).length = (n - i) * 2:=by rw [List.length_drop,hx];omega
 have e1 : (splice cur ((i + 1) * 2) (xs.drop (i * 2))).length = cap * 2:=by rw [length_splice _ _ _ (by rw [hl];omega)];exact hR
 have ht : cur.take (i * 2) = xs.take (i * 2):=by rw [← h0,List.take_take,Nat.min_eq_left (by omega)]
 refine ⟨by rw [length_splice _ _ _ (by omega)];exact e1,?_⟩
 have t1 : (splice cur ((i + 1) * 2) (xs.drop (i * 2))).take (i * 2) = xs.take (i * 2):=by
  unfold splice
  rw [List.take_append_of_le_length (by rw [List.length_take];omega),List.take_take,Nat.min_eq_left (by omega),ht]
 have t2 : (splice cur ((i + 1) * 2) (xs.drop (i * 2))).drop (i * 2 + c.length) = xs.drop (i * 2) ++ cur.drop ((n + 1) * 2):=by
  unfold splice
  rw [hc,show i * 2 + 2 = (i + 1) * 2 by omega,List.drop_left' (by rw [List.length_take];omega),hl]
  congr 2;omega
 show ((splice cur ((i + 1) * 2) (xs.drop (i * 2))).take (i * 2) ++ (c ++ (splice cur ((i + 1) * 2) (xs.drop (i * 2))).drop (i * 2 + c.length))).take ((n + 1) * 2) = _
 rw [t1,t2]
 unfold insAt
 rw [← List.append_assoc c,← List.append_assoc (xs.take (i * 2)),List.take_left' (by simp only [List.length_append,List.length_take,List.length_drop,hx,hc];omega)]
theorem insert_room.walk (base n i : Nat) (g cap : Nat) (cur : Array Value) (xs : List Value) (bv : Nat) (N : Int) (D : ByteArray) (w : World) (hi : i < n) (hn : n ≤ 1000) (hb : base ≤ g)
  (hg : w.heap[g]? = some (.cells cur 40 (0,0))) (hx : xs.length = n * 2) (hcur : cur.toList.take (n * 2) = xs) (hcap : n + 1 ≤ cap) (hmx : cap ≤ maxLen) (hsz : cur.size = cap * 2) (h1 : ∀ u ∈ xs,u.oneCell' = true)
  (hv : w.heap[bv]? = some (.cells #[.int .i64 N,.string D] 40 (0,0))) (hne : bv ≠ g) :
  Calls Tryz.prog 92 #[.slice (some ⟨g,0,none⟩) n cap,.int .i64 i,.slice (some ⟨bv,0,none⟩) 1 1] w (InsPost base n i (.slice (some ⟨g,0,none⟩) n cap) xs [.int .i64 N,.string D] w):=by
 have HV:=zh hv;clear hv
 have HG:=zh hg;clear hg
 have HMX:=zh hmx
 unfold maxLen at hmx
 have d0 : ¬ cap = i:=by omega
 have d1 : ¬ cap = 0:=by omega
 have d2 : ((i : Int) == n) = false:=beq_eq_false_iff_ne.2 (by omega)
 have d3 : decide ((cap : Int) < (n : Int) + 1) = false:=by simp;omega
 have d4 : (i : Int) ≤ cap:=by omega
 have d5 : ¬ cap = i + 1:=by omega
 have d8 : (i : Int) + 1 ≤ (n : Int) + 1:=by omega
 have d9 : (0 : Int) ≤ (i : Int) + 1:=by omega
 have d10 : (0 : Int) ≤ (i : Int):=by omega
 have d11 : (i : Int) ≤ (n : Int):=by omega
 have d12 : (n : Int) + 1 ≤ cap:=by omega
 have d13 : (i : Int) ≤ (n : Int) + 1:=by omega
 have HX:=zh hx;have HCUR:=zh hcur;have HSZ:=zh hsz
 have XD:=zh (show ∀ (j : Nat) (u : Value),(xs.drop (i * 2))[j]? = some u → w.cell? ((⟨g,i * 2,none⟩ : Addr).add j) = some u from fun j u hu=>by
  rw [add_at,blk_cell HG.out]
  rw [List.getElem?_drop,← hcur,List.getElem?_take] at hu
  split at hu
  ·simpa using hu
  ·cases hu)
 have HOV:=zh (fun (W : World) (hW : W.heap = w.heap)=>show (callFunc 135 #[.slice (some ⟨bv,0,none⟩) 1 1,.slice (some ⟨g,(i + 1) * 2,none⟩) (n - i) (cap - (i + 1))]).run Tryz.prog W = .ok (.value (.bool false)) W by
  have h1 : W.heap[bv]? = some (.cells #[.int .i64 N,.string D] 40 (0,0)):=by rw [hW];exact HV.out
  have h2 : W.heap[g]? = some (.cells cur 40 (0,0)):=by rw [hW];exact HG.out
  rw [run_callFunc_extern Tryz.func135 (by kernel_rfl) (by kernel_rfl) (by kernel_rfl) (e:=Extern.SlicesOverlaps.overlaps #[99,99] #[4]) (by kernel_rfl)]
  rw [Lib.run_overlaps_apart (P:=Tryz.prog) W 99 4 40 Tryz.underlying99 2 Tryz.sizeOf40 ⟨bv,0,none⟩ ⟨g,(i + 1) * 2,none⟩ 1 1 (n - i) (cap - (i + 1)) hne 40 40 2 cur.size (by simp [World.shape?,h1]) (by simp [World.shape?,h2]) (by omega) (blk_frozen h1 0) (blk_frozen h1 2)]
  rfl)
 clear hcur hx hsz hmx
 have ho:=HOV.out w rfl
 go_enter Tryz.func92,Tryz.ntmps92
 go_wp2_with fail
 clear ho
 have q1 : IntKind.i64.wrap ((i : Int) + 1) = (i : Int) + 1:=by rw [IntKind.wrap_i64];omega
 have q2 : ((i : Int) + 1).toNat = i + 1:=by omega
 have hl : (xs.drop (i * 2)).length = (n - i) * 2:=by rw [List.length_drop,HX.out];omega
 have hcl : cur.toList.length = cap * 2:=by rw [Array.length_toList,HSZ.out]
 have E1 : Hid (∀ (j : Nat) (u : Value),(xs.drop (i * 2))[j]? = some u → w.drew.cell? ((⟨g,i * 2,none⟩ : Addr).add j) = some u):=fun j u hu=>XD.out j u hu
 have E2 : Hid (∀ u ∈ xs.drop (i * 2),u.oneCell' = true):=fun u hu=>h1 u (List.mem_of_mem_drop hu)
 have E3 : Hid ((xs.drop (i * 2)).length = Nat.min (n + 1 - i) (n - i) * 2):=by unfold Hid;rw [hl,show Nat.min (n + 1 - i) (n - i) = n - i from Nat.min_eq_right (by omega)]
 have E4 : Hid ((i + 1) * 2 + (xs.drop (i * 2)).length ≤ cur.size):=by unfold Hid;rw [hl,HSZ.out];omega
 have HGd : Hid (w.drew.heap[g]? = some (.cells cur 40 (0,0))):=HG
 have HIL:=zh (ins_list2 cur.toList xs i n cap HX.out hi hcap hcl HCUR.out [.int .i64 N,.string D] rfl)
 have HSL : Hid ((splice cur.toList ((i + 1) * 2) (xs.drop (i * 2))).length = cap * 2):=by unfold Hid;rw [length_splice _ _ _ (by rw [hl,hcl];omega)];exact hcl
 clear hl hcl
 go_still_tail 8,(by kernel_rfl)
 change wpList _ _ _ _ _ w.drew
 clear q1 q2
 go_wp2_with (with_reducible refine wpList_copy_cells rfl (.tmp 73) (.tmp 76) 99 99 rfl 40 2 Tryz.underlying99 i40sz g ((i + 1) * 2) (n - i) (cap - (i + 1)) ⟨g,i * 2,none⟩ (n + 1 - i) (cap - i) ?e1 ?e2 cur 40 HGd.out (xs.drop (i * 2)) E3.out E1.out E4.out E2.out ?_)
 case e1=>rfl
 case e2=>rfl
 intro w2 hw2
 have HB2 : Hid (w2.heap[g]? = some (.cells (splice cur.toList ((i + 1) * 2) (xs.drop (i * 2))).toArray 40 (0,0))):=by
  unfold Hid;rw [hw2.out];exact setRow_heap _ _ _ _ _ _ HGd.out
 have HO2 : Hid (Only g w w2):=by unfold Hid;rw [hw2.out];exact ((Only.refl g w).drewN 1).setRow _
 have F1 : Hid (∀ (j : Nat) (u : Value),([.int .i64 N,.string D] : List Value)[j]? = some u → w2.cell? ((⟨bv,0,none⟩ : Addr).add j) = some u):=World.news_of_block (HO2.out.blk HV.out hne)
 have F2 : Hid (∀ u ∈ ([.int .i64 N,.string D] : List Value),u.oneCell' = true):=by unfold Hid;simp [Value.oneCell']
 have F3 : Hid (([.int .i64 N,.string D] : List Value).length = Nat.min 1 (n + 1 - i) * 2):=by unfold Hid;rw [show Nat.min 1 (n + 1 - i) = 1 from Nat.min_eq_left (by omega)];rfl
 have F4 : Hid (i * 2 + ([.int .i64 N,.string D] : List Value).length ≤ (splice cur.toList ((i + 1) * 2) (xs.drop (i * 2))).toArray.size):=by unfold Hid;rw [List.size_toArray,HSL.out];simp;omega
 clear hw2
 go_wp2_with (with_reducible refine wpList_copy_cells rfl (.tmp 80) (.tmp 81) 99 99 rfl 40 2 Tryz.underlying99 i40sz g (i * 2) (n + 1 - i) (cap - i) ⟨bv,0,none⟩ 1 1 ?f1 ?f2 _ 40 HB2.out [.int .i64 N,.string D] F3.out F1.out F4.out F2.out ?_)
 case f1=>rfl
 case f2=>rfl
 intro w3 hw3
 go_wp2_with fail
 go_ret
 have HB3 : w3.heap[g]? = some (.cells (splice (splice cur.toList ((i + 1) * 2) (xs.drop (i * 2))) (i * 2) [.int .i64 N,.string D]).toArray 40 (0,0)):=by
  rw [hw3.out];exact setRow_heap _ _ _ _ _ _ HB2.out
 have HD3 : Only g w w3:=by rw [hw3.out];exact HO2.out.setRow _
 refine ⟨_,rfl,⟨by rw [insAt_len xs i n HX.out (by omega) _ rfl],Or.inr ⟨g,cap,_,rfl,hb,HB3,hcap,HMX.out,?_,?_⟩⟩,⟨HD3.os,HD3.tape,HD3.output,HD3.size,fun k hk hg=>HD3.block k hk (fun e=>hg (by rw [e];rfl))⟩⟩
 ·rw [List.size_toArray,HIL.out.1]
 ·rw [HIL.out.2]
theorem insert.walk (base n i : Nat) (v : Value) (xs : List Value) (bv : Nat) (N : Int) (D : ByteArray) (w : World) (hown : w.ownsRow base 40 2 v n xs) (hb : base ≤ w.heap.size) (hi : i ≤ n) (hn : n ≤ 1000) (h1 : ∀ u ∈ xs,u.oneCell' = true)
  (hv : w.heap[bv]? = some (.cells #[.int .i64 N,.string D] 40 (0,0))) (hne : v.ownBlock ≠ some bv) :
  Calls Tryz.prog 92 #[v,.int .i64 i,.slice (some ⟨bv,0,none⟩) 1 1] w (InsPost base n i v xs [.int .i64 N,.string D] w):=by
 rcases Nat.eq_or_lt_of_le hi with rfl | hlt
 ·exact insert_end.walk base i v xs bv N D w hown hb hn hv
 ·rcases hown.2 with ⟨_,h0⟩ | ⟨g,cap,cur,rfl,hbg,hg,hnc,hcm,hcs,htake⟩
  ·omega
  ·by_cases hroom : n + 1 ≤ cap
   ·exact insert_room.walk base n i g cap cur xs bv N D w hlt hn hbg hg hown.1 htake hroom hcm hcs h1 hv (fun e=>hne (by rw [e];rfl))
   ·exact insert_grow.walk base n i g cap cur xs bv N D w hlt hn hb hg hown.1 htake hnc (by omega) h1 hv
end
section
open Go.WideMaps Go.Maps
def cell40 (p : S40) : List Value:=[.int .i64 p.f0,.string p.f1]
def cells40 (l : List S40) : List Value:=(l.map cell40).flatten
theorem cells40_len (l : List S40) : (cells40 l).length = l.length * 2:=by
 unfold cells40
 rw [flat_len (sz:=2) (by intro c hc;obtain ⟨p,_,rfl⟩:=List.mem_map.1 hc;rfl),List.length_map]
theorem cells40_one (l : List S40) : ∀ u ∈ cells40 l,u.oneCell' = true:=by
 intro u hu
 obtain ⟨c,hc,hu⟩:=List.mem_flatten.1 hu
 obtain ⟨p,_,rfl⟩:=List.mem_map.1 hc
 simp [cell40] at hu
 rcases hu with rfl | rfl <;> rfl
theorem rows40 {w : World} {l : List S40} {rows : List (List Value)} (h : RowsOf k40 w l rows) : rows = l.map cell40:=by
 apply List.ext_getElem?
 intro j
 rw [List.getElem?_map]
 rcases Nat.lt_or_ge j l.length with hj | hj
 ·have hj' : j < rows.length:=by have:=h.len;omega
  rw [List.getElem?_eq_getElem hj,List.getElem?_eq_getElem hj']
  exact congrArg some (k40_open (h.at_ j _ _ (List.getElem?_eq_getElem hj) (List.getElem?_eq_getElem hj')))
 ·rw [List.getElem?_eq_none hj,List.getElem?_eq_none (by have:=h.len;omega)];rfl
theorem rowsOf40 (w : World) (l : List S40) : RowsOf k40 w l (l.map cell40):=by
 refine ⟨by simp,fun j x c hx hc=>?_⟩
 rw [List.getElem?_map,hx] at hc
 injection hc with hc
 subst hc
 exact k40_mk w x
theorem own40 {w : World} {base : Nat} {v : Value} {l : List S40} (h : w.ownsRow base 40 2 v l.length (cells40 l)) : ∃ A c,v = .slice A l.length c ∧ l.length ≤ c ∧ Kd.C k40 w A l.length l:=by
 rcases h.2 with ⟨h1,h2⟩ | ⟨g,cap,cur,h1,hg,hh,hn,hm,_⟩
 ·have : l = []:=List.length_eq_zero_iff.1 h2
  subst this
  exact ⟨none,0,h1,Nat.le_refl _,Kd.C_nil _ _⟩
 ·subst h1
  exact ⟨_,cap,rfl,hn,rows_C (rowsOf40 w l) (own_raw h) (by unfold maxLen at hm;omega)⟩
theorem clone39_any {w : World} {A : Option Addr} {c : Nat} {l : List S40} (hr : Kd.C k40 w A l.length l) (hn : l.length ≤ 1000000) :
  Calls Tryz.prog 91 #[.slice A l.length c] w fun e w'=>∃ v,e = .returned v ∧ w'.ownsRow w.heap.size 40 2 v l.length (cells40 l) ∧ Below w.heap.size w w':=by
 cases A with
 | none =>
  have h0 : l.length = 0:=by
   rcases Nat.eq_zero_or_pos l.length with h | h
   ·exact h
   ·obtain ⟨ad,e,_⟩:=hr.2.2 h;cases e
  have : l = []:=List.length_eq_zero_iff.1 h0
  subst this
  refine (clone39_nil 0 c w).mono ?_
  rintro e w' ⟨rfl,hb⟩
  exact ⟨_,rfl,own_nil _ _ _ _,hb⟩
 | some ad =>
  obtain ⟨rows,h1,h2⟩:=C_rows hr
  rw [rows40 h1] at h2
  exact clone39.walk ad l.length c (cells40 l) w (cells40_len l) (cells40_one l) h2 hn
theorem insAt40 (l : List S40) (k : Nat) (p : S40) : insAt (cells40 l) k (cell40 p) = cells40 (l.take k ++ (p :: l.drop k)):=by
 have h : ∀ (l : List S40) (k : Nat),(cells40 l).take (k * 2) = cells40 (l.take k) ∧ (cells40 l).drop (k * 2) = cells40 (l.drop k):=by
  intro l
  induction l with
  | nil=>intro k;simp [cells40]
  | cons x l ih =>
   intro k
   rcases k with _ | k
   ·simp [cells40]
   ·obtain ⟨a,b⟩:=ih k
    have e : cells40 (x :: l) = .int .i64 x.f0 :: .string x.f1 :: cells40 l:=rfl
    rw [e,show (k + 1) * 2 = k * 2 + 1 + 1 by omega,List.take_succ_cons,List.take_succ_cons,List.drop_succ_cons,List.drop_succ_cons,a,b]
    exact ⟨rfl,rfl⟩
 unfold insAt
 rw [(h l k).1,(h l k).2]
 unfold cells40
 rw [List.map_append,List.flatten_append]
 rfl
theorem set40 (l : List S40) (k : Nat) (p : S40) (hk : k < l.length) : ((cells40 l).set (k * 2) (.int .i64 p.f0)).set (k * 2 + 1) (.string p.f1) = cells40 (l.set k p):=by
 induction l generalizing k with
 | nil=>simp at hk
 | cons x l ih =>
  have e : ∀ x (l : List S40),cells40 (x :: l) = .int .i64 x.f0 :: .string x.f1 :: cells40 l:=fun _ _=>rfl
  rcases k with _ | k
  ·rfl
  ·have:=ih k (by simpa using hk)
   rw [e,show (k + 1) * 2 = k * 2 + 1 + 1 by omega,List.set_cons_succ,List.set_cons_succ,List.set_cons_succ,List.set_cons_succ,this,List.set_cons_succ,e]
theorem fine_sorted {u : Int} {key : ByteArray} {l : List S40} (h : fineB u key l = true) : SortedP l ∧ l.length ≤ 30:=by
 unfold fineB at h
 simp only [Bool.and_eq_true,decide_eq_true_eq] at h
 obtain ⟨_,_,hl,ha⟩:=h
 have hj : ∀ (j : Nat) (hj : j < l.length),mayB l[j] = true ∧ (0 < j → l[j - 1].f0 < l[j].f0):=by
  intro j hj
  have:=allFrom_at ha j (by omega) (by omega)
  unfold adjB at this
  rw [Bool.and_eq_true,Bool.or_eq_true] at this
  rw [List.getD_eq_getElem?_getD,List.getElem?_eq_getElem hj,List.getD_eq_getElem?_getD,List.getElem?_eq_getElem (show j - 1 < l.length by omega)] at this
  refine ⟨this.1,fun h0=>?_⟩
  rcases this.2 with h | h
  ·have : j = 0:=by simpa using h
   omega
  ·simpa using h
 refine ⟨⟨fun j h=>?_,fun i j h hj'=>?_⟩,hl⟩
 ·have:=(hj j h).1
  unfold mayB at this
  simp only [Bool.and_eq_true,decide_eq_true_eq] at this
  exact ⟨this.1,this.2.1⟩
 ·induction j with
  | zero=>omega
  | succ j ih =>
   have h1 : l[j].f0 < l[j + 1].f0:=(hj (j + 1) hj').2 (by omega)
   rcases Nat.eq_or_lt_of_le (Nat.le_of_lt_succ h) with rfl | h2
   ·exact h1
   ·have:=ih h2 (by omega);omega
theorem check_fine {l : List S101} (h : checkB l = true) : l.length ≤ 10 ∧ ∀ (j : Nat) (hj : j < l.length),fineB l[j].f0 l[j].f1 l[j].f2 = true:=by
 unfold checkB at h
 simp only [Bool.and_eq_true,decide_eq_true_eq] at h
 refine ⟨h.1,fun j hj=>?_⟩
 have:=allFrom_at h.2 j (by omega) (by omega)
 unfold adjU at this
 rw [Bool.and_eq_true,List.getD_eq_getElem?_getD,List.getElem?_eq_getElem hj] at this
 exact this.1
end
section
open Go.WideMaps Go.Maps
def layParts (l : List S40) (p : S40) : List S40:=if thereP l p.f0 = true then l.set (lowP l p.f0) p else l.take (lowP l p.f0) ++ (p :: l.drop (lowP l p.f0))
def layR (l : List S101) (id : Int) (p : S40) : List S101 × Int × Int :=
 if checkB l = false ∨ mayB p = false then ([],0,1)
 else match posU l id with
  | none=>([],0,4)
  | some i =>
   if thereP (l.getD i z101).f2 p.f0 = false ∧ (l.getD i z101).f2.length = 30 then ([],0,6)
   else (l.set i ⟨(l.getD i z101).f0,(l.getD i z101).f1,layParts (l.getD i z101).f2 p⟩,tagOf p.f1,0)
def ListPost (r : List S101) (rest : List Value) (w : World) (e : Ending) (w' : World) : Prop :=
 ∃ A c,e = .returned (.tuple (#[.slice A r.length c] ++ rest.toArray)) ∧ r.length ≤ c ∧ Kd.C k101 w' A r.length r ∧ Below w.heap.size w w'
theorem may_calls (p : S40) (w : World) : Calls Tryz.prog 88 #[.agg #[.int .i64 p.f0,.string p.f1]] w fun e w'=>e = .returned (.bool (mayB p)) ∧ Below w.heap.size w w' :=
 parts_may.calls p.f0 p.f1 _ w (may_of p)
theorem lay_err.walk (A : Option Addr) (c : Nat) (l : List S101) (id : Int) (p : S40) (w : World) (hr : Kd.C k101 w A l.length l) (hc : l.length ≤ c) (e : Int) (he : e = 1 ∨ e = 4)
  (hp : checkB l = false ∧ e = 1 ∨ checkB l = true ∧ mayB p = false ∧ e = 1 ∨ checkB l = true ∧ mayB p = true ∧ posU l id = none ∧ e = 4) :
  Calls Tryz.prog 42 #[.slice A l.length c,.int .u64 id,.agg #[.int .i64 p.f0,.string p.f1]] w (ListPost [] [.int .u32 0,.int .i64 e] w):=by
 have HB0 : Hid (Below w.heap.size w w):=Below.refl _ _
 have HA:=zh (HB0.out.alloc (Nat.le_refl _) (.cells #[.int .i64 p.f0,.string p.f1] 40))
 have HZ:=zh (place.walk A c l id _ (Kd.C_below hr HA.out) hc)
 have HM:=zh (fun W=>may_calls p W)
 clear hr
 have fin : ∀ w',Below w.heap.size w w' → ListPost [] [.int .u32 0,.int .i64 e] w (.returned (.tuple #[.slice none 0 0,.int .u32 0,.int .i64 e])) w':=fun w' hb=>⟨none,0,rfl,Nat.le_refl _,Kd.C_nil _ _,hb⟩
 have FIN:=zh fin;clear fin
 rcases hp with ⟨h1,rfl⟩ | ⟨h1,h2,rfl⟩ | ⟨h1,h2,h3,rfl⟩
 ·have e1 : placeR l id = (0,1):=by unfold placeR;rw [if_pos h1]
  rw [e1] at HZ
  clear h1 e1 he
  go_enter Tryz.func42,Tryz.ntmps42
  go_wp2_with (first | (go_at_call 87;refine HZ.out.mono ?_;rintro e w1 ⟨rfl,hb⟩;have HB1:=keepB HA hb;clear hb))
  go_ret3
  exact FIN.out _ HB1.out
 ·rw [h2] at HM
  obtain ⟨x,y,e1,hy⟩ : ∃ x y,placeR l id = (x,y) ∧ (y = 0 ∨ y = 4):=by
   unfold placeR;rw [if_neg (by simp [h1])]
   cases posU l id
   ·exact ⟨_,_,rfl,Or.inr rfl⟩
   ·exact ⟨_,_,rfl,Or.inl rfl⟩
  rw [e1] at HZ
  clear h1 h2 e1 he
  rcases hy with rfl | rfl
  all_goals
   go_enter Tryz.func42,Tryz.ntmps42
   go_wp2_with (first | (go_at_call 87;refine HZ.out.mono ?_;rintro e w1 ⟨rfl,hb⟩;have hk1:=blk_below (blk_new w _) hb;have c0:=(blk_cell hk1 0).trans rfl;have c1:=(blk_cell hk1 1).trans rfl;have HB1:=keepB HA hb;clear hb hk1) | (go_at_call 88;refine (HM.out _).mono ?_;rintro e w2 ⟨rfl,hb⟩;have HB2:=keepB HB1 hb;clear hb))
   go_ret3
   exact FIN.out _ HB2.out
 ·rw [h2] at HM
  have e1 : placeR l id = (0,4):=by unfold placeR;rw [if_neg (by simp [h1]),h3]
  rw [e1] at HZ
  clear h1 h2 h3 e1 he
  go_enter Tryz.func42,Tryz.ntmps42
  go_wp2_with (first | (go_at_call 87;refine HZ.out.mono ?_;rintro e w1 ⟨rfl,hb⟩;have hk1:=blk_below (blk_new w _) hb;have c0:=(blk_cell hk1 0).trans rfl;have c1:=(blk_cell hk1 1).trans rfl;have HB1:=keepB HA hb;clear hb hk1) | (go_at_call 88;refine (HM.out _).mono ?_;rintro e w2 ⟨rfl,hb⟩;have HB2:=keepB HB1 hb;clear hb))
  go_ret3
  exact FIN.out _ HB2.out
end
section
open Go.WideMaps Go.Maps
theorem keepK {w w' : World} {g : Nat} {o : Obj} (h : Hid (w.heap[g]? = some o)) (hb : Below w.heap.size w w') : Hid (w'.heap[g]? = some o):=blk_below h.out hb
theorem keepKD {w : World} {g : Nat} {o : Obj} (h : Hid (w.heap[g]? = some o)) : Hid (w.drew.heap[g]? = some o):=h
theorem keepcD {w : World} {p : Addr} {v : Value} (h : w.cell? p = some v) : w.drew.cell? p = some v:=h
theorem k101_row {w : World} {x : S101} {c : List Value} (h : k101.K w x c) : ∃ A2 c2,c = [.int .u64 x.f0,.string x.f1,.slice A2 x.f2.length c2] ∧ x.f2.length ≤ c2 ∧ Kd.C k40 w A2 x.f2.length x.f2:=k101_open h
theorem flat_set {rows : List (List Value)} {sz : Nat} (h : ∀ c ∈ rows,c.length = sz) (i j : Nat) (hi : i < rows.length) (hj : j < sz) (v : Value) : rows.flatten.set (i * sz + j) v = (rows.set i (rows[i].set j v)).flatten:=by
 induction rows generalizing i with
 | nil=>simp at hi
 | cons c rows ih =>
  have hc:=h c List.mem_cons_self
  rcases i with _ | i
  ·rw [List.flatten_cons,Nat.zero_mul,Nat.zero_add,List.set_append_left _ _ (by omega)];rfl
  ·rw [List.flatten_cons,List.set_append_right _ _ (by rw [hc,Nat.add_mul];omega),hc,show (i + 1) * sz + j - sz = i * sz + j by rw [Nat.add_mul];omega,ih (fun d hd=>h d (List.mem_cons_of_mem _ hd)) i (by simpa using hi)]
   rfl
theorem blk_raw {w : World} {g : Nat} {cur : Array Value} {t : TypeId} {cs : List Value} (h : w.heap[g]? = some (.cells cur t (0,0))) (m : Nat) (ht : cur.toList.take m = cs) : RawAt w ⟨g,0,none⟩ cs:=by
 intro j u hu
 rw [add_at,Nat.zero_add,blk_cell h]
 rw [← ht,List.getElem?_take] at hu
 split at hu
 ·simpa using hu
 ·cases hu
theorem lay_fin {w : World} (l : List S101) (i : Nat) (hi : i < l.length) (rows : List (List Value)) (hrows : RowsOf k101 w l rows) (W : World) (hb : Below w.heap.size w W) (g1 cap1 : Nat) (cur1 : Array Value) (A' : Option Addr) (m cap' : Nat)
  (hg : W.heap[g1]? = some (.cells (cur1.setIfInBounds (i * 3 + 2) (.slice A' m cap')) 101 (0,0))) (htake : cur1.toList.take (l.length * 3) = rows.flatten) (hcap : l.length ≤ cap1) (x : Value)
  (hrow : rows[i]'(by have:=hrows.len;omega) = [.int .u64 l[i].f0,.string l[i].f1,x]) (f2 : List S40) (hC : Kd.C k40 W A' m f2) (hm : m = f2.length) (hle : f2.length ≤ cap') (rest : List Value) (hl : l.length ≤ 10) :
  ListPost (l.set i ⟨l[i].f0,l[i].f1,f2⟩) rest w (.returned (.tuple (#[.slice (some ⟨g1,0,none⟩) l.length cap1] ++ rest.toArray))) W:=by
 subst hm
 refine ⟨some ⟨g1,0,none⟩,cap1,by rw [List.length_set],by rw [List.length_set];exact hcap,?_,hb⟩
 have hri : i < rows.length:=by have:=hrows.len;omega
 have h1:=(hrows.below hb).set i ⟨l[i].f0,l[i].f1,f2⟩ [.int .u64 l[i].f0,.string l[i].f1,.slice A' f2.length cap'] (k101_mk W ⟨l[i].f0,l[i].f1,f2⟩ hle hC)
 refine rows_C h1 (blk_raw hg (l.length * 3) ?_) (by rw [List.length_set];omega)
 rw [Array.toList_setIfInBounds,List.take_set,htake,flat_set (sz:=3) hrows.lens i 2 hri (by omega),hrow]
 rfl
theorem lay_there.walk (ad : Addr) (c : Nat) (l : List S101) (id : Int) (p : S40) (w : World) (hr : Kd.C k101 w (some ad) l.length l) (hc : l.length ≤ c) (i : Nat) (hi : i < l.length)
  (hk : checkB l = true) (hm : mayB p = true) (hp : posU l id = some i) (hth : thereP l[i].f2 p.f0 = true) :
  Calls Tryz.prog 42 #[.slice (some ad) l.length c,.int .u64 id,.agg #[.int .i64 p.f0,.string p.f1]] w (ListPost (layR l id p).1 [.int .u32 (layR l id p).2.1,.int .i64 (layR l id p).2.2] w):=by
 have HB0 : Hid (Below w.heap.size w w):=Below.refl _ _
 obtain ⟨hl10,hfn⟩:=check_fine hk
 obtain ⟨hsort,hl30⟩:=fine_sorted (hfn i hi)
 have hm':=hm
 unfold mayB at hm'
 simp only [Bool.and_eq_true,decide_eq_true_eq] at hm'
 obtain ⟨m0,m1,m2⟩:=hm'
 have HA:=zh (HB0.out.alloc (Nat.le_refl _) (.cells #[.int .i64 p.f0,.string p.f1] 40))
 have HZ:=zh (place.walk (some ad) c l id _ (Kd.C_below hr HA.out) hc)
 have e1 : placeR l id = ((i : Int),0):=by unfold placeR;rw [if_neg (by simp [hk]),hp]
 rw [e1] at HZ
 have HM:=zh (fun W=>may_calls p W)
 rw [hm] at HM
 have HLR : Hid (layR l id p = if thereP l[i].f2 p.f0 = false ∧ l[i].f2.length = 30 then ([],0,6) else (l.set i ⟨l[i].f0,l[i].f1,layParts l[i].f2 p⟩,tagOf p.f1,0)):=by
  unfold Hid layR
  rw [if_neg (by simp [hk,hm]),hp]
  simp [List.getD_eq_getElem?_getD,hi]
 have HLR2 : Hid (layR l id p = (l.set i ⟨l[i].f0,l[i].f1,l[i].f2.set (lowP l[i].f2 p.f0) p⟩,tagOf p.f1,0)):=by
  unfold Hid;rw [HLR.out,if_neg (by simp [hth])];unfold layParts;rw [if_pos hth]
 have hlow : lowP l[i].f2 p.f0 < l[i].f2.length:=by
  unfold lowP
  rw [List.findIdx_lt_length]
  unfold thereP at hth
  obtain ⟨x,hx,hxp⟩:=List.any_eq_true.1 hth
  exact ⟨x,hx,by have e0 : x.f0 = p.f0:=(by simpa using hxp);simp [e0]⟩
 clear e1 hk hm hp hfn HLR
 have HR:=zh hr
 have HSORT:=zh hsort
 clear hr hsort
 obtain ⟨rows,hrows,hraw⟩:=C_rows HR.out
 have hri : i < rows.length:=by have:=hrows.len;omega
 obtain ⟨A2,c2,hrow,g3,g4⟩:=k101_row (hrows.at_ i l[i] rows[i] (List.getElem?_eq_getElem hi) (List.getElem?_eq_getElem hri))
 have hfa : ∀ j v,j < 3 → ([.int .u64 l[i].f0,.string l[i].f1,.slice A2 l[i].f2.length c2] : List Value)[j]? = some v → rows.flatten[i * 3 + j]? = some v:=fun j v hj h=>by
  rw [flat_at (sz:=3) hrows.lens i j hj,List.getElem?_eq_getElem hri,Option.bind_some,hrow];exact h
 have g2:=hraw _ _ (hfa 2 _ (by omega) rfl)
 rw [add_field _ _ 2 (by omega)] at g2
 have hfl : rows.flatten.length = l.length * 3:=by rw [flat_len (sz:=3) hrows.lens,hrows.len]
 have HFA:=zh hfa;have HFL:=zh hfl;have HROWS:=zh hrows;have HRAW:=zh hraw;have HROW:=zh hrow
 have G2:=zh g2;have G3:=zh g3;have G4:=zh g4
 clear g2 g3 g4 hfa hfl hrows hraw hrow
 have HBS:=zh (fun (W : World) (h : Below w.heap.size w W)=>bsearch.walk A2 c2 l[i].f2 p.f0 W (Kd.C_below G4.out h) HSORT.out (by omega) m0 m1)
 simp only [hth] at HBS
 clear hth
 generalize hkk : lowP l[i].f2 p.f0 = k at *
 clear hkk
 go_enter Tryz.func42,Tryz.ntmps42
 go_wp2_with (first | (go_at_call 87;refine HZ.out.mono ?_;rintro e w1 ⟨rfl,hb⟩;have hk1:=blk_below (blk_new w _) hb;have c0:=(blk_cell hk1 0).trans rfl;have c1:=(blk_cell hk1 1).trans rfl;have BK1:=zh hk1;have HB1:=keepB HA hb;clear hb hk1) | (go_at_call 88;refine (HM.out _).mono ?_;rintro e w2 ⟨rfl,hb⟩;have BK2:=zk BK1 hb;have HB2:=keepB HB1 hb;clear hb))
 clear c0 c1
 have c0:=zj BK2 0
 have c1:=zj BK2 1
 have b2:=keepc HB2.out G2.out
 have i0 : (0 : Int) ≤ (i : Int):=by omega
 have i1 : (i : Int) < (l.length : Int):=by omega
 go_region_held3 (fun W=>W.cell? ⟨w.heap.size,0,none⟩ = some (.int .i64 p.f0) ∧ W.cell? ⟨(ad.add (i * 3)).block,(ad.add (i * 3)).off + 2,none⟩ = some (.slice A2 l[i].f2.length c2) ∧ Hid (Below w.heap.size w W) ∧ Hid (W.heap[w.heap.size]? = some (.cells #[.int .i64 p.f0,.string p.f1] 40 (0,0))))
  (((try go_split_ands);refine ⟨?_,?_,?_,?_⟩ <;> first | assumption | (refine keepc hb ?_;assumption) | (refine keepB ?_ hb;assumption) | (refine keepK ?_ hb;assumption) | (refine keepD ?_;assumption) | (refine keepKD ?_;assumption) | (refine keepcD ?_;assumption)))
  (first | (go_at_call 89;refine (HBS.out _ (outB (by first | assumption | exact keepD HB2))).mono ?_;rintro e w' ⟨rfl,hb⟩))
 try go_split_ands
 have HB3 : Hid (Below w.heap.size w w'):=by assumption
 have BK3 : Hid (w'.heap[w.heap.size]? = some (.cells #[.int .i64 p.f0,.string p.f1] 40 (0,0))):=by assumption
 have HCL:=zh (clone34.walk ad l.length c rows.flatten w' HFL.out HROWS.out.one (fun j u hu=>keepc HB3.out (HRAW.out j u hu)) (by omega))
 go_wp2_with (go_at_call 79;refine HCL.out.mono ?_;rintro e w4 ⟨v1,rfl,hown1,hb4⟩;have HB4:=keepB HB3 hb4;have BK4:=keepK BK3 hb4;have HO1:=zh hown1;have HS4:=zh hb4.size;(obtain ⟨g1,cap1,cur1,rfl,q1,q2,q3,q4,q5,q6⟩ : ∃ g1 cap1 cur1,v1 = .slice (some ⟨g1,0,none⟩) l.length cap1 ∧ w'.heap.size ≤ g1 ∧ w4.heap[g1]? = some (.cells cur1 101 (0,0)) ∧ l.length ≤ cap1 ∧ cap1 ≤ maxLen ∧ cur1.size = cap1 * 3 ∧ cur1.toList.take (l.length * 3) = rows.flatten:=(by rcases hown1.2 with ⟨_,h0⟩ | ⟨g,cap,cur,h1,h2,h3,h4,h5,h6,h7⟩;(omega);(exact ⟨g,cap,cur,h1,h2,h3,h4,h5,h6,h7⟩)));have BG1:=zh q2;have Q1:=zh q1;have Q3:=zh q3;have Q4:=zh q4;have Q5:=zh q5;have Q6:=zh q6;have m2 : w4.cell? ⟨g1,i * 3 + 2,none⟩ = some (.slice A2 l[i].f2.length c2):=(by rw [blk_cell BG1.out,← Array.getElem?_toList];have:=HFA.out 2 _ (by omega) rfl;rw [← q6,List.getElem?_take,if_pos (by omega)] at this;exact this);have HC39:=zh (clone39_any (w:=w4) (c:=c2) (Kd.C_below G4.out HB4.out) (by omega));clear hown1 hb4 q1 q2 q3 q4 q5 q6)
 go_wp2_with (go_at_call 91;refine HC39.out.mono ?_;rintro e w5 ⟨v2,rfl,hown2,hb5⟩;have HB5:=keepB HB4 hb5;have BK5:=keepK BK4 hb5;have BG5:=keepK BG1 hb5;have m5:=keepc hb5 m2;have z5:=blk_frozen BG5.out (i * 3 + 2);have HO2:=zh hown2;(obtain ⟨g2,cap2,cur2,rfl,q1,q2,q3,q4,q5,q6⟩ : ∃ g2 cap2 cur2,v2 = .slice (some ⟨g2,0,none⟩) l[i].f2.length cap2 ∧ w4.heap.size ≤ g2 ∧ w5.heap[g2]? = some (.cells cur2 40 (0,0)) ∧ l[i].f2.length ≤ cap2 ∧ cap2 ≤ maxLen ∧ cur2.size = cap2 * 2 ∧ cur2.toList.take (l[i].f2.length * 2) = cells40 l[i].f2:=(by rcases hown2.2 with ⟨_,h0⟩ | ⟨g,cap,cur,h1,h2,h3,h4,h5,h6,h7⟩;(omega);(exact ⟨g,cap,cur,h1,h2,h3,h4,h5,h6,h7⟩)));have BG2:=zh q2;have P1:=zh q1;have P3:=zh q3;have P4:=zh q4;have P5:=zh q5;have P6:=zh q6;clear hown2 hb5 q1 q2 q3 q4 q5 q6)
 clear m2 m5 z5 b2 c0 c1
 obtain ⟨v2,hv2⟩ : ∃ v2 : Value,v2 = .slice (some ⟨g2,0,none⟩) l[i].f2.length cap2:=⟨_,rfl⟩
 obtain ⟨w6,hw6⟩ : ∃ w6,w6 = w5.setCell ⟨g1,i * 3 + 2,none⟩ (.slice (some ⟨g2,0,none⟩) l[i].f2.length cap2):=⟨_,rfl⟩
 rw [← hw6]
 have HV2:=zh hv2
 rw [← hv2] at hw6
 have HW6:=zh hw6
 clear hv2 hw6
 have L3 : w.heap.size < w'.heap.size:=blk_lt BK3.out
 have L4 : g1 < w4.heap.size:=blk_lt BG1.out
 have L5 : g1 < g2:=Nat.lt_of_lt_of_le L4 P1.out
 have L6 : w.heap.size < g1:=Nat.lt_of_lt_of_le L3 Q1.out
 have BG6 : Hid (w6.heap[g1]? = some (.cells (cur1.setIfInBounds (i * 3 + 2) v2) 101 (0,0))):=by unfold Hid;rw [HW6.out];exact blk_set BG5.out _ _
 have BG62 : Hid (w6.heap[g2]? = some (.cells cur2 40 (0,0))):=by unfold Hid;rw [HW6.out];exact blk_far BG2.out (p:=⟨g1,i * 3 + 2,none⟩) (Nat.ne_of_gt L5) _
 have BK6 : Hid (w6.heap[w.heap.size]? = some (.cells #[.int .i64 p.f0,.string p.f1] 40 (0,0))):=by unfold Hid;rw [HW6.out];exact blk_far BK5.out (p:=⟨g1,i * 3 + 2,none⟩) (Nat.ne_of_lt L6) _
 have HB6 : Hid (Below w.heap.size w w6):=by unfold Hid;rw [HW6.out];exact HB5.out.setCell (p:=⟨g1,i * 3 + 2,none⟩) (Nat.le_of_lt L6) _
 have r2 : w6.cell? ⟨g1,i * 3 + 2,none⟩ = some (.slice (some ⟨g2,0,none⟩) l[i].f2.length cap2):=by
  rw [blk_cell BG6.out,Array.getElem?_setIfInBounds,if_pos rfl,if_pos (by rw [Q5.out];have:=Q3.out;omega),HV2.out]
 have c0:=zj BK6 0
 have c1:=zj BK6 1
 have P3':=P3.out
 have P5':=P5.out
 obtain ⟨y0,s0⟩ : ∃ y,w6.cell? ⟨g2,k * 2,none⟩ = some y:=by rw [blk_cell BG62.out];exact ⟨_,Array.getElem?_eq_getElem (by omega)⟩
 obtain ⟨y1,s1⟩ : ∃ y,w6.cell? ⟨g2,k * 2 + 1,none⟩ = some y:=by rw [blk_cell BG62.out];exact ⟨_,Array.getElem?_eq_getElem (by omega)⟩
 have f0:=blk_frozen BG62.out (k * 2)
 have f1:=blk_frozen BG62.out (k * 2 + 1)
 clear P3' P5'
 have k0 : (0 : Int) ≤ (k : Int):=by omega
 have k1 : (k : Int) < (l[i].f2.length : Int):=by omega
 go_still_tail 8,(by kernel_rfl)
 change wpList _ _ _ _ _ w6.drew
 go_wp2_with (go_at_call 93;refine (tag_Of.walk p.f1 (by omega) _).mono ?_;rintro e w7 ⟨rfl,hb7⟩;have HB7:=zh hb7;clear hb7)
 go_ret3
 have hb7 : Below w.heap.size w w7:=((((HB6.out.setCell (p:=⟨g2,k * 2,none⟩) (by show w.heap.size ≤ g2;omega) (.int .i64 p.f0)).setCell (p:=⟨g2,k * 2 + 1,none⟩) (by show w.heap.size ≤ g2;omega) (.string p.f1)).drew)).trans (HB7.out.mono (((HB6.out.setCell (p:=⟨g2,k * 2,none⟩) (by show w.heap.size ≤ g2;omega) (.int .i64 p.f0)).setCell (p:=⟨g2,k * 2 + 1,none⟩) (by show w.heap.size ≤ g2;omega) (.string p.f1)).drew).size)
 have k7 : w7.heap[g1]? = some (.cells (cur1.setIfInBounds (i * 3 + 2) v2) 101 (0,0)) :=
  blk_below (blk_drew (blk_far (p:=⟨g2,k * 2 + 1,none⟩) (blk_far (p:=⟨g2,k * 2,none⟩) BG6.out (Nat.ne_of_lt L5) (.int .i64 p.f0)) (Nat.ne_of_lt L5) (.string p.f1))) HB7.out
 have k72 : w7.heap[g2]? = some (.cells ((cur2.setIfInBounds (k * 2) (.int .i64 p.f0)).setIfInBounds (k * 2 + 1) (.string p.f1)) 40 (0,0)) :=
  blk_below (blk_drew (blk_set (blk_set BG62.out (k * 2) (.int .i64 p.f0)) (k * 2 + 1) (.string p.f1))) HB7.out
 rw [HV2.out] at k7
 rw [HLR2.out]
 refine lay_fin l i hi rows HROWS.out w7 hb7 g1 cap1 cur1 _ _ _ k7 Q6.out Q3.out _ HROW.out (l[i].f2.set k p) ?_ (by simp) (by rw [List.length_set];exact P3.out) _ hl10
 have:=rows_C (rowsOf40 w7 (l[i].f2.set k p)) (ad:=⟨g2,0,none⟩) (blk_raw k72 (l[i].f2.length * 2) ?_) (by rw [List.length_set];omega)
 ·rw [List.length_set] at this;exact this
 ·rw [Array.toList_setIfInBounds,Array.toList_setIfInBounds,List.take_set,List.take_set,P6.out,set40 _ _ _ hlow];rfl
end
section
open Go.WideMaps Go.Maps
theorem own_shape {w : World} {base n sz : Nat} {e : TypeId} {v : Value} {xs : List Value} (ho : w.ownsRow base e sz v n xs) : ∃ A c,v = .slice A n c:=by
 rcases ho.2 with ⟨h1,h2⟩ | ⟨g,cap,cur,h1,_⟩
 ·exact ⟨none,0,by rw [h1,h2]⟩
 ·exact ⟨_,_,h1⟩
theorem own_heap {w W : World} (h : W.heap = w.heap) {base n sz : Nat} {e : TypeId} {v : Value} {xs : List Value} (ho : w.ownsRow base e sz v n xs) : W.ownsRow base e sz v n xs:=by
 unfold World.ownsRow at ho ⊢
 rw [h];exact ho
theorem lay_new.walk (ad : Addr) (c : Nat) (l : List S101) (id : Int) (p : S40) (w : World) (hr : Kd.C k101 w (some ad) l.length l) (hc : l.length ≤ c) (i : Nat) (hi : i < l.length)
  (hk : checkB l = true) (hm : mayB p = true) (hp : posU l id = some i) (hth : thereP l[i].f2 p.f0 = false) :
  Calls Tryz.prog 42 #[.slice (some ad) l.length c,.int .u64 id,.agg #[.int .i64 p.f0,.string p.f1]] w (ListPost (layR l id p).1 [.int .u32 (layR l id p).2.1,.int .i64 (layR l id p).2.2] w):=by
 have HB0 : Hid (Below w.heap.size w w):=Below.refl _ _
 obtain ⟨hl10,hfn⟩:=check_fine hk
 obtain ⟨hsort,hl30⟩:=fine_sorted (hfn i hi)
 have hm':=hm
 unfold mayB at hm'
 simp only [Bool.and_eq_true,decide_eq_true_eq] at hm'
 obtain ⟨m0,m1,m2⟩:=hm'
 have HA:=zh (HB0.out.alloc (Nat.le_refl _) (.cells #[.int .i64 p.f0,.string p.f1] 40))
 have HZ:=zh (place.walk (some ad) c l id _ (Kd.C_below hr HA.out) hc)
 have e1 : placeR l id = ((i : Int),0):=by unfold placeR;rw [if_neg (by simp [hk]),hp]
 rw [e1] at HZ
 have HM:=zh (fun W=>may_calls p W)
 rw [hm] at HM
 have HLR : Hid (layR l id p = if thereP l[i].f2 p.f0 = false ∧ l[i].f2.length = 30 then ([],0,6) else (l.set i ⟨l[i].f0,l[i].f1,layParts l[i].f2 p⟩,tagOf p.f1,0)):=by
  unfold Hid layR
  rw [if_neg (by simp [hk,hm]),hp]
  simp [List.getD_eq_getElem?_getD,hi]
 have HLR2 : Hid (layR l id p = if l[i].f2.length = 30 then ([],0,6) else (l.set i ⟨l[i].f0,l[i].f1,l[i].f2.take (lowP l[i].f2 p.f0) ++ (p :: l[i].f2.drop (lowP l[i].f2 p.f0))⟩,tagOf p.f1,0)):=by
  unfold Hid;rw [HLR.out];unfold layParts;rw [hth];simp
 have hlow : lowP l[i].f2 p.f0 ≤ l[i].f2.length:=List.findIdx_le_length
 clear e1 hk hm hp hfn HLR
 have HR:=zh hr
 have HSORT:=zh hsort
 clear hr hsort
 obtain ⟨rows,hrows,hraw⟩:=C_rows HR.out
 have hri : i < rows.length:=by have:=hrows.len;omega
 obtain ⟨A2,c2,hrow,g3,g4⟩:=k101_row (hrows.at_ i l[i] rows[i] (List.getElem?_eq_getElem hi) (List.getElem?_eq_getElem hri))
 have hfa : ∀ j v,j < 3 → ([.int .u64 l[i].f0,.string l[i].f1,.slice A2 l[i].f2.length c2] : List Value)[j]? = some v → rows.flatten[i * 3 + j]? = some v:=fun j v hj h=>by
  rw [flat_at (sz:=3) hrows.lens i j hj,List.getElem?_eq_getElem hri,Option.bind_some,hrow];exact h
 have g2:=hraw _ _ (hfa 2 _ (by omega) rfl)
 rw [add_field _ _ 2 (by omega)] at g2
 have hfl : rows.flatten.length = l.length * 3:=by rw [flat_len (sz:=3) hrows.lens,hrows.len]
 have HFA:=zh hfa;have HFL:=zh hfl;have HROWS:=zh hrows;have HRAW:=zh hraw;have HROW:=zh hrow
 have G2:=zh g2;have G3:=zh g3;have G4:=zh g4
 clear g2 g3 g4 hfa hfl hrows hraw hrow
 have HBS:=zh (fun (W : World) (h : Below w.heap.size w W)=>bsearch.walk A2 c2 l[i].f2 p.f0 W (Kd.C_below G4.out h) HSORT.out (by omega) m0 m1)
 simp only [hth] at HBS
 clear hth
 generalize hkk : lowP l[i].f2 p.f0 = k at *
 clear hkk
 go_enter Tryz.func42,Tryz.ntmps42
 go_wp2_with (first | (go_at_call 87;refine HZ.out.mono ?_;rintro e w1 ⟨rfl,hb⟩;have hk1:=blk_below (blk_new w _) hb;have c0:=(blk_cell hk1 0).trans rfl;have c1:=(blk_cell hk1 1).trans rfl;have BK1:=zh hk1;have HB1:=keepB HA hb;clear hb hk1) | (go_at_call 88;refine (HM.out _).mono ?_;rintro e w2 ⟨rfl,hb⟩;have BK2:=zk BK1 hb;have HB2:=keepB HB1 hb;clear hb))
 clear c0 c1
 have c0:=zj BK2 0
 have c1:=zj BK2 1
 have b2:=keepc HB2.out G2.out
 have i0 : (0 : Int) ≤ (i : Int):=by omega
 have i1 : (i : Int) < (l.length : Int):=by omega
 go_region_held3 (fun W=>W.cell? ⟨w.heap.size,0,none⟩ = some (.int .i64 p.f0) ∧ W.cell? ⟨(ad.add (i * 3)).block,(ad.add (i * 3)).off + 2,none⟩ = some (.slice A2 l[i].f2.length c2) ∧ Hid (Below w.heap.size w W) ∧ Hid (W.heap[w.heap.size]? = some (.cells #[.int .i64 p.f0,.string p.f1] 40 (0,0))))
  (((try go_split_ands);refine ⟨?_,?_,?_,?_⟩ <;> first | assumption | (refine keepc hb ?_;assumption) | (refine keepB ?_ hb;assumption) | (refine keepK ?_ hb;assumption) | (refine keepD ?_;assumption) | (refine keepKD ?_;assumption) | (refine keepcD ?_;assumption)))
  (first | (go_at_call 89;refine (HBS.out _ (outB (by first | assumption | exact keepD HB2))).mono ?_;rintro e w' ⟨rfl,hb⟩))
 try go_split_ands
 have HB3 : Hid (Below w.heap.size w w'):=by assumption
 have BK3 : Hid (w'.heap[w.heap.size]? = some (.cells #[.int .i64 p.f0,.string p.f1] 40 (0,0))):=by assumption
 have HCL:=zh (clone34.walk ad l.length c rows.flatten w' HFL.out HROWS.out.one (fun j u hu=>keepc HB3.out (HRAW.out j u hu)) (by omega))
 go_wp2_with (go_at_call 79;refine HCL.out.mono ?_;rintro e w4 ⟨v1,rfl,hown1,hb4⟩;have HB4:=keepB HB3 hb4;have BK4:=keepK BK3 hb4;have HO1:=zh hown1;have HS4:=zh hb4.size;(obtain ⟨g1,cap1,cur1,rfl,q1,q2,q3,q4,q5,q6⟩ : ∃ g1 cap1 cur1,v1 = .slice (some ⟨g1,0,none⟩) l.length cap1 ∧ w'.heap.size ≤ g1 ∧ w4.heap[g1]? = some (.cells cur1 101 (0,0)) ∧ l.length ≤ cap1 ∧ cap1 ≤ maxLen ∧ cur1.size = cap1 * 3 ∧ cur1.toList.take (l.length * 3) = rows.flatten:=(by rcases hown1.2 with ⟨_,h0⟩ | ⟨g,cap,cur,h1,h2,h3,h4,h5,h6,h7⟩;(omega);(exact ⟨g,cap,cur,h1,h2,h3,h4,h5,h6,h7⟩)));have BG1:=zh q2;have Q1:=zh q1;have Q3:=zh q3;have Q4:=zh q4;have Q5:=zh q5;have Q6:=zh q6;have m2 : w4.cell? ⟨g1,i * 3 + 2,none⟩ = some (.slice A2 l[i].f2.length c2):=(by rw [blk_cell BG1.out,← Array.getElem?_toList];have:=HFA.out 2 _ (by omega) rfl;rw [← q6,List.getElem?_take,if_pos (by omega)] at this;exact this);have HC39:=zh (clone39_any (w:=w4) (c:=c2) (Kd.C_below G4.out HB4.out) (by omega));clear hown1 hb4 q1 q2 q3 q4 q5 q6)
 have hsplit : l[i].f2.length = 30 ∨ l[i].f2.length ≠ 30:=by omega
 rcases hsplit with h30 | h30
 ·have d30 : ((l[i].f2.length : Int) == 30) = true:=beq_iff_eq.2 (by omega)
  rw [if_pos h30] at HLR2
  clear h30
  go_wp2_with (go_at_call 91;refine HC39.out.mono ?_;rintro e w5 ⟨v2,rfl,hown2,hb5⟩;(obtain ⟨A',cap2,rfl,_,_⟩:=own40 hown2);have HB5:=keepB HB4 hb5;have BK5:=keepK BK4 hb5;have BG5:=keepK BG1 hb5;have m5:=keepc hb5 m2;have z5:=blk_frozen BG5.out (i * 3 + 2);clear hown2 hb5)
  go_ret3
  rw [HLR2.out]
  exact ⟨none,0,rfl,Nat.le_refl _,Kd.C_nil _ _,HB5.out.setCell (p:=⟨g1,i * 3 + 2,none⟩) (by have:=blk_lt BK3.out;have:=Q1.out;show w.heap.size ≤ g1;omega) _⟩
 ·have d30 : ((l[i].f2.length : Int) == 30) = false:=beq_eq_false_iff_ne.2 (by omega)
  rw [if_neg h30] at HLR2
  clear h30
  go_wp2_with (go_at_call 91;refine HC39.out.mono ?_;rintro e w5 ⟨v2,rfl,hown2,hb5⟩;have HO2:=zh hown2;(obtain ⟨A',cap2,rfl,_,_⟩:=own40 hown2);have HB5:=keepB HB4 hb5;have BK5:=keepK BK4 hb5;have BG5:=keepK BG1 hb5;have m5:=keepc hb5 m2;have z5:=blk_frozen BG5.out (i * 3 + 2);have HS45:=zh hb5.size;clear hown2 hb5)
  clear m2 m5 z5 b2 c0 c1
  obtain ⟨v2,hv2⟩ : ∃ v2 : Value,v2 = .slice A' l[i].f2.length cap2:=⟨_,rfl⟩
  obtain ⟨w6,hw6⟩ : ∃ w6,w6 = w5.setCell ⟨g1,i * 3 + 2,none⟩ (.slice A' l[i].f2.length cap2):=⟨_,rfl⟩
  rw [← hw6]
  have HV2:=zh hv2
  have HO2':=HO2.out
  rw [← hv2] at hw6 HO2'
  have HW6:=zh hw6
  have HO5:=zh HO2'
  clear hv2 hw6 HO2' HO2
  have L3 : w.heap.size < w'.heap.size:=blk_lt BK3.out
  have L4 : g1 < w4.heap.size:=blk_lt BG1.out
  have L6 : w.heap.size < g1:=Nat.lt_of_lt_of_le L3 Q1.out
  have BG6 : Hid (w6.heap[g1]? = some (.cells (cur1.setIfInBounds (i * 3 + 2) v2) 101 (0,0))):=by unfold Hid;rw [HW6.out];exact blk_set BG5.out _ _
  have BK6 : Hid (w6.heap[w.heap.size]? = some (.cells #[.int .i64 p.f0,.string p.f1] 40 (0,0))):=by unfold Hid;rw [HW6.out];exact blk_far BK5.out (p:=⟨g1,i * 3 + 2,none⟩) (Nat.ne_of_lt L6) _
  have HB6 : Hid (Below w.heap.size w w6):=by unfold Hid;rw [HW6.out];exact HB5.out.setCell (p:=⟨g1,i * 3 + 2,none⟩) (Nat.le_of_lt L6) _
  have HO6 : Hid (w6.ownsRow w4.heap.size 40 2 v2 l[i].f2.length (cells40 l[i].f2)):=by
   unfold Hid;rw [HW6.out]
   exact own_move HO5.out (fun q hq=>Below.heap_setCell _ _ _ _ (fun e=>own_ne HO5.out BG5.out (by decide) (by rw [hq,e])))
  have N1:=zh (own_ne HO6.out BG6.out (by decide))
  have N2 : Hid (some w.heap.size ≠ v2.ownBlock):=fun e=>by have:=own_base HO6.out _ e.symm;omega
  have S6 : w4.heap.size ≤ w6.heap.size:=by
   have h2:=HS45.out
   have h3 : w6.heap.size = w5.heap.size:=by rw [HW6.out];simp [World.setCell]
   omega
  have r2 : w6.cell? ⟨g1,i * 3 + 2,none⟩ = some (.slice A' l[i].f2.length cap2):=by
   rw [blk_cell BG6.out,Array.getElem?_setIfInBounds,if_pos rfl,if_pos (by rw [Q5.out];have:=Q3.out;omega),HV2.out]
  have HC6 : Hid ((cur1.setIfInBounds (i * 3 + 2) v2)[i * 3 + 2]? = some v2):=by
   unfold Hid;rw [Array.getElem?_setIfInBounds,if_pos rfl,if_pos (by rw [Q5.out];have:=Q3.out;omega)]
  have c0:=zj BK6 0
  have c1:=zj BK6 1
  have nn1:=World.new_ne w6 _ r2
  have nn2 : g1 < w6.heap.size:=blk_lt BG6.out
  have HIN : Hid (∀ W : World,W.heap = (w6.alloc (.cells #[.int .i64 p.f0,.string p.f1] 40)).heap → Calls Tryz.prog 92 #[.slice A' l[i].f2.length cap2,.int .i64 k,.slice (some ⟨w6.heap.size,0,none⟩) 1 1] W (InsPost w4.heap.size l[i].f2.length k v2 (cells40 l[i].f2) (cell40 p) W)):=by
   intro W hW
   have ho : W.ownsRow w4.heap.size 40 2 v2 l[i].f2.length (cells40 l[i].f2):=own_heap hW (HO6.out.alloc _)
   have hbv : W.heap[w6.heap.size]? = some (.cells #[.int .i64 p.f0,.string p.f1] 40 (0,0)):=by rw [hW];exact blk_new _ _
   have:=insert.walk w4.heap.size l[i].f2.length k v2 (cells40 l[i].f2) w6.heap.size p.f0 p.f1 W ho (by rw [hW];simp;omega) hlow (by omega) (cells40_one _) hbv (fun e=>by
    obtain ⟨cells,hc⟩:=own_typed HO6.out _ e
    exact absurd (blk_lt hc) (Nat.lt_irrefl _))
   rw [HV2.out] at this ⊢
   exact this
  go_region_with (first | (go_at_call 92;refine (HIN.out _ (by exact rfl)).mono ?_;rintro e w8 ⟨v3,rfl,ho8,hg8⟩;have BG8:=zh (blk_grown (blk_drew (blk_alloc BG6.out _)) hg8 N1.out);have BK8:=zh (blk_grown (blk_drew (blk_alloc BK6.out _)) hg8 N2.out);have m8:=(blk_cell BG8.out (i * 3 + 2)).trans HC6.out;have z8:=blk_frozen BG8.out (i * 3 + 2);(obtain ⟨A3,c3,rfl⟩:=own_shape ho8);have HO8:=zh ho8;have HG8:=zh hg8;clear ho8 hg8))
  all_goals
   have c8 : w8.cell? ⟨w.heap.size,1,none⟩ = some (.string p.f1):=zj BK8 1
   have L6' : ¬ g1 = w.heap.size:=by omega
   have L6'' : ¬ w.heap.size = g1:=by omega
   clear c0 c1 r2 nn1
   go_wp2_with (go_at_call 93;refine (tag_Of.walk p.f1 (by omega) _).mono ?_;rintro e w9 ⟨rfl,hb9⟩;have HB9:=zh hb9;clear hb9)
   go_ret3
   have hb8 : Below w.heap.size w w8:=((HB6.out.alloc HB6.out.size (.cells #[.int .i64 p.f0,.string p.f1] 40)).drew).grown HG8.out (by have:=HB6.out.size;simp;omega) (fun q hq=>by have:=own_base HO6.out q hq;omega)
   have hb9 : Below w.heap.size w w9:=(hb8.setCell (p:=⟨g1,i * 3 + 2,none⟩) (Nat.le_of_lt L6) (.slice A3 (l[i].f2.length + 1) c3)).trans (HB9.out.mono (hb8.setCell (p:=⟨g1,i * 3 + 2,none⟩) (Nat.le_of_lt L6) (.slice A3 (l[i].f2.length + 1) c3)).size)
   have kg9:=blk_below (blk_set BG8.out (i * 3 + 2) (.slice A3 (l[i].f2.length + 1) c3)) HB9.out
   rw [Array.setIfInBounds_setIfInBounds] at kg9
   have ho9 : w9.ownsRow w4.heap.size 40 2 (.slice A3 (l[i].f2.length + 1) c3) (l[i].f2.take k ++ (p :: l[i].f2.drop k)).length (cells40 (l[i].f2.take k ++ (p :: l[i].f2.drop k))):=by
    rw [← insAt40,List.length_append,List.length_take,List.length_cons,List.length_drop,show min k l[i].f2.length + (l[i].f2.length - k + 1) = l[i].f2.length + 1 by omega]
    exact pw_own_below (own_move HO8.out (fun q hq=>Below.heap_setCell _ _ _ _ (fun e=>own_ne HO8.out BG8.out (by decide) (by rw [hq,e])))) HB9.out
   obtain ⟨A4,c4,e4,hle,hC⟩:=own40 ho9
   injection e4 with e5 e6 e7
   subst e5 e7
   rw [HLR2.out]
   exact lay_fin l i hi rows HROWS.out w9 hb9 g1 cap1 cur1 _ _ _ kg9 Q6.out Q3.out _ HROW.out (l[i].f2.take k ++ (p :: l[i].f2.drop k)) (by rw [e6];exact hC) e6 hle _ hl10
end
section
open Go.WideMaps Go.Maps
theorem some_of_lt {w : World} {A : Option Addr} {l : List S101} (hr : Kd.C k101 w A l.length l) (h : 0 < l.length) : ∃ ad,A = some ad:=by
 obtain ⟨ad,e,_⟩:=hr.2.2 h;exact ⟨ad,e⟩
theorem lay.walk (A : Option Addr) (c : Nat) (l : List S101) (id : Int) (p : S40) (w : World) (hr : Kd.C k101 w A l.length l) (hc : l.length ≤ c) :
  Calls Tryz.prog 42 #[.slice A l.length c,.int .u64 id,.agg #[.int .i64 p.f0,.string p.f1]] w (ListPost (layR l id p).1 [.int .u32 (layR l id p).2.1,.int .i64 (layR l id p).2.2] w):=by
 cases hk : checkB l
 ·have e : layR l id p = ([],0,1):=by unfold layR;rw [if_pos (Or.inl hk)]
  rw [e]
  exact lay_err.walk A c l id p w hr hc 1 (Or.inl rfl) (Or.inl ⟨hk,rfl⟩)
 ·cases hm : mayB p
  ·have e : layR l id p = ([],0,1):=by unfold layR;rw [if_pos (Or.inr hm)]
   rw [e]
   exact lay_err.walk A c l id p w hr hc 1 (Or.inl rfl) (Or.inr (Or.inl ⟨hk,hm,rfl⟩))
  ·cases hp : posU l id with
   | none =>
    have e : layR l id p = ([],0,4):=by unfold layR;rw [if_neg (by simp [hk,hm]),hp]
    rw [e]
    exact lay_err.walk A c l id p w hr hc 4 (Or.inr rfl) (Or.inr (Or.inr ⟨hk,hm,hp,rfl⟩))
   | some i =>
    obtain ⟨hi,_⟩:=posU_lt hp
    obtain ⟨ad,rfl⟩:=some_of_lt hr (by omega)
    cases hth : thereP l[i].f2 p.f0
    ·exact lay_new.walk ad c l id p w hr hc i hi hk hm hp hth
    ·exact lay_there.walk ad c l id p w hr hc i hi hk hm hp hth
theorem clone34_any {w : World} {A : Option Addr} {c : Nat} {l : List S101} (hr : Kd.C k101 w A l.length l) (hn : l.length ≤ 1000000) :
  Calls Tryz.prog 79 #[.slice A l.length c] w fun e w'=>∃ v rows,e = .returned v ∧ RowsOf k101 w l rows ∧ w'.ownsRow w.heap.size 101 3 v l.length rows.flatten ∧ Below w.heap.size w w':=by
 cases A with
 | none =>
  have h0 : l.length = 0:=by
   rcases Nat.eq_zero_or_pos l.length with h | h
   ·exact h
   ·obtain ⟨ad,e,_⟩:=hr.2.2 h;cases e
  have : l = []:=List.length_eq_zero_iff.1 h0
  subst this
  refine (clone34_nil 0 c w).mono ?_
  rintro e w' ⟨rfl,hb⟩
  exact ⟨_,[],rfl,RowsOf.nil_,own_nil _ _ _ _,hb⟩
 | some ad =>
  obtain ⟨rows,h1,h2⟩:=C_rows hr
  refine (clone34.walk ad l.length c rows.flatten w (by rw [flat_len (sz:=3) h1.lens,h1.len]) h1.one h2 hn).mono ?_
  rintro e w' ⟨v,rfl,ho,hb⟩
  exact ⟨v,rows,rfl,h1,ho,hb⟩
def lastB (l : List S101) (id : Int) : Bool:=decide (0 < l.length) && decide (id ≤ (l.getD (l.length - 1) z101).f0)
def beginR (l : List S101) (id : Int) (key : ByteArray) : List S101 × Int :=
 if checkB l = false ∨ numB id = false ∨ keyB key = false then ([],1)
 else if lastB l id = true then ([],9)
 else if l.length = 10 then ([],6)
 else (l ++ [⟨id,key,[]⟩],0)
theorem num_calls (i : Int) (w : World) : Calls Tryz.prog 78 #[.int .u64 i] w fun e w'=>e = .returned (.bool (numB i)) ∧ Drawn0 w w':=parts_numbered.calls i _ w (num_of i)
theorem key_calls (s : ByteArray) (w : World) : Calls Tryz.prog 77 #[.string s] w fun e w'=>e = .returned (.bool (keyB s)) ∧ Below w.heap.size w w':=name_Key.calls s _ w rfl
theorem outD {w w' : World} (h : Drawn0 w w') : Below w.heap.size w w':=by
 obtain ⟨n,rfl⟩:=h.out
 exact below_drewN _ _ _
theorem begin_fin {w w0 W : World} (l : List S101) (id : Int) (key : ByteArray) (rows : List (List Value)) (hrows : RowsOf k101 w0 l rows) (hb0 : Below w0.heap.size w0 W) (hb : Below w.heap.size w W) (base g cap : Nat)
  (ho : W.ownsRow base 101 3 (.slice (some ⟨g,0,none⟩) (l.length + 1) cap) (l.length + 1) (rows.flatten ++ [.int .u64 id,.string key,.slice none 0 0])) (hl : l.length ≤ 10) :
  ListPost (l ++ [⟨id,key,[]⟩]) [.int .i64 0] w (.returned (.tuple #[.slice (some ⟨g,0,none⟩) (l.length + 1) cap,.int .i64 0])) W:=by
 refine ⟨some ⟨g,0,none⟩,cap,by simp,?_,?_,hb⟩
 ·rcases ho.2 with ⟨h,_⟩ | ⟨g',cap',cur,hv,_,_,hn,_⟩
  ·cases h
  ·injection hv with _ _ e;subst e;simpa using hn
 ·have h1:=(hrows.below hb0).append (RowsOf.one_ (⟨id,key,[]⟩ : S101) [.int .u64 id,.string key,.slice none 0 0] (k101_mk W ⟨id,key,[]⟩ (Nat.le_refl _) (Kd.C_nil _ _)))
  refine rows_C h1 ?_ (by simp;omega)
  have:=own_raw ho
  rwa [List.flatten_append,List.flatten_cons,List.flatten_nil,List.append_nil]
theorem begin_ok.walk (A : Option Addr) (c : Nat) (l : List S101) (id : Int) (key : ByteArray) (w : World) (hr : Kd.C k101 w A l.length l) (hc : l.length ≤ c) (hc1 : checkB l = true) (hn1 : numB id = true) (hk1 : keyB key = true) (hla : lastB l id = false) :
  Calls Tryz.prog 35 #[.slice A l.length c,.int .u64 id,.string key] w (ListPost (if l.length = 10 then [] else l ++ [⟨id,key,[]⟩]) [.int .i64 (if l.length = 10 then 6 else 0)] w):=by
 have HB0 : Hid (Below w.heap.size w w):=Below.refl _ _
 have HK:=zh (check_calls hr hc)
 have HN:=zh (fun W=>num_calls id W)
 have HY:=zh (fun W=>key_calls key W)
 have FIN : Hid (∀ e w',Below w.heap.size w w' → ListPost [] [.int .i64 e] w (.returned (.tuple #[.slice none 0 0,.int .i64 e])) w'):=fun e w' hb=>⟨none,0,rfl,Nat.le_refl _,Kd.C_nil _ _,hb⟩
 have hl10:=(check_fine hc1).1
 rw [hc1] at HK;simp only [hn1] at HN;simp only [hk1] at HY
 have f2 : errB true = 0:=rfl
 rw [f2] at HK
 have HCL : Hid (∀ W,Below w.heap.size w W → Calls Tryz.prog 79 #[.slice A l.length c] W fun e w'=>∃ v rows,e = .returned v ∧ RowsOf k101 W l rows ∧ w'.ownsRow W.heap.size 101 3 v l.length rows.flatten ∧ Below W.heap.size W w'):=fun W hb=>clone34_any (Kd.C_below hr hb) (by omega)
 obtain ⟨i0,hi,hy0,hy1,hy2⟩:=info_parts info101
 clear hc1 hn1 hk1 f2
 unfold lastB at hla
 simp only [Bool.and_eq_false_iff,decide_eq_false_iff_not] at hla
 by_cases h0 : 0 < l.length
 ·obtain ⟨k,hk⟩ : ∃ k,l.length = k + 1:=⟨l.length - 1,by omega⟩
  have hgd : l.getD (l.length - 1) z101 = l[k]'(by omega):=by rw [List.getD_eq_getElem?_getD,show l.length - 1 = k by omega,List.getElem?_eq_getElem (by omega)];rfl
  rw [hgd] at hla
  obtain ⟨ad,rfl⟩:=some_of_lt hr h0
  have HAT : Hid (∀ W,Below w.heap.size w W → W.cell? (ad.add (k * 3)) = some (.int .u64 (l[k]'(by omega)).f0)):=fun W hb=>by
   obtain ⟨ad',_,_,e,h0,_⟩:=atUpload hr hb k (by omega)
   injection e with e;subst e;exact h0
  generalize (l[k]'(by omega)).f0 = x at *
  clear hgd
  have HR:=zh hr
  clear hr
  have q1 : IntKind.i64.wrap ((l.length : Int) - 1) = (k : Int):=by rw [IntKind.wrap_i64];omega
  have q3 : (0 : Int) ≤ (k : Int):=by omega
  have q4 : (k : Int) < (l.length : Int):=by omega
  have d1 : decide ((0 : Int) < (l.length : Int)) = true:=by simp;omega
  have d2 : decide (id ≤ x) = false:=by simp;omega
  have HK1:=zh hk
  by_cases h10 : l.length = 10
  ·have d3 : ((l.length : Int) == 10) = true:=beq_iff_eq.2 (by omega)
   rw [if_pos h10,if_pos h10]
   clear hk hla h0 h10
   go_enter Tryz.func35,Tryz.ntmps35
   go_wp2_with (first | (go_at_call 68;refine HK.out.mono ?_;rintro e w1 ⟨rfl,hb⟩;have HB1:=keepB HB0 hb;clear hb) | (go_at_call 78;refine (HN.out _).mono ?_;rintro e w2 ⟨rfl,hb⟩;have HB2:=keepB HB1 (outD hb);clear hb) | (go_at_call 77;refine (HY.out _).mono ?_;rintro e w3 ⟨rfl,hb⟩;have HB3:=keepB HB2 hb;have c0:=HAT.out _ HB3.out;clear hb))
   go_ret2
   exact FIN.out _ _ HB3.out
  ·have d3 : ((l.length : Int) == 10) = false:=beq_eq_false_iff_ne.2 (by omega)
   rw [if_neg h10,if_neg h10]
   clear hk hla h0 h10
   go_enter Tryz.func35,Tryz.ntmps35
   go_wp2_with (first | (go_at_call 68;refine HK.out.mono ?_;rintro e w1 ⟨rfl,hb⟩;have HB1:=keepB HB0 hb;clear hb) | (go_at_call 78;refine (HN.out _).mono ?_;rintro e w2 ⟨rfl,hb⟩;have HB2:=keepB HB1 (outD hb);clear hb) | (go_at_call 77;refine (HY.out _).mono ?_;rintro e w3 ⟨rfl,hb⟩;have HB3:=keepB HB2 hb;have c0:=HAT.out _ HB3.out;clear hb) | (go_at_call 79;refine (HCL.out _ (outB HB3)).mono ?_;rintro e w4 ⟨v1,rows,rfl,hrows,hown,hb4⟩;have HROWS:=zh hrows;have HX4:=zh hb4;have HO4:=zh hown;have HS4:=zh hb4.size;clear hrows hown hb4) | (at_builtin;refine wpList_append_lies _ rfl _ _ 23 rfl w3.heap.size 101 i0 (.agg #[(.int .u64 0),(.string ⟨#[]⟩),(.slice none 0 0)]) 3 48 Tryz.underlying23 hi hy0 hy1 hy2 rfl (by decide) _ _ _ rfl (HO4.out.alloc _) ⟨w4.heap.size,0,none⟩ 1 1 [.int .u64 id,.string key,.slice none 0 0] rfl rfl ?c1 ?c2 (by decide) ?c3 ?c4 ?c5 _ rfl ?_))
   case c1=>exact World.news_of_block (blk_new w4 _)
   case c2=>exact (by intro u hu;simp at hu;rcases hu with rfl | rfl | rfl <;> rfl)
   case c3=>unfold maxLen;omega
   case c4=>omega
   case c5=>have:=HS4.out;simp;omega
   intro g cap w5 hown' hgrow _ _
   have HX5:=zh ((HX4.out.alloc HX4.out.size (.cells #[.int .u64 id,.string key,.slice none 0 0] 101)).grown hgrow (by have:=HX4.out.size;simp;omega) (fun q hq=>own_base HO4.out q hq))
   have HO5:=zh hown'
   clear hown' hgrow
   go_wp2
   go_ret2
   exact begin_fin l id key rows HROWS.out HX5.out (keepB HB3 HX5.out).out _ g cap HO5.out hl10
 ·obtain rfl : l = []:=List.length_eq_zero_iff.1 (by omega)
  have HR:=zh hr
  rw [if_neg (by decide),if_neg (by decide)]
  clear hla h0 hr
  simp only [List.length_nil] at *
  go_enter Tryz.func35,Tryz.ntmps35
  go_wp2_with (first | (go_at_call 68;refine HK.out.mono ?_;rintro e w1 ⟨rfl,hb⟩;have HB1:=keepB HB0 hb;clear hb) | (go_at_call 78;refine (HN.out _).mono ?_;rintro e w2 ⟨rfl,hb⟩;have HB2:=keepB HB1 (outD hb);clear hb) | (go_at_call 77;refine (HY.out _).mono ?_;rintro e w3 ⟨rfl,hb⟩;have HB3:=keepB HB2 hb; clear hb) | (go_at_call 79;refine (HCL.out _ (outB HB3)).mono ?_;rintro e w4 ⟨v1,rows,rfl,hrows,hown,hb4⟩;have HROWS:=zh hrows;have HX4:=zh hb4;have HO4:=zh hown;have HS4:=zh hb4.size;clear hrows hown hb4) | (at_builtin;refine wpList_append_lies _ rfl _ _ 23 rfl w3.heap.size 101 i0 (.agg #[(.int .u64 0),(.string ⟨#[]⟩),(.slice none 0 0)]) 3 48 Tryz.underlying23 hi hy0 hy1 hy2 rfl (by decide) _ _ _ rfl (HO4.out.alloc _) ⟨w4.heap.size,0,none⟩ 1 1 [.int .u64 id,.string key,.slice none 0 0] rfl rfl ?c1 ?c2 (by decide) ?c3 ?c4 ?c5 _ rfl ?_))
  case c1=>exact World.news_of_block (blk_new w4 _)
  case c2=>exact (by intro u hu;simp at hu;rcases hu with rfl | rfl | rfl <;> rfl)
  case c3=>unfold maxLen;omega
  case c4=>omega
  case c5=>have:=HS4.out;simp;omega
  intro g cap w5 hown' hgrow _ _
  have HX5:=zh ((HX4.out.alloc HX4.out.size (.cells #[.int .u64 id,.string key,.slice none 0 0] 101)).grown hgrow (by have:=HX4.out.size;simp;omega) (fun q hq=>own_base HO4.out q hq))
  have HO5:=zh hown'
  clear hown' hgrow
  go_wp2
  go_ret2
  exact begin_fin [] id key rows HROWS.out HX5.out (keepB HB3 HX5.out).out _ g cap HO5.out (by decide)
theorem begin.walk (A : Option Addr) (c : Nat) (l : List S101) (id : Int) (key : ByteArray) (w : World) (hr : Kd.C k101 w A l.length l) (hc : l.length ≤ c) :
  Calls Tryz.prog 35 #[.slice A l.length c,.int .u64 id,.string key] w (ListPost (beginR l id key).1 [.int .i64 (beginR l id key).2] w):=by
 have HB0 : Hid (Below w.heap.size w w):=Below.refl _ _
 have HK:=zh (check_calls hr hc)
 have HN:=zh (fun W=>num_calls id W)
 have HY:=zh (fun W=>key_calls key W)
 have FIN : Hid (∀ e w',Below w.heap.size w w' → ListPost [] [.int .i64 e] w (.returned (.tuple #[.slice none 0 0,.int .i64 e])) w'):=fun e w' hb=>⟨none,0,rfl,Nat.le_refl _,Kd.C_nil _ _,hb⟩
 by_cases hbad : checkB l = false ∨ numB id = false ∨ keyB key = false
 ·have e : beginR l id key = ([],1):=by unfold beginR;rw [if_pos hbad]
  rw [e]
  clear e
  cases h1 : checkB l <;> cases h2 : numB id <;> cases h3 : keyB key
  all_goals first
   | (exfalso;simp [h1,h2,h3] at hbad;done)
   | skip
  all_goals
   rw [h1] at HK
   simp only [h2] at HN
   simp only [h3] at HY
   have f1 : errB false = 1:=rfl
   have f2 : errB true = 0:=rfl
   first | rw [f1] at HK | rw [f2] at HK
   clear hbad h1 h2 h3 f1 f2
   go_enter Tryz.func35,Tryz.ntmps35
   go_wp2_with (first | (go_at_call 68;refine HK.out.mono ?_;rintro e w1 ⟨rfl,hb⟩;have HB1:=keepB HB0 hb;clear hb) | (go_at_call 78;refine (HN.out _).mono ?_;rintro e w2 ⟨rfl,hb⟩;have HB1:=keepB HB1 (outD hb);clear hb) | (go_at_call 77;refine (HY.out _).mono ?_;rintro e w3 ⟨rfl,hb⟩;have HB1:=keepB HB1 hb;clear hb))
   go_ret2
   exact FIN.out _ _ HB1.out
 ·have hc1 : checkB l = true:=by cases h : checkB l <;> simp_all
  have hn1 : numB id = true:=by cases h : numB id <;> simp_all
  have hk1 : keyB key = true:=by cases h : keyB key <;> simp_all
  rw [hc1] at HK;simp only [hn1] at HN;simp only [hk1] at HY
  have f2 : errB true = 0:=rfl
  rw [f2] at HK
  have hl10:=(check_fine hc1).1
  have E : Hid (beginR l id key = if lastB l id = true then ([],9) else if l.length = 10 then ([],6) else (l ++ [⟨id,key,[]⟩],0)):=by unfold Hid beginR;rw [if_neg hbad]
  have CHK:=hc1;have NUMB:=hn1;have KEYB:=hk1
  clear hbad hc1 hn1 hk1 f2
  cases hla : lastB l id
  ·rw [if_neg (by simp [hla])] at E
   rw [E.out]
   have:=begin_ok.walk A c l id key w hr hc CHK NUMB KEYB hla
   by_cases h10 : l.length = 10
   ·rw [if_pos h10];rwa [if_pos h10,if_pos h10] at this
   ·rw [if_neg h10];rwa [if_neg h10,if_neg h10] at this
  ·rw [if_pos hla] at E
   unfold lastB at hla
   simp only [Bool.and_eq_true,decide_eq_true_eq] at hla
   obtain ⟨h0,hle⟩:=hla
   obtain ⟨k,hk⟩ : ∃ k,l.length = k + 1:=⟨l.length - 1,by omega⟩
   have hgd : l.getD (l.length - 1) z101 = l[k]'(by omega):=by rw [List.getD_eq_getElem?_getD,show l.length - 1 = k by omega,List.getElem?_eq_getElem (by omega)];rfl
   rw [hgd] at hle
   obtain ⟨ad,rfl⟩:=some_of_lt hr h0
   have HAT : Hid (∀ W,Below w.heap.size w W → W.cell? (ad.add (k * 3)) = some (.int .u64 (l[k]'(by omega)).f0)):=fun W hb=>by
    obtain ⟨ad',_,_,e,h0,_⟩:=atUpload hr hb k (by omega)
    injection e with e;subst e;exact h0
   generalize (l[k]'(by omega)).f0 = x at *
   clear CHK NUMB KEYB
   clear hr hgd
   have q1 : IntKind.i64.wrap ((l.length : Int) - 1) = (k : Int):=by rw [IntKind.wrap_i64];omega
   have q3 : (0 : Int) ≤ (k : Int):=by omega
   have q4 : (k : Int) < (l.length : Int):=by omega
   have d1 : decide ((0 : Int) < (l.length : Int)) = true:=by simp;omega
   have d2 : decide (id ≤ x) = true:=by simp;omega
   have HK1:=zh hk
   have HLE:=zh hle
   clear hk hle h0
   go_enter Tryz.func35,Tryz.ntmps35
   go_wp2_with (first | (go_at_call 68;refine HK.out.mono ?_;rintro e w1 ⟨rfl,hb⟩;have HB1:=keepB HB0 hb;clear hb) | (go_at_call 78;refine (HN.out _).mono ?_;rintro e w2 ⟨rfl,hb⟩;have HB2:=keepB HB1 (outD hb);clear hb) | (go_at_call 77;refine (HY.out _).mono ?_;rintro e w3 ⟨rfl,hb⟩;have HB3:=keepB HB2 hb;have c0:=HAT.out _ HB3.out;clear hb))
   go_ret2
   rw [E.out]
   exact FIN.out _ _ HB3.out
end
section
open Go.WideMaps Go.Maps
def z25v : Value:=.agg #[(.int .u64 0),(.string ⟨#[]⟩),(.slice none 0 0)]
def z25L (n : Nat) : List Value:=(Builtin.zeroCells z25v.cells n).toList
theorem z101_one (n : Nat) : ∀ v ∈ z25L n,v.oneCell' = true:=zero_one (by simp [z25v,Value.cells,Value.oneCell']) (by decide) n
theorem z101_len (n : Nat) : (z25L n).length = n * 3:=by unfold z25L;rw [Array.length_toList,size_zeroCells];rfl
def delAt (xs : List Value) (i : Nat) : List Value:=xs.take (i * 3) ++ xs.drop ((i + 1) * 3)
def DelPost (base n i : Nat) (v : Value) (xs : List Value) (w : World) (e : Ending) (w' : World) : Prop :=
 ∃ v',e = .returned v' ∧ w'.ownsRow base 101 3 v' (n - 1) (delAt xs i) ∧ w.grownBy w' v.ownBlock
theorem delete.walk (base n i : Nat) (v : Value) (xs : List Value) (w : World) (hown : w.ownsRow base 101 3 v n xs) (hi : i < n) (hn : n ≤ 1000) (h1 : ∀ u ∈ xs,u.oneCell' = true) :
  Calls Tryz.prog 102 #[v,.int .i64 i,.int .i64 ((i : Int) + 1)] w (DelPost base n i v xs w):=by
 obtain ⟨hx,hv⟩:=hown
 rcases hv with ⟨_,h0⟩ | ⟨g,cap,cur,rfl,hb,hg,hcap,hmx,hsz,htk⟩
 ·omega
 obtain ⟨i0,hi0,hy0,hy1,hy2⟩:=info_parts info101
 have HG:=zh hg;clear hg
 have HX:=zh hx;have HT:=zh htk;have HSZ:=zh hsz;have HMX:=zh hmx
 unfold maxLen at hmx
 have l0 : (xs.take (i * 3)).length = i * 3:=by rw [List.length_take,hx];omega
 have l1 : (xs.drop ((i + 1) * 3)).length = (n - (i + 1)) * 3:=by rw [List.length_drop,hx];omega
 have HO0 : Hid (w.drew.ownsRow base 101 3 (.slice (some ⟨g,0,none⟩) i cap) i (xs.take (i * 3))):=by
  refine ⟨l0,Or.inr ⟨g,cap,cur,rfl,hb,HG.out,by omega,HMX.out,hsz,?_⟩⟩
  rw [← htk,List.take_take,Nat.min_eq_left (by omega)]
 have HD : Hid (∀ (j : Nat) (u : Value),(xs.drop ((i + 1) * 3))[j]? = some u → w.drew.cell? ((⟨g,(i + 1) * 3,none⟩ : Addr).add j) = some u):=fun j u hu=>by
  rw [add_at]
  show w.cell? _ = _
  rw [blk_cell HG.out]
  rw [List.getElem?_drop,← htk,List.getElem?_take] at hu
  split at hu
  ·simpa using hu
  ·cases hu
 have HL1:=zh l1
 have HONE : Hid (∀ u ∈ xs.drop ((i + 1) * 3),u.oneCell' = true):=fun u hu=>h1 u (List.mem_of_mem_drop hu)
 have HONE1:=zh h1
 clear l0 l1 hx htk hsz hmx h1
 have d0 : (0 : Int) ≤ (i : Int):=by omega
 have d1 : (i : Int) ≤ (i : Int) + 1:=by omega
 have d2 : (i : Int) + 1 ≤ (n : Int):=by omega
 have d3 : (n : Int) ≤ (cap : Int):=by omega
 have d4 : ((i : Int) == (i : Int) + 1) = false:=beq_eq_false_iff_ne.2 (by omega)
 have d5 : (i : Int) ≤ (cap : Int):=by omega
 have d6 : (i : Int) + 1 ≤ (cap : Int):=by omega
 have d7 : (0 : Int) ≤ (i : Int) + 1:=by omega
 have q2 : ((i : Int) + 1).toNat = i + 1:=by omega
 go_enter Tryz.func102,Tryz.ntmps102
 go_wp2_with fail
 go_still_tail 6,(by kernel_rfl)
 change wpList _ _ _ _ _ w.drew
 have END : Hid (∀ (w2 : World),w2.ownsRow base 101 3 (.slice (some ⟨g,0,none⟩) (n - 1) cap) (n - 1) (delAt xs i) → w.grownBy w2 (some g) → ∃ cur2,w2.heap[g]? = some (.cells cur2 101 (0,0)) ∧ (n - 1) * 3 + 1 * 3 ≤ cur2.size ∧
   ∀ w3,w3 = w2.setRow g (splice cur2.toList ((n - 1) * 3) (z25L 1)).toArray → w3.ownsRow base 101 3 (.slice (some ⟨g,0,none⟩) (n - 1) cap) (n - 1) (delAt xs i) ∧ w.grownBy w3 (some g)):=by
  intro w2 ho hgr
  obtain ⟨hlx,hc⟩:=ho
  rcases hc with ⟨e,_⟩ | ⟨g',cap',cur2,e,hb',hg',hcap',hmx',hsz',htk'⟩
  ·cases e
  ·injection e with e1 e2 e3
   injection e1 with e1
   injection e1 with e1 _ _
   subst e1 e3
   refine ⟨cur2,hg',by omega,fun w3 hw3=>?_⟩
   have hsp : (splice cur2.toList ((n - 1) * 3) (z25L 1)).length = cap * 3:=by
    rw [length_splice _ _ _ (by rw [z101_len,Array.length_toList];omega),Array.length_toList];exact hsz'
   refine ⟨⟨hlx,Or.inr ⟨g,cap,_,rfl,hb,by rw [hw3];exact setRow_heap _ _ _ _ _ _ hg',by omega,HMX.out,by rw [List.size_toArray];exact hsp,?_⟩⟩,?_⟩
   ·rw [← htk']
    show (splice cur2.toList ((n - 1) * 3) (z25L 1)).take ((n - 1) * 3) = _
    unfold splice
    rw [List.take_left' (by rw [List.length_take,Array.length_toList];omega)]
   ·rw [hw3]
    exact ⟨hgr.os,hgr.tape,hgr.output,by simpa [World.setRow] using hgr.size,fun k hk hne=>(setRow_other _ _ _ _ (fun e=>hne (by rw [e]))).trans (hgr.block k hk hne)⟩
 have hm : Hid (i + (n - (i + 1)) = n - 1):=by unfold Hid;omega
 obtain ⟨ad,had,hcells⟩ : ∃ ad,Hid ((if cap = i + 1 then some (⟨g,0,none⟩ : Addr) else some ⟨g,(i + 1) * 3,none⟩) = some ad) ∧ Hid (∀ (j : Nat) (u : Value),(xs.drop ((i + 1) * 3))[j]? = some u → w.drew.cell? (ad.add j) = some u):=by
  by_cases hcp : cap = i + 1
  ·refine ⟨⟨g,0,none⟩,if_pos hcp,fun j u hu=>?_⟩
   rw [List.drop_eq_nil_of_le (by rw [HX.out];omega)] at hu
   simp at hu
  ·exact ⟨⟨g,(i + 1) * 3,none⟩,if_neg hcp,HD.out⟩
 have hroom : i + (n - (i + 1)) ≤ cap:=by omega
 rw [had.out]
 refine wpList_append_own_spare _ rfl (.tmp 22) (.tmp 25) 23 rfl base 101 i0 3 Tryz.underlying23 hi0 hy1 g i cap (xs.take (i * 3)) rfl HO0.out ad (n - (i + 1)) (cap - (i + 1)) (xs.drop ((i + 1) * 3)) rfl HL1.out hcells.out HONE.out hroom ?_
 rw [hm.out]
 intro w2 ho2 hg2
 obtain ⟨cur2,hc2,hfit,hend⟩:=END.out w2 ho2 ((show w.grownBy w2 (some g) from ⟨hg2.os,hg2.tape,hg2.output,hg2.size,hg2.block⟩))
 have HC2:=zh hc2;have HF:=zh hfit;have HEND:=zh hend
 clear ho2 hg2 hc2 hfit hend hcells had HD
 obtain ⟨m,hnm⟩ : ∃ m,n = m + 1:=⟨n - 1,by omega⟩
 subst hnm
 simp only [Nat.add_sub_cancel] at *
 have e0 : ¬ cap = m:=by omega
 have e1 : (m : Int) ≤ (m : Int) + 1:=by omega
 have e2 : (m : Int) + 1 ≤ (cap : Int):=by omega
 have e3 : (0 : Int) ≤ (m : Int):=by omega
 have e4 : (m : Int) ≤ (cap : Int):=by omega
 clear q2
 have HZ1:=zh (z101_one 1)
 go_wp2_with fail
 rw [run_clear_cells w2 23 0 101 i0 z25v Tryz.underlying23 hi0 hy0 g (m * 3) 1 (cap - m) cur2 101 HC2.out (by decide) HF.out HZ1.out]
 obtain ⟨w3,hw3⟩ : ∃ w3,Hid (w3 = w2.setRow g (splice cur2.toList (m * 3) (z25L 1)).toArray):=⟨_,rfl⟩
 rw [show (Builtin.zeroCells z25v.cells 1).toList = z25L 1 from rfl,← hw3.out]
 go_wp2_with fail
 go_ret
 obtain ⟨r1,r2⟩:=HEND.out w3 hw3.out
 exact ⟨_,rfl,r1,r2⟩
end
section
open Go.WideMaps Go.Maps
def delL {α : Type} (l : List α) (i : Nat) : List α:=l.take i ++ l.drop (i + 1)
def abortR (l : List S101) (id : Int) : List S101 × Int :=
 if checkB l = false then ([],1) else match posU l id with | none=>([],4) | some i=>(delL l i,0)
theorem flat_del {rows : List (List Value)} (h : ∀ c ∈ rows,c.length = 3) (i : Nat) : delAt rows.flatten i = (delL rows i).flatten:=by
 have tk : ∀ (rs : List (List Value)),(∀ c ∈ rs,c.length = 3) → ∀ j,rs.flatten.take (j * 3) = (rs.take j).flatten ∧ rs.flatten.drop (j * 3) = (rs.drop j).flatten:=by
  intro rs
  induction rs with
  | nil=>intro _ j;simp
  | cons c rs ih =>
   intro hc j
   have h3:=hc c List.mem_cons_self
   cases j with
   | zero=>simp
   | succ j =>
    obtain ⟨i1,i2⟩:=ih (fun x hx=>hc x (List.mem_cons_of_mem _ hx)) j
    rw [List.flatten_cons,List.take_succ_cons,List.drop_succ_cons,List.flatten_cons,← i1,← i2]
    constructor
    ·rw [List.take_append,List.take_of_length_le (by omega),show (j + 1) * 3 - c.length = j * 3 by omega]
    ·rw [List.drop_append,List.drop_eq_nil_of_le (by omega),List.nil_append,show (j + 1) * 3 - c.length = j * 3 by omega]
 unfold delAt delL
 rw [(tk rows h i).1,(tk rows h (i + 1)).2,List.flatten_append]
theorem own_list {W w' : World} {l : List S101} {rows : List (List Value)} {base n : Nat} {v : Value} (hrows : RowsOf k101 W l rows) (hb : Below W.heap.size W w') (ho : w'.ownsRow base 101 3 v n rows.flatten) (hn : n = l.length) (hl : l.length ≤ 1000000) :
  ∃ A c,v = .slice A l.length c ∧ l.length ≤ c ∧ Kd.C k101 w' A l.length l:=by
 subst hn
 rcases ho.2 with ⟨rfl,h0⟩ | ⟨g,cap,cur,rfl,_,hg,hcap,_,_,htk⟩
 ·have : l = []:=List.length_eq_zero_iff.1 h0
  subst this
  exact ⟨none,0,rfl,Nat.le_refl _,Kd.C_nil _ _⟩
 ·exact ⟨_,cap,rfl,hcap,rows_C (hrows.below hb) (blk_raw hg _ htk) (by omega)⟩
theorem delL_len {α : Type} (l : List α) (i : Nat) (h : i < l.length) : (delL l i).length = l.length - 1:=by
 unfold delL;rw [List.length_append,List.length_take,List.length_drop];omega
theorem abort.walk (A : Option Addr) (c : Nat) (l : List S101) (id : Int) (w : World) (hr : Kd.C k101 w A l.length l) (hc : l.length ≤ c) :
  Calls Tryz.prog 47 #[.slice A l.length c,.int .u64 id] w (ListPost (abortR l id).1 [.int .i64 (abortR l id).2] w):=by
 have HB0 : Hid (Below w.heap.size w w):=Below.refl _ _
 have HP:=zh (place.walk A c l id w hr hc)
 have FIN : Hid (∀ e w',Below w.heap.size w w' → ListPost [] [.int .i64 e] w (.returned (.tuple #[.slice none 0 0,.int .i64 e])) w'):=fun e w' hb=>⟨none,0,rfl,Nat.le_refl _,Kd.C_nil _ _,hb⟩
 have hbad : ∀ e : Int,e ≠ 0 → placeR l id = (0,e) → Calls Tryz.prog 47 #[.slice A l.length c,.int .u64 id] w (ListPost [] [.int .i64 e] w):=by
  intro e he hp
  rw [hp] at HP
  have hd : (e != 0) = true:=by simpa using he
  clear hr hp he
  go_enter Tryz.func47,Tryz.ntmps47
  go_wp2_with (go_at_call 87;refine HP.out.mono ?_;rintro x w1 ⟨rfl,hb⟩;have HB1:=zh hb;clear hb)
  go_ret2
  exact FIN.out _ _ HB1.out
 cases hk : checkB l
 ·have e1 : abortR l id = ([],1):=by unfold abortR;rw [if_pos hk]
  rw [e1]
  exact hbad 1 (by decide) (by unfold placeR;rw [if_pos hk])
 ·cases hp : posU l id with
  | none =>
   have e1 : abortR l id = ([],4):=by unfold abortR;rw [if_neg (by rw [hk];simp),hp]
   rw [e1]
   exact hbad 4 (by decide) (by unfold placeR;rw [if_neg (by rw [hk];simp),hp])
  | some i =>
   have e1 : abortR l id = (delL l i,0):=by unfold abortR;rw [if_neg (by rw [hk];simp),hp]
   have e2 : placeR l id = ((i : Int),0):=by unfold placeR;rw [if_neg (by rw [hk];simp),hp]
   rw [e1]
   rw [e2] at HP
   obtain ⟨hi,_⟩:=posU_lt hp
   have hl10:=(check_fine hk).1
   have HCL : Hid (∀ W,Below w.heap.size w W → Calls Tryz.prog 79 #[.slice A l.length c] W fun e w'=>∃ v rows,e = .returned v ∧ RowsOf k101 W l rows ∧ w'.ownsRow W.heap.size 101 3 v l.length rows.flatten ∧ Below W.heap.size W w'):=fun W hb=>clone34_any (Kd.C_below hr hb) (by omega)
   clear hbad hk hp e1 e2 hr
   have q1 : IntKind.i64.wrap ((i : Int) + 1) = (i : Int) + 1:=by rw [IntKind.wrap_i64];omega
   go_enter Tryz.func47,Tryz.ntmps47
   go_wp2_with (first
    | (go_at_call 87;refine HP.out.mono ?_;rintro x w1 ⟨rfl,hb⟩;have HB1:=zh hb;clear hb)
    | (go_at_call 79;refine (HCL.out _ HB1.out).mono ?_;rintro e w4 ⟨v1,rows,rfl,hrows,hown,hb4⟩;have HROWS:=zh hrows;have HX4:=zh hb4;have HO4:=zh hown;clear hrows hown hb4)
    | (go_at_call 102;refine (delete.walk _ _ i _ _ _ HO4.out hi (by omega) HROWS.out.one).mono ?_;rintro e w5 ⟨v2,rfl,ho5,hg5⟩;have HO5:=zh ho5;have HG5:=zh hg5;clear ho5 hg5))
   have HX5:=HX4.out.grown HG5.out HX4.out.size (fun q hq=>own_base HO4.out q hq)
   have ho:=HO5.out
   rw [flat_del HROWS.out.lens] at ho
   have hrows2 : RowsOf k101 w1 (delL l i) (delL rows i):=(HROWS.out.take i).append (HROWS.out.drop (i + 1))
   obtain ⟨A2,c2,rfl,h2,h3⟩:=own_list hrows2 HX5 ho (delL_len l i hi).symm (by rw [delL_len l i hi];omega)
   go_ret2
   exact ⟨A2,c2,rfl,h2,h3,HB1.out.trans (HX5.mono HB1.out.size)⟩
end
section
open Go.WideMaps Go.Maps
theorem isz_bucket : (Tryz.prog.info? 26).map (·.size) = some 5:=by kernel_rfl
def noR (wrong : Bool) (er e : Int) : Int:=if wrong = true ∧ e = 0 then er else e
theorem noR_f (er e : Int) : noR false er e = e:=by unfold noR;rw [if_neg (by simp)]
theorem noR_0 (er : Int) : noR true er 0 = er:=by unfold noR;rw [if_pos ⟨rfl,rfl⟩]
theorem noR_n {er e : Int} (h : e ≠ 0) : noR true er e = e:=by unfold noR;rw [if_neg (fun x=>h x.2)]
theorem no.walk (g : Nat) (c0 c1 c2 c3 c4 : Value) (e er : Int) (wrong : Bool) (w : World) (h : w.heap[g]? = some (.cells #[c0,c1,c2,c3,c4,.int .i64 e] 87 (0,0))) :
  Calls Tryz.prog 45 #[.pointer (some ⟨g,0,none⟩),.bool wrong,.int .i64 er] w fun x w'=>x = .returned (.tuple #[]) ∧ Hid (w'.heap[g]? = some (.cells #[c0,c1,c2,c3,c4,.int .i64 (noR wrong er e)] 87 (0,0))) ∧ Hid (Only g w w'):=by
 have H:=zh h
 have d5:=zb h 5 (.int .i64 e)
 clear h
 cases wrong
 ·rw [noR_f]
  go_enter Tryz.func45,Tryz.ntmps45
  go_wp2
  go_end0
  exact ⟨rfl,H,Only.refl _ _⟩
 ·by_cases h0 : e = 0
  ·subst h0
   rw [noR_0]
   go_enter Tryz.func45,Tryz.ntmps45
   go_wp2_with ((with_reducible refine gate_store (t:=30) (p:=17) (v:=.tmp 15) rfl ?_);go_must (refine zq 30 (.tmp 17) (.tmp 15) g 5 87 (.int .i64 er) H (by kernel_rfl) ?_;intro w1 hk1 ho1))
   go_end0
   exact ⟨rfl,hk1,ho1⟩
  ·rw [noR_n h0]
   have d0 : (e == 0) = false:=beq_eq_false_iff_ne.2 h0
   clear h0
   go_enter Tryz.func45,Tryz.ntmps45
   go_wp2
   go_end0
   exact ⟨rfl,H,Only.refl _ _⟩
theorem only_trans {g : Nat} {w w1 w2 : World} (h : Hid (Only g w w1)) (k : Hid (Only g w1 w2)) : Hid (Only g w w2):=h.out.trans k.out
theorem next.walk (g : Nat) (c0 c1 c2 c3 : Value) (last e : Int) (w : World) (h : w.heap[g]? = some (.cells #[c0,c1,c2,c3,.int .u64 last,.int .i64 e] 87 (0,0))) :
  Calls Tryz.prog 33 #[.pointer (some ⟨g,0,none⟩)] w fun x w'=>x = .returned (.int .u64 (IntKind.u64.wrap (last + 1))) ∧ Hid (w'.heap[g]? = some (.cells #[c0,c1,c2,c3,.int .u64 (IntKind.u64.wrap (last + 1)),.int .i64 (noR (decide (281474976710655 ≤ last)) 6 e)] 87 (0,0))) ∧ Hid (Only g w w'):=by
 have H:=zh h
 have d4:=zb h 4 (.int .u64 last)
 by_cases hl : 281474976710655 ≤ last
 ·have dl : decide (281474976710655 ≤ last) = true:=decide_eq_true hl
  rw [dl]
  have HN:=zh (no.walk g c0 c1 c2 c3 (.int .u64 last) e 6 true w h)
  generalize noR true 6 e = e2 at *
  clear h
  generalize hwl : IntKind.u64.wrap (last + 1) = l2 at *
  go_enter Tryz.func33,Tryz.ntmps33
  go_wp2_with (first
   | (go_at_call 45;go_must (refine HN.out.mono ?_;rintro x w1 ⟨rfl,hk1,ho1⟩;have HK1:=hk1;have HO1:=ho1;have a4:=zb hk1.out 4 (.int .u64 last);clear hk1 ho1))
   | ((with_reducible refine gate_store (t:=24) (p:=19) (v:=.tmp 16) rfl ?_);go_must (refine zq 24 (.tmp 19) (.tmp 16) g 4 87 (.int .u64 l2) HK1 (by kernel_rfl) ?_;intro w2 hk2 ho2;have b4:=zb hk2.out 4 (.int .u64 l2))))
  go_ret
  exact ⟨rfl,hk2,only_trans HO1 ho2⟩
 ·have dl : decide (281474976710655 ≤ last) = false:=decide_eq_false hl
  rw [dl]
  have HN:=zh (no.walk g c0 c1 c2 c3 (.int .u64 last) e 6 false w h)
  generalize noR false 6 e = e2 at *
  clear h
  generalize hwl : IntKind.u64.wrap (last + 1) = l2 at *
  go_enter Tryz.func33,Tryz.ntmps33
  go_wp2_with (first
   | (go_at_call 45;go_must (refine HN.out.mono ?_;rintro x w1 ⟨rfl,hk1,ho1⟩;have HK1:=hk1;have HO1:=ho1;have a4:=zb hk1.out 4 (.int .u64 last);clear hk1 ho1))
   | ((with_reducible refine gate_store (t:=24) (p:=19) (v:=.tmp 16) rfl ?_);go_must (refine zq 24 (.tmp 19) (.tmp 16) g 4 87 (.int .u64 l2) HK1 (by kernel_rfl) ?_;intro w2 hk2 ho2;have b4:=zb hk2.out 4 (.int .u64 l2))))
  go_ret
  exact ⟨rfl,hk2,only_trans HO1 ho2⟩
theorem uploadsW.walk (g : Nat) (c0 c1 c2 c3 c4 : Value) (A : Option Addr) (n c : Nat) (e er : Int) (w : World) (h : w.heap[g]? = some (.cells #[c0,c1,c2,c3,c4,.int .i64 e] 87 (0,0))) :
  Calls Tryz.prog 34 #[.pointer (some ⟨g,0,none⟩),.slice A n c,.int .i64 er] w fun x w'=>x = .returned (.tuple #[]) ∧ Hid (w'.heap[g]? = some (.cells #[c0,c1,c2,.slice A n c,c4,.int .i64 (noR (!(er == 0)) er e)] 87 (0,0))) ∧ Hid (Only g w w'):=by
 cases hq : (er == 0)
 ·have HN:=zh (no.walk g c0 c1 c2 c3 c4 e er true w h)
  rw [show (!false) = true from rfl]
  have hq' : (er != 0) = true:=by rw [bne,hq];rfl
  generalize noR true er e = e2 at *
  clear h
  go_enter Tryz.func34,Tryz.ntmps34
  go_wp2_with (first
   | (go_at_call 45;go_must (refine HN.out.mono ?_;rintro x w1 ⟨rfl,hk1,ho1⟩;have HK1:=hk1;have HO1:=ho1;clear hk1 ho1))
   | ((with_reducible refine gate_store (t:=23) (p:=15) (v:=.tmp 12) rfl ?_);go_must (refine zq 23 (.tmp 15) (.tmp 12) g 3 87 (.slice A n c) HK1 (by kernel_rfl) ?_;intro w2 hk2 ho2)))
  go_end0
  exact ⟨rfl,hk2,only_trans HO1 ho2⟩
 ·have HN:=zh (no.walk g c0 c1 c2 c3 c4 e er false w h)
  rw [show (!true) = false from rfl]
  have hq' : (er != 0) = false:=by rw [bne,hq];rfl
  generalize noR false er e = e2 at *
  clear h
  go_enter Tryz.func34,Tryz.ntmps34
  go_wp2_with (first
   | (go_at_call 45;go_must (refine HN.out.mono ?_;rintro x w1 ⟨rfl,hk1,ho1⟩;have HK1:=hk1;have HO1:=ho1;clear hk1 ho1))
   | ((with_reducible refine gate_store (t:=23) (p:=15) (v:=.tmp 12) rfl ?_);go_must (refine zq 23 (.tmp 15) (.tmp 12) g 3 87 (.slice A n c) HK1 (by kernel_rfl) ?_;intro w2 hk2 ho2)))
  go_end0
  exact ⟨rfl,hk2,only_trans HO1 ho2⟩
end
section
open Go.WideMaps Go.Maps
def openR (b : S26) (key : ByteArray) : Int:=if bucketB b = false ∨ keyB key = false then 1 else 0
def OpenPost (b : S26) (A2 : Option Addr) (c2 : Nat) (A3 : Option Addr) (c3 : Nat) (er : Int) (w : World) (e : Ending) (w' : World) : Prop :=
 ∃ g,e = .returned (.pointer (some ⟨g,0,none⟩)) ∧ w.heap.size ≤ g ∧ Hid (w'.heap[g]? = some (.cells #[.string b.f0,.int .i64 b.f1,.slice A2 b.f2.length c2,.slice A3 b.f3.length c3,.int .u64 b.f4,.int .i64 er] 87 (0,0))) ∧ Hid (Below w.heap.size w w')
theorem open.walk (b : S26) (A2 A3 : Option Addr) (c2 c3 : Nat) (key : ByteArray) (w : World) (h2 : Kd.C k56 w A2 b.f2.length b.f2) (g2 : b.f2.length ≤ c2) (h3 : Kd.C k101 w A3 b.f3.length b.f3) (g3 : b.f3.length ≤ c3) :
  Calls Tryz.prog 32 #[.agg #[.string b.f0,.int .i64 b.f1,.slice A2 b.f2.length c2,.slice A3 b.f3.length c3,.int .u64 b.f4],.string key] w (OpenPost b A2 c2 A3 c3 (openR b key) w):=by
 have HBK:=zh (fun (W : World) (h : Below w.heap.size w W)=>bucket.walk b A2 A3 c2 c3 W (Kd.C_below h2 h) g2 (Kd.C_below h3 h) g3)
 have HKY:=zh (fun (W : World)=>name_Key.calls key _ W rfl)
 clear h2 h3 g2 g3
 cases q1 : bucketB b
 ·have e : openR b key = noR true 1 0:=by unfold openR;rw [if_pos (Or.inl q1),noR_0]
  rw [e]
  rw [q1,show errB false = 1 from rfl] at HBK
  have HNO:=zh (fun (g : Nat) (W : World) h=>no.walk g (.string b.f0) (.int .i64 b.f1) (.slice A2 b.f2.length c2) (.slice A3 b.f3.length c3) (.int .u64 b.f4) 0 1 true W h)
  clear q1 e
  generalize noR true 1 0 = e2 at *
  go_enter Tryz.func32,Tryz.ntmps32
  go_wp2_with (first
   | ((with_reducible refine gate_dst (N:=2) rfl ?_);go_must (refine zbx 2 #[.string b.f0,.int .i64 b.f1,.slice A2 b.f2.length c2,.slice A3 b.f3.length c3,.int .u64 b.f4] 26 ?_;intro gx hgx w1 hb1 hbel1;have KX:=zh hb1;have HB1:=zh hbel1;obtain ⟨x0,x1,x2,x3,x4⟩:=zz5 hb1;clear hb1 hbel1 hgx))
   | ((with_reducible refine gate_dst (N:=8) rfl ?_);go_must (refine zbx 8 #[.string b.f0,.int .i64 b.f1,.slice A2 b.f2.length c2,.slice A3 b.f3.length c3,.int .u64 b.f4,.int .i64 0] 87 ?_;intro gw hgw w2 hb2 hbel2;have KW:=zh hb2;have HB2:=keepB HB1 hbel2;have GW:=zh (show w.heap.size ≤ gw by rw [hgw];exact HB1.out.size);have KX2:=zk KX hbel2;obtain ⟨y0,y1,y2,y3,y4⟩:=zz5 KX2.out;clear hb2 hbel2 hgw x0 x1 x2 x3 x4))
   | (go_at_call 25;go_must (refine (HBK.out _ HB2.out).mono ?_;rintro e w3 ⟨rfl,hb⟩;have HB3:=keepB HB2 hb;have KW3:=zk KW hb;clear hb))
   | (go_at_call 45;go_must (refine (HNO.out gw _ KW3.out).mono ?_;rintro e w4 ⟨rfl,hk4,ho4⟩;have HB4:=zo ho4 HB3 GW)))
  go_ret
  exact ⟨gw,rfl,GW.out,hk4,HB4⟩
 ·rw [q1,show errB true = 0 from rfl] at HBK
  cases q2 : keyB key
  all_goals
   rw [q2] at HKY
   have e : openR b key = noR (!(keyB key)) 1 0:=by unfold openR;rw [q2];simp [q1,noR]
   rw [e,q2]
  ·have HNO:=zh (fun (g : Nat) (W : World) h=>no.walk g (.string b.f0) (.int .i64 b.f1) (.slice A2 b.f2.length c2) (.slice A3 b.f3.length c3) (.int .u64 b.f4) 0 1 true W h)
   rw [show (!false) = true from rfl]
   clear q1 e q2
   generalize noR true 1 0 = e2 at *
   go_enter Tryz.func32,Tryz.ntmps32
   go_wp2_with (first
    | ((with_reducible refine gate_dst (N:=2) rfl ?_);go_must (refine zbx 2 #[.string b.f0,.int .i64 b.f1,.slice A2 b.f2.length c2,.slice A3 b.f3.length c3,.int .u64 b.f4] 26 ?_;intro gx hgx w1 hb1 hbel1;have KX:=zh hb1;have HB1:=zh hbel1;obtain ⟨x0,x1,x2,x3,x4⟩:=zz5 hb1;clear hb1 hbel1 hgx))
    | ((with_reducible refine gate_dst (N:=8) rfl ?_);go_must (refine zbx 8 #[.string b.f0,.int .i64 b.f1,.slice A2 b.f2.length c2,.slice A3 b.f3.length c3,.int .u64 b.f4,.int .i64 0] 87 ?_;intro gw hgw w2 hb2 hbel2;have KW:=zh hb2;have HB2:=keepB HB1 hbel2;have GW:=zh (show w.heap.size ≤ gw by rw [hgw];exact HB1.out.size);have KX2:=zk KX hbel2;obtain ⟨y0,y1,y2,y3,y4⟩:=zz5 KX2.out;clear hb2 hbel2 hgw x0 x1 x2 x3 x4))
    | (go_at_call 25;go_must (refine (HBK.out _ HB2.out).mono ?_;rintro e w3 ⟨rfl,hb⟩;have HB3:=keepB HB2 hb;have KW3:=zk KW hb;clear hb))
    | (go_at_call 77;go_must (refine (HKY.out _).mono ?_;rintro e w5 ⟨rfl,hb⟩;have HB5:=keepB HB3 hb;have KW5:=zk KW3 hb;clear hb))
    | (go_at_call 45;go_must (refine (HNO.out gw _ KW5.out).mono ?_;rintro e w4 ⟨rfl,hk4,ho4⟩;have HB4:=zo ho4 HB5 GW)))
   go_ret
   exact ⟨gw,rfl,GW.out,hk4,HB4⟩
  ·have HNO:=zh (fun (g : Nat) (W : World) h=>no.walk g (.string b.f0) (.int .i64 b.f1) (.slice A2 b.f2.length c2) (.slice A3 b.f3.length c3) (.int .u64 b.f4) 0 1 false W h)
   rw [show (!true) = false from rfl]
   clear q1 e q2
   generalize noR false 1 0 = e2 at *
   go_enter Tryz.func32,Tryz.ntmps32
   go_wp2_with (first
    | ((with_reducible refine gate_dst (N:=2) rfl ?_);go_must (refine zbx 2 #[.string b.f0,.int .i64 b.f1,.slice A2 b.f2.length c2,.slice A3 b.f3.length c3,.int .u64 b.f4] 26 ?_;intro gx hgx w1 hb1 hbel1;have KX:=zh hb1;have HB1:=zh hbel1;obtain ⟨x0,x1,x2,x3,x4⟩:=zz5 hb1;clear hb1 hbel1 hgx))
    | ((with_reducible refine gate_dst (N:=8) rfl ?_);go_must (refine zbx 8 #[.string b.f0,.int .i64 b.f1,.slice A2 b.f2.length c2,.slice A3 b.f3.length c3,.int .u64 b.f4,.int .i64 0] 87 ?_;intro gw hgw w2 hb2 hbel2;have KW:=zh hb2;have HB2:=keepB HB1 hbel2;have GW:=zh (show w.heap.size ≤ gw by rw [hgw];exact HB1.out.size);have KX2:=zk KX hbel2;obtain ⟨y0,y1,y2,y3,y4⟩:=zz5 KX2.out;clear hb2 hbel2 hgw x0 x1 x2 x3 x4))
    | (go_at_call 25;go_must (refine (HBK.out _ HB2.out).mono ?_;rintro e w3 ⟨rfl,hb⟩;have HB3:=keepB HB2 hb;have KW3:=zk KW hb;clear hb))
    | (go_at_call 77;go_must (refine (HKY.out _).mono ?_;rintro e w5 ⟨rfl,hb⟩;have HB5:=keepB HB3 hb;have KW5:=zk KW3 hb;clear hb))
    | (go_at_call 45;go_must (refine (HNO.out gw _ KW5.out).mono ?_;rintro e w4 ⟨rfl,hk4,ho4⟩;have HB4:=zo ho4 HB5 GW)))
   go_ret
   exact ⟨gw,rfl,GW.out,hk4,HB4⟩
end
section
open Go.WideMaps Go.Maps
theorem idx_vs.walk (f : Nat) (cb : Array Value) (A : Option Addr) (c : Nat) (l : List S47) (p : S47 → Bool) (w : World) (eg : ∀ args w,(callFunc f args).run Tryz.prog w = .ok (.enter f args) w) (hr : Kd.C k47 w A l.length l) (HC : ∀ (k : Nat) (hk : k < l.length) (W : World),Below w.heap.size w W → Calls Tryz.prog f (#[.agg #[.int .u64 l[k].f0,.string l[k].f1,.bool l[k].f2,.int .i64 l[k].f3]] ++ cb) W fun e w'=>e = .returned (.bool (p l[k])) ∧ Below W.heap.size W w') :
  Calls Tryz.prog 159 #[.slice A l.length c,.func (.func f) #[] cb] w fun e w'=>e = .returned (.int .i64 (posI (l.findIdx? p))) ∧ Below w.heap.size w w':=by
 have HR:=zh hr
 have hlen : (l.length : Int) ≤ 9223372036854775807:=by have:=hr.2.1;omega
 have HC:=zh HC
 clear hr
 have HB0 : Hid (Below w.heap.size w w):=Below.refl _ _
 go_enter Tryz.func159,Tryz.ntmps159
 go_wp2
 go_loopw [5,8] (fun _ i wr=>∃ (k : Nat),i = .int .i64 k ∧ k ≤ l.length ∧ Hid (∀ j (hj : j < k) (hl : j < l.length),p l[j] = false) ∧ Hid (Below w.heap.size w wr)) (fun _ i _=>l.length - (intOf i).toNat)
 case atStart=>exact ⟨0,rfl,Nat.zero_le _,fun j hj=>absurd hj (Nat.not_lt_zero _),HB0⟩
 case round =>
  obtain ⟨k,rfl,hk,hall,hb⟩:=hrel
  by_cases hlt : k < l.length
  ·obtain ⟨ad,e',hc0,hc1,hc2,hc3⟩:=atVersion HR.out hb.out k hlt
   subst e'
   have HX:=zh (HC.out k hlt wr hb.out)
   cases hp : p l[k]
   ·have hn : Hid (∀ j (hj : j < k + 1) (hl : j < l.length),p l[j] = false):=fun j hj hl=>by
     rcases Nat.eq_or_lt_of_le (Nat.le_of_lt_succ hj) with rfl | h
     ·exact hp
     ·exact hall.out j h hl
    rw [hp] at HX
    clear hp
    go_wp2_with (refine HX.out.mono ?_;rintro e w1 ⟨rfl,hb1⟩;have HB1:=zh hb1;clear hb1)
    go_roundw
    case rel=>exact ⟨k + 1,by go_num,by omega,hn,keepB hb HB1.out⟩
    case measure=>simp [intOf];omega
   ·have hn : Hid (l.findIdx? p = some k):=by
     unfold Hid
     rw [List.findIdx?_eq_some_iff_getElem]
     exact ⟨hlt,hp,fun j hj=>by rw [hall.out j hj (by omega)];simp⟩
    rw [hp] at HX
    clear hp
    go_wp2_with (refine HX.out.mono ?_;rintro e w1 ⟨rfl,hb1⟩;have HB1:=zh hb1;clear hb1)
    go_ret
    exact ⟨by rw [hn.out];rfl,keepB hb HB1.out⟩
  ·have hn : Hid (l.findIdx? p = none):=by
    unfold Hid
    rw [List.findIdx?_eq_none_iff]
    intro u hu
    obtain ⟨j,hj,rfl⟩:=List.getElem_of_mem hu
    exact hall.out j (by omega) hj
   go_wp2
   go_ret
   exact ⟨by rw [hn.out];rfl,hb.out⟩
theorem cont_vs.walk (f : Nat) (cb : Array Value) (A : Option Addr) (c : Nat) (l : List S47) (p : S47 → Bool) (w : World) (eg : ∀ args w,(callFunc f args).run Tryz.prog w = .ok (.enter f args) w) (hr : Kd.C k47 w A l.length l) (HC : ∀ (k : Nat) (hk : k < l.length) (W : World),Below w.heap.size w W → Calls Tryz.prog f (#[.agg #[.int .u64 l[k].f0,.string l[k].f1,.bool l[k].f2,.int .i64 l[k].f3]] ++ cb) W fun e w'=>e = .returned (.bool (p l[k])) ∧ Below W.heap.size W w') :
  Calls Tryz.prog 148 #[.slice A l.length c,.func (.func f) #[] cb] w fun e w'=>e = .returned (.bool (l.any p)) ∧ Below w.heap.size w w':=by
 have H:=zh (idx_vs.walk f cb A c l p w eg hr HC)
 clear hr HC eg
 have HA:=zh (pos_any l p)
 generalize posI (l.findIdx? p) = r at H HA
 generalize l.any p = q at HA ⊢
 go_enter Tryz.func148,Tryz.ntmps148
 go_wp2_with (go_at_call 159;refine H.out.mono ?_;rintro e w1 ⟨rfl,hb⟩;have HB:=zh hb;clear hb)
 go_ret
 refine ⟨?_,HB.out⟩
 show Ending.returned (.bool (decide (0 ≤ r))) = _
 rw [HA.out]
theorem clone_vs_nil (n c : Nat) (w : World) : Calls Tryz.prog 150 #[.slice none n c] w fun e w'=>e = .returned (.slice none 0 0) ∧ Below w.heap.size w w':=by
 have he:=Lib.run_eql_slice_nil_nil (P:=Tryz.prog) w n c Tryz.underlying175
 go_enter Tryz.func150,Tryz.ntmps150
 go_wp2
 go_ret
 exact ⟨rfl,Below.refl _ _⟩
theorem clone_vs_some (ad : Addr) (n c : Nat) (cells : List Value) (w : World) (hl : cells.length = n * 4) (h1 : ∀ u ∈ cells,u.oneCell' = true) (hr : RawAt w ad cells) (hn : n ≤ 1000000) :
  Calls Tryz.prog 150 #[.slice (some ad) n c] w fun e w'=>∃ v,e = .returned v ∧ w'.ownsRow w.heap.size 47 4 v n cells ∧ Below w.heap.size w w':=by
 have he:=Lib.run_eql_slice_some_nil (P:=Tryz.prog) w ad n c Tryz.underlying175
 obtain ⟨i0,hi,hy0,hy1,hy2⟩:=info_parts info47
 have HL:=zh hl;have H1:=zh h1;have HR:=zh hr;clear hl h1 hr
 have HO : Hid ((w.alloc (.cells #[] 47)).ownsRow w.heap.size 47 4 (.slice (some ⟨w.heap.size,0,none⟩) 0 0) 0 []):=⟨rfl,Or.inr ⟨w.heap.size,0,#[],rfl,Nat.le_refl _,blk_new w _,Nat.le_refl _,by unfold maxLen;omega,rfl,rfl⟩⟩
 have HB:=zh ((Below.refl w.heap.size w).alloc (Nat.le_refl _) (.cells #[] 47))
 go_enter Tryz.func150,Tryz.ntmps150
 go_wp2_with (at_builtin;refine wpList_append_own _ rfl _ _ 175 rfl w.heap.size 47 i0 (.agg #[(.int .u64 0),(.string ⟨#[]⟩),(.bool false),(.int .i64 0)]) 4 40 Tryz.underlying175 hi hy0 hy1 hy2 rfl (by decide) _ _ _ rfl HO.out ad n c cells rfl HL.out ?c1 ?c2 ?c3 ?c4 ?c5 ?_)
 case c1=>exact fun j u hu=>keepc (Below.alloc (Below.refl _ _) (Nat.le_refl _) _) (HR.out j u hu)
 case c2=>exact H1.out
 case c3=>unfold maxLen;omega
 case c4=>omega
 case c5=>simp
 intro v' w4 hown' hgrow _
 have HG:=zh (HB.out.grown hgrow (by simp) (own_base HO.out))
 have HOW:=zh hown'
 clear hown' hgrow
 go_wp2
 go_ret
 exact ⟨_,rfl,HOW.out,HG.out⟩
theorem clone_vs.walk (A : Option Addr) (c : Nat) (l : List S47) (w : World) (hr : Kd.C k47 w A l.length l) (hn : l.length ≤ 1000000) :
  Calls Tryz.prog 150 #[.slice A l.length c] w fun e w'=>∃ v rows,e = .returned v ∧ RowsOf k47 w' l rows ∧ w'.ownsRow w.heap.size 47 4 v l.length rows.flatten ∧ Below w.heap.size w w':=by
 cases A with
 | none =>
  obtain ⟨h0,rfl⟩:=C_none hr
  refine (clone_vs_nil 0 c w).mono ?_
  rintro e w' ⟨rfl,hb⟩
  exact ⟨_,[],rfl,RowsOf.nil_,own_nil _ _ _ _,hb⟩
 | some ad =>
  obtain ⟨rows,h1,h2⟩:=C_rows hr
  refine (clone_vs_some ad l.length c rows.flatten w (by rw [flat_len (sz:=4) h1.lens,h1.len]) h1.one h2 hn).mono ?_
  rintro e w' ⟨v,rfl,ho,hb⟩
  exact ⟨v,rows,rfl,h1.below hb,ho,hb⟩
theorem clone_v_nil (n c : Nat) (w : World) : Calls Tryz.prog 105 #[.slice none n c] w fun e w'=>e = .returned (.slice none 0 0) ∧ Below w.heap.size w w':=by
 have he:=Lib.run_eql_slice_nil_nil (P:=Tryz.prog) w n c Tryz.underlying54
 go_enter Tryz.func105,Tryz.ntmps105
 go_wp2
 go_ret
 exact ⟨rfl,Below.refl _ _⟩
theorem clone_v_some (ad : Addr) (n c : Nat) (cells : List Value) (w : World) (hl : cells.length = n * 4) (h1 : ∀ u ∈ cells,u.oneCell' = true) (hr : RawAt w ad cells) (hn : n ≤ 1000000) :
  Calls Tryz.prog 105 #[.slice (some ad) n c] w fun e w'=>∃ v,e = .returned v ∧ w'.ownsRow w.heap.size 47 4 v n cells ∧ Below w.heap.size w w':=by
 have he:=Lib.run_eql_slice_some_nil (P:=Tryz.prog) w ad n c Tryz.underlying54
 obtain ⟨i0,hi,hy0,hy1,hy2⟩:=info_parts info47
 have HL:=zh hl;have H1:=zh h1;have HR:=zh hr;clear hl h1 hr
 have HO : Hid ((w.alloc (.cells #[] 47)).ownsRow w.heap.size 47 4 (.slice (some ⟨w.heap.size,0,none⟩) 0 0) 0 []):=⟨rfl,Or.inr ⟨w.heap.size,0,#[],rfl,Nat.le_refl _,blk_new w _,Nat.le_refl _,by unfold maxLen;omega,rfl,rfl⟩⟩
 have HB:=zh ((Below.refl w.heap.size w).alloc (Nat.le_refl _) (.cells #[] 47))
 go_enter Tryz.func105,Tryz.ntmps105
 go_wp2_with (at_builtin;refine wpList_append_own _ rfl _ _ 54 rfl w.heap.size 47 i0 (.agg #[(.int .u64 0),(.string ⟨#[]⟩),(.bool false),(.int .i64 0)]) 4 40 Tryz.underlying54 hi hy0 hy1 hy2 rfl (by decide) _ _ _ rfl HO.out ad n c cells rfl HL.out ?c1 ?c2 ?c3 ?c4 ?c5 ?_)
 case c1=>exact fun j u hu=>keepc (Below.alloc (Below.refl _ _) (Nat.le_refl _) _) (HR.out j u hu)
 case c2=>exact H1.out
 case c3=>unfold maxLen;omega
 case c4=>omega
 case c5=>simp
 intro v' w4 hown' hgrow _
 have HG:=zh (HB.out.grown hgrow (by simp) (own_base HO.out))
 have HOW:=zh hown'
 clear hown' hgrow
 go_wp2
 go_ret
 exact ⟨_,rfl,HOW.out,HG.out⟩
theorem clone_v.walk (A : Option Addr) (c : Nat) (l : List S47) (w : World) (hr : Kd.C k47 w A l.length l) (hn : l.length ≤ 1000000) :
  Calls Tryz.prog 105 #[.slice A l.length c] w fun e w'=>∃ v rows,e = .returned v ∧ RowsOf k47 w' l rows ∧ w'.ownsRow w.heap.size 47 4 v l.length rows.flatten ∧ Below w.heap.size w w':=by
 cases A with
 | none =>
  obtain ⟨h0,rfl⟩:=C_none hr
  refine (clone_v_nil 0 c w).mono ?_
  rintro e w' ⟨rfl,hb⟩
  exact ⟨_,[],rfl,RowsOf.nil_,own_nil _ _ _ _,hb⟩
 | some ad =>
  obtain ⟨rows,h1,h2⟩:=C_rows hr
  refine (clone_v_some ad l.length c rows.flatten w (by rw [flat_len (sz:=4) h1.lens,h1.len]) h1.one h2 hn).mono ?_
  rintro e w' ⟨v,rfl,ho,hb⟩
  exact ⟨v,rows,rfl,h1.below hb,ho,hb⟩
theorem clone_v.calls (A : Option Addr) (c : Nat) (l : List S47) (w : World) (hr : Kd.C k47 w A l.length l) (hn : l.length ≤ 1000000) :
  Calls Tryz.prog 105 #[.slice A l.length c] w fun e w'=>∃ A' c',e = .returned (.slice A' l.length c') ∧ l.length ≤ c' ∧ Hid (Kd.C k47 w' A' l.length l) ∧ Below w.heap.size w w':=by
 refine (clone_v.walk A c l w hr hn).mono ?_
 rintro e w' ⟨v,rows,rfl,h1,h2,hb⟩
 obtain ⟨A',c',rfl,h3,h4⟩:=own_C (d:=k47) h2 h1 rfl (by omega)
 exact ⟨A',c',rfl,h3,h4,hb⟩
end
section
open Go.WideMaps Go.Maps
theorem add_at (g o j : Nat) : (Addr.add ⟨g,o,none⟩ j) = ⟨g,o + j,none⟩:=by unfold Addr.add;split <;> simp_all
def insAt_v (xs : List Value) (i : Nat) (c : List Value) : List Value:=xs.take (i * 4) ++ (c ++ xs.drop (i * 4))
def InsPost_v (base n i : Nat) (v : Value) (xs c : List Value) (w : World) (e : Ending) (w' : World) : Prop :=
 ∃ v',e = .returned v' ∧ w'.ownsRow base 47 4 v' (n + 1) (insAt_v xs i c) ∧ w.grownBy w' v.ownBlock
theorem insert_end_v.walk (base n : Nat) (v : Value) (xs : List Value) (bv : Nat) (v0 : Int) (v1 : ByteArray) (v2 : Bool) (v3 : Int) (w : World) (hown : w.ownsRow base 47 4 v n xs) (hb : base ≤ w.heap.size) (hn : n ≤ 1000)
  (hv : w.heap[bv]? = some (.cells #[.int .u64 v0,.string v1,.bool v2,.int .i64 v3] 47 (0,0))) :
  Calls Tryz.prog 147 #[v,.int .i64 n,.slice (some ⟨bv,0,none⟩) 1 1] w (InsPost_v base n n v xs [.int .u64 v0,.string v1,.bool v2,.int .i64 v3] w):=by
 obtain ⟨i0,hi,hy0,hy1,hy2⟩:=info_parts info47
 have HV:=zh hv;clear hv
 have HX : Hid (insAt_v xs n [.int .u64 v0,.string v1,.bool v2,.int .i64 v3] = xs ++ [.int .u64 v0,.string v1,.bool v2,.int .i64 v3]):=by
  unfold Hid insAt_v;rw [List.take_of_length_le (by rw [hown.1];omega),List.drop_eq_nil_of_le (by rw [hown.1];omega),List.append_nil]
 have HOWN:=zh hown
 obtain ⟨A,cap,rfl,hA⟩ : ∃ A cap,v = .slice A n cap ∧ n ≤ cap:=by
  rcases hown.2 with ⟨h1,h2⟩ | ⟨g,cap,cur,h1,_,_,h2,_⟩
  ·exact ⟨none,0,by rw [h1,h2],by omega⟩
  ·exact ⟨_,cap,h1,h2⟩
 clear hown
 have C1 : Hid (∀ (j : Nat) (u : Value),([.int .u64 v0,.string v1,.bool v2,.int .i64 v3] : List Value)[j]? = some u → w.cell? ((⟨bv,0,none⟩ : Addr).add j) = some u):=World.news_of_block HV.out
 have C2 : Hid (∀ u ∈ ([.int .u64 v0,.string v1,.bool v2,.int .i64 v3] : List Value),u.oneCell' = true):=by unfold Hid;simp [Value.oneCell']
 have C3 : Hid (n + 1 ≤ maxLen):=by unfold Hid maxLen;omega
 have C4 : Hid ((n + 1) * 40 ≤ 140737488355328):=by unfold Hid;omega
 by_cases hc : cap = n
 all_goals
  go_enter Tryz.func147,Tryz.ntmps147
  go_wp2_with (at_builtin;refine wpList_append_own2 _ rfl _ _ 175 54 rfl Tryz.underlying54 base 47 i0 (.agg #[(.int .u64 0),(.string ⟨#[]⟩),(.bool false),(.int .i64 0)]) 4 40 Tryz.underlying175 hi hy0 hy1 hy2 rfl (by decide) _ _ _ rfl HOWN.out ⟨bv,0,none⟩ 1 1 [.int .u64 v0,.string v1,.bool v2,.int .i64 v3] rfl rfl C1.out C2.out C3.out C4.out hb ?_;intro v' w4 hown' hgrow _;have HO4:=zh hown';have HG4:=zh hgrow;clear hown' hgrow)
  go_ret
  exact ⟨v',rfl,by rw [HX.out];exact HO4.out,HG4.out⟩
def zv_v : Value:=.agg #[(.int .u64 0),(.string ⟨#[]⟩),(.bool false),(.int .i64 0)]
def zL_v (n : Nat) : List Value:=(Builtin.zeroCells zv_v.cells n).toList
theorem z_one_v (n : Nat) : ∀ v ∈ zL_v n,v.oneCell' = true:=zero_one (by simp [zv_v,Value.cells,Value.oneCell']) (by decide) n
theorem z_len_v (n : Nat) : (zL_v n).length = n * 4:=by unfold zL_v;rw [Array.length_toList,size_zeroCells];rfl
theorem isz_v : (Tryz.prog.info? 47).map (·.size) = some 4:=by kernel_rfl
theorem insAt_len_v (xs : List Value) (i n : Nat) (hx : xs.length = n * 4) (hi : i ≤ n) (c : List Value) (hc : c.length = 4) : (insAt_v xs i c).length = (n + 1) * 4:=by
 unfold insAt_v;simp only [List.length_append,List.length_take,List.length_drop,hx,hc];omega
theorem ins_list_v (xs R1 : List Value) (i n nc : Nat) (hx : xs.length = n * 4) (hi : i < n) (hnc : n + 1 ≤ nc) (hR : R1.length = nc * 4) (h0 : R1.take (i * 4) = xs.take (i * 4)) (c : List Value) (hc : c.length = 4) :
  (splice (splice R1 (i * 4) c) ((i + 1) * 4) (xs.drop (i * 4))).length = nc * 4 ∧ (splice (splice R1 (i * 4) c) ((i + 1) * 4) (xs.drop (i * 4))).take ((n + 1) * 4) = insAt_v xs i c:=by
 have e1 : (splice R1 (i * 4) c).length = nc * 4:=by rw [length_splice _ _ _ (by omega)];exact hR
 have e2 : (splice R1 (i * 4) c).take ((i + 1) * 4) = xs.take (i * 4) ++ c:=by
  unfold splice
  rw [← List.append_assoc,h0]
  rw [List.take_left' (by rw [List.length_append,List.length_take,hx,hc];omega)]
 refine ⟨by rw [length_splice _ _ _ (by rw [e1,List.length_drop,hx];omega)];exact e1,?_⟩
 unfold splice at e2 ⊢
 rw [e2,← List.append_assoc,List.take_left' (by simp only [List.length_append,List.length_take,List.length_drop,hx,hc];omega)]
 unfold insAt_v
 rw [List.append_assoc]
theorem insert_grow_v.walk (base n i : Nat) (g cap : Nat) (cur : Array Value) (xs : List Value) (bv : Nat) (v0 : Int) (v1 : ByteArray) (v2 : Bool) (v3 : Int) (w : World) (hi : i < n) (hn : n ≤ 1000) (hb : base ≤ w.heap.size)
  (hg : w.heap[g]? = some (.cells cur 47 (0,0))) (hx : xs.length = n * 4) (hcur : cur.toList.take (n * 4) = xs) (hcap : n ≤ cap) (hfull : cap < n + 1) (h1 : ∀ u ∈ xs,u.oneCell' = true)
  (hv : w.heap[bv]? = some (.cells #[.int .u64 v0,.string v1,.bool v2,.int .i64 v3] 47 (0,0))) :
  Calls Tryz.prog 147 #[.slice (some ⟨g,0,none⟩) n cap,.int .i64 i,.slice (some ⟨bv,0,none⟩) 1 1] w (InsPost_v base n i (.slice (some ⟨g,0,none⟩) n cap) xs [.int .u64 v0,.string v1,.bool v2,.int .i64 v3] w):=by
 obtain ⟨i0,hi0,hy0,hy1,hy2⟩:=info_parts info47
 have HV:=zh hv;clear hv
 have HG:=zh hg;clear hg
 have d0 : ¬ cap = i:=by omega
 have d1 : ¬ cap = 0:=by omega
 have d2 : ((i : Int) == n) = false:=beq_eq_false_iff_ne.2 (by omega)
 have d3 : decide ((cap : Int) < (n : Int) + 1) = true:=by simp;omega
 have d4 : (i : Int) ≤ cap:=by omega
 have XI:=zh (show (xs.take (i * 4)).length = i * 4 by rw [List.length_take];omega)
 have XC:=zh (show ∀ (j : Nat) (u : Value),(xs.take (i * 4))[j]? = some u → w.cell? ((⟨g,0,none⟩ : Addr).add j) = some u from fun j u hu=>by
  rw [add_at,blk_cell HG.out,Nat.zero_add]
  rw [List.getElem?_take] at hu
  split at hu
  ·rw [← hcur,List.getElem?_take] at hu
   split at hu
   ·simpa using hu
   ·cases hu
  ·cases hu)
 have XD:=zh (show ∀ (j : Nat) (u : Value),(xs.drop (i * 4))[j]? = some u → w.cell? ((⟨g,i * 4,none⟩ : Addr).add j) = some u from fun j u hu=>by
  rw [add_at,blk_cell HG.out]
  rw [List.getElem?_drop,← hcur,List.getElem?_take] at hu
  split at hu
  ·simpa using hu
  ·cases hu)
 clear hcur
 go_enter Tryz.func147,Tryz.ntmps147
 go_wp2_with (at_builtin;refine wpList_zeros_grow rfl _ _ 175 3 rfl 47 i0 zv_v Tryz.underlying175 .i64 Tryz.underlying3 hi0 hy0 (by rw [hy1];rfl) (by rw [hy1];decide) ⟨g,0,none⟩ i cap (xs.take (i * 4)) rfl (by rw [hy1];exact XI.out) XC.out .i64 (n + 1 - i) ?a1 (by omega) (by omega) (by omega) (by rw [hy2];decide) zL_v (fun _=>rfl) ?_)
 case a1 =>
  show Value.int .i64 ((n : Int) + 1 - i) = Value.int .i64 ((n + 1 - i : Nat) : Int)
  congr 1;omega
 intro nc w1 hnc hmx hw1
 have HMX:=zh hmx;clear hmx
 have hlen : i + (n + 1 - i) = n + 1:=by omega
 rw [hlen] at hnc hw1 ⊢
 clear hlen
 obtain ⟨R1,hR1⟩ : ∃ R1,R1 = xs.take (i * 4) ++ (zL_v (n + 1 - i) ++ zL_v (nc - (n + 1))):=⟨_,rfl⟩
 rw [← hR1] at hw1
 have HR1:=zh hR1;clear hR1
 have HB1 : Hid (w1.heap[w.heap.size]? = some (.cells R1.toArray 47 (0,0))):=by unfold Hid;rw [hw1.out];exact heap_alloc_new w.drew _
 have HD1 : Hid (Below w.heap.size w w1):=by unfold Hid;rw [hw1.out];exact (Below.refl _ _).drew.alloc (Nat.le_refl _) _
 have HL1 : Hid (R1.length = nc * 4):=by
  unfold Hid;rw [HR1.out,List.length_append,List.length_append,z_len_v,z_len_v,XI.out];omega
 have d5 : ¬ nc = i:=by omega
 have d6 : ¬ nc = i + 1:=by omega
 have d7 : (i : Int) ≤ (n : Int) + 1:=by omega
 clear hw1
 have C1 : Hid (∀ (j : Nat) (u : Value),([.int .u64 v0,.string v1,.bool v2,.int .i64 v3] : List Value)[j]? = some u → w1.cell? ((⟨bv,0,none⟩ : Addr).add j) = some u):=fun j u hu=>keepc HD1.out (World.news_of_block HV.out j u hu)
 have C2 : Hid (∀ u ∈ ([.int .u64 v0,.string v1,.bool v2,.int .i64 v3] : List Value),u.oneCell' = true):=by unfold Hid;simp [Value.oneCell']
 have C3 : Hid (([.int .u64 v0,.string v1,.bool v2,.int .i64 v3] : List Value).length = Nat.min 1 (n + 1 - i) * 4):=by unfold Hid;rw [show Nat.min 1 (n + 1 - i) = 1 from by simp [Nat.min_def];omega];rfl
 have C4 : Hid (i * 4 + ([.int .u64 v0,.string v1,.bool v2,.int .i64 v3] : List Value).length ≤ R1.toArray.size):=by unfold Hid;rw [List.size_toArray,HL1.out];simp;omega
 go_wp2_with (with_reducible refine wpList_copy_cells rfl (.tmp 43) (.tmp 44) 175 54 rfl 47 4 Tryz.underlying175 isz_v w.heap.size (i * 4) (n + 1 - i) (nc - i) ⟨bv,0,none⟩ 1 1 ?b1 rfl R1.toArray 47 HB1.out [.int .u64 v0,.string v1,.bool v2,.int .i64 v3] C3.out C1.out C4.out C2.out ?_)
 case b1=>rfl
 intro w2 hw2
 have HB2 : Hid (w2.drew.heap[w.heap.size]? = some (.cells (splice R1 (i * 4) [.int .u64 v0,.string v1,.bool v2,.int .i64 v3]).toArray 47 (0,0))):=by
  unfold Hid;rw [hw2.out];exact setRow_heap _ _ _ _ _ _ HB1.out
 have HD2 : Hid (Below w.heap.size w w2.drew):=by unfold Hid;rw [hw2.out];exact (below_setRow HD1.out (Nat.le_refl _) _).drew
 have HL2 : Hid ((splice R1 (i * 4) [.int .u64 v0,.string v1,.bool v2,.int .i64 v3]).length = nc * 4):=by
  unfold Hid;rw [length_splice _ _ _ (by rw [HL1.out];simp;omega)];exact HL1.out
 have E1 : Hid (∀ (j : Nat) (u : Value),(xs.drop (i * 4))[j]? = some u → w2.drew.cell? ((⟨g,i * 4,none⟩ : Addr).add j) = some u):=fun j u hu=>keepc HD2.out (XD.out j u hu)
 have E2 : Hid (∀ u ∈ xs.drop (i * 4),u.oneCell' = true):=fun u hu=>h1 u (List.mem_of_mem_drop hu)
 have E3 : Hid ((xs.drop (i * 4)).length = Nat.min (n - i) (n - i) * 4):=by unfold Hid;rw [List.length_drop,hx,show (n - i).min (n - i) = n - i from Nat.min_self _];omega
 have E4 : Hid ((i + 1) * 4 + (xs.drop (i * 4)).length ≤ (splice R1 (i * 4) [.int .u64 v0,.string v1,.bool v2,.int .i64 v3]).toArray.size):=by unfold Hid;rw [List.size_toArray,HL2.out,List.length_drop,hx];omega
 clear hw2
 have d8 : (i : Int) + 1 ≤ (n : Int) + 1:=by omega
 have d9 : (0 : Int) ≤ (i : Int) + 1:=by omega
 have d10 : (0 : Int) ≤ (i : Int):=by omega
 have d11 : (i : Int) ≤ (n : Int):=by omega
 have q1 : IntKind.i64.wrap ((i : Int) + 1) = (i : Int) + 1:=by rw [IntKind.wrap_i64];omega
 have q2 : ((i : Int) + 1).toNat = i + 1:=by omega
 go_wp2_with fail
 go_still_tail 8,(by kernel_rfl)
 change wpList _ _ _ _ _ w2.drew
 go_wp2_with (with_reducible refine wpList_copy_cells rfl (.tmp 50) (.tmp 53) 175 175 rfl 47 4 Tryz.underlying175 isz_v w.heap.size ((i + 1) * 4) (n - i) (nc - (i + 1)) ⟨g,i * 4,none⟩ (n - i) (cap - i) ?e1 ?e2 _ 47 HB2.out (xs.drop (i * 4)) E3.out E1.out E4.out E2.out ?_)
 case e1=>rfl
 case e2=>rfl
 intro w3 hw3
 go_wp2_with fail
 go_ret
 have HB3 : w3.heap[w.heap.size]? = some (.cells (splice (splice R1 (i * 4) [.int .u64 v0,.string v1,.bool v2,.int .i64 v3]) ((i + 1) * 4) (xs.drop (i * 4))).toArray 47 (0,0)):=by
  rw [hw3.out];exact setRow_heap _ _ _ _ _ _ HB2.out
 have HD3 : Below w.heap.size w w3:=by rw [hw3.out];exact below_setRow HD2.out (Nat.le_refl _) _
 have hL:=ins_list_v xs R1 i n nc hx hi hnc HL1.out (by rw [HR1.out,List.take_left' XI.out]) [.int .u64 v0,.string v1,.bool v2,.int .i64 v3] rfl
 refine ⟨_,rfl,⟨by rw [insAt_len_v xs i n hx (by omega) _ rfl],Or.inr ⟨w.heap.size,nc,_,rfl,hb,HB3,hnc,HMX.out,?_,?_⟩⟩,⟨HD3.os,HD3.tape,HD3.output,HD3.size,fun k hk _=>HD3.block k hk⟩⟩
 ·rw [List.size_toArray,hL.1]
 ·rw [hL.2]
theorem ins_list2_v (cur xs : List Value) (i n cap : Nat) (hx : xs.length = n * 4) (hi : i < n) (hcap : n + 1 ≤ cap) (hR : cur.length = cap * 4) (h0 : cur.take (n * 4) = xs) (c : List Value) (hc : c.length = 4) :
  (splice (splice cur ((i + 1) * 4) (xs.drop (i * 4))) (i * 4) c).length = cap * 4 ∧ (splice (splice cur ((i + 1) * 4) (xs.drop (i * 4))) (i * 4) c).take ((n + 1) * 4) = insAt_v xs i c:=by
 have hl : (xs.drop (i * 4)).length = (n - i) * 4:=by rw [List.length_drop,hx];omega
 have e1 : (splice cur ((i + 1) * 4) (xs.drop (i * 4))).length = cap * 4:=by rw [length_splice _ _ _ (by rw [hl];omega)];exact hR
 have ht : cur.take (i * 4) = xs.take (i * 4):=by rw [← h0,List.take_take,Nat.min_eq_left (by omega)]
 refine ⟨by rw [length_splice _ _ _ (by omega)];exact e1,?_⟩
 have t1 : (splice cur ((i + 1) * 4) (xs.drop (i * 4))).take (i * 4) = xs.take (i * 4):=by
  unfold splice
  rw [List.take_append_of_le_length (by rw [List.length_take];omega),List.take_take,Nat.min_eq_left (by omega),ht]
 have t2 : (splice cur ((i + 1) * 4) (xs.drop (i * 4))).drop (i * 4 + c.length) = xs.drop (i * 4) ++ cur.drop ((n + 1) * 4):=by
  unfold splice
  rw [hc,show i * 4 + 4 = (i + 1) * 4 by omega,List.drop_left' (by rw [List.length_take];omega),hl]
  congr 2;omega
 show ((splice cur ((i + 1) * 4) (xs.drop (i * 4))).take (i * 4) ++ (c ++ (splice cur ((i + 1) * 4) (xs.drop (i * 4))).drop (i * 4 + c.length))).take ((n + 1) * 4) = _
 rw [t1,t2]
 unfold insAt_v
 rw [← List.append_assoc c,← List.append_assoc (xs.take (i * 4)),List.take_left' (by simp only [List.length_append,List.length_take,List.length_drop,hx,hc];omega)]
theorem insert_room_v.walk (base n i : Nat) (g cap : Nat) (cur : Array Value) (xs : List Value) (bv : Nat) (v0 : Int) (v1 : ByteArray) (v2 : Bool) (v3 : Int) (w : World) (hi : i < n) (hn : n ≤ 1000) (hb : base ≤ g)
  (hg : w.heap[g]? = some (.cells cur 47 (0,0))) (hx : xs.length = n * 4) (hcur : cur.toList.take (n * 4) = xs) (hcap : n + 1 ≤ cap) (hmx : cap ≤ maxLen) (hsz : cur.size = cap * 4) (h1 : ∀ u ∈ xs,u.oneCell' = true)
  (hv : w.heap[bv]? = some (.cells #[.int .u64 v0,.string v1,.bool v2,.int .i64 v3] 47 (0,0))) (hne : bv ≠ g) :
  Calls Tryz.prog 147 #[.slice (some ⟨g,0,none⟩) n cap,.int .i64 i,.slice (some ⟨bv,0,none⟩) 1 1] w (InsPost_v base n i (.slice (some ⟨g,0,none⟩) n cap) xs [.int .u64 v0,.string v1,.bool v2,.int .i64 v3] w):=by
 have HV:=zh hv;clear hv
 have HG:=zh hg;clear hg
 have HMX:=zh hmx
 unfold maxLen at hmx
 have d0 : ¬ cap = i:=by omega
 have d1 : ¬ cap = 0:=by omega
 have d2 : ((i : Int) == n) = false:=beq_eq_false_iff_ne.2 (by omega)
 have d3 : decide ((cap : Int) < (n : Int) + 1) = false:=by simp;omega
 have d4 : (i : Int) ≤ cap:=by omega
 have d5 : ¬ cap = i + 1:=by omega
 have d8 : (i : Int) + 1 ≤ (n : Int) + 1:=by omega
 have d9 : (0 : Int) ≤ (i : Int) + 1:=by omega
 have d10 : (0 : Int) ≤ (i : Int):=by omega
 have d11 : (i : Int) ≤ (n : Int):=by omega
 have d12 : (n : Int) + 1 ≤ cap:=by omega
 have d13 : (i : Int) ≤ (n : Int) + 1:=by omega
 have HX:=zh hx;have HCUR:=zh hcur;have HSZ:=zh hsz
 have XD:=zh (show ∀ (j : Nat) (u : Value),(xs.drop (i * 4))[j]? = some u → w.cell? ((⟨g,i * 4,none⟩ : Addr).add j) = some u from fun j u hu=>by
  rw [add_at,blk_cell HG.out]
  rw [List.getElem?_drop,← hcur,List.getElem?_take] at hu
  split at hu
  ·simpa using hu
  ·cases hu)
 have HOV:=zh (fun (W : World) (hW : W.heap = w.heap)=>show (callFunc 169 #[.slice (some ⟨bv,0,none⟩) 1 1,.slice (some ⟨g,(i + 1) * 4,none⟩) (n - i) (cap - (i + 1))]).run Tryz.prog W = .ok (.value (.bool false)) W by
  have h1 : W.heap[bv]? = some (.cells #[.int .u64 v0,.string v1,.bool v2,.int .i64 v3] 47 (0,0)):=by rw [hW];exact HV.out
  have h2 : W.heap[g]? = some (.cells cur 47 (0,0)):=by rw [hW];exact HG.out
  rw [run_callFunc_extern Tryz.func169 (by kernel_rfl) (by kernel_rfl) (by kernel_rfl) (e:=Extern.SlicesOverlaps.overlaps #[54,54] #[4]) (by kernel_rfl)]
  rw [Lib.run_overlaps_apart (P:=Tryz.prog) W 54 4 47 Tryz.underlying54 4 Tryz.sizeOf47 ⟨bv,0,none⟩ ⟨g,(i + 1) * 4,none⟩ 1 1 (n - i) (cap - (i + 1)) hne 47 47 4 cur.size (by simp [World.shape?,h1]) (by simp [World.shape?,h2]) (by omega) (blk_frozen h1 0) (blk_frozen h1 4)]
  rfl)
 clear hcur hx hsz hmx
 have ho:=HOV.out w rfl
 go_enter Tryz.func147,Tryz.ntmps147
 go_wp2_with fail
 clear ho
 have q1 : IntKind.i64.wrap ((i : Int) + 1) = (i : Int) + 1:=by rw [IntKind.wrap_i64];omega
 have q2 : ((i : Int) + 1).toNat = i + 1:=by omega
 have hl : (xs.drop (i * 4)).length = (n - i) * 4:=by rw [List.length_drop,HX.out];omega
 have hcl : cur.toList.length = cap * 4:=by rw [Array.length_toList,HSZ.out]
 have E1 : Hid (∀ (j : Nat) (u : Value),(xs.drop (i * 4))[j]? = some u → w.drew.cell? ((⟨g,i * 4,none⟩ : Addr).add j) = some u):=fun j u hu=>XD.out j u hu
 have E2 : Hid (∀ u ∈ xs.drop (i * 4),u.oneCell' = true):=fun u hu=>h1 u (List.mem_of_mem_drop hu)
 have E3 : Hid ((xs.drop (i * 4)).length = Nat.min (n + 1 - i) (n - i) * 4):=by unfold Hid;rw [hl,show Nat.min (n + 1 - i) (n - i) = n - i from Nat.min_eq_right (by omega)]
 have E4 : Hid ((i + 1) * 4 + (xs.drop (i * 4)).length ≤ cur.size):=by unfold Hid;rw [hl,HSZ.out];omega
 have HGd : Hid (w.drew.heap[g]? = some (.cells cur 47 (0,0))):=HG
 have HIL:=zh (ins_list2_v cur.toList xs i n cap HX.out hi hcap hcl HCUR.out [.int .u64 v0,.string v1,.bool v2,.int .i64 v3] rfl)
 have HSL : Hid ((splice cur.toList ((i + 1) * 4) (xs.drop (i * 4))).length = cap * 4):=by unfold Hid;rw [length_splice _ _ _ (by rw [hl,hcl];omega)];exact hcl
 clear hl hcl
 go_still_tail 8,(by kernel_rfl)
 change wpList _ _ _ _ _ w.drew
 clear q1 q2
 go_wp2_with (with_reducible refine wpList_copy_cells rfl (.tmp 73) (.tmp 76) 175 175 rfl 47 4 Tryz.underlying175 isz_v g ((i + 1) * 4) (n - i) (cap - (i + 1)) ⟨g,i * 4,none⟩ (n + 1 - i) (cap - i) ?e1 ?e2 cur 47 HGd.out (xs.drop (i * 4)) E3.out E1.out E4.out E2.out ?_)
 case e1=>rfl
 case e2=>rfl
 intro w2 hw2
 have HB2 : Hid (w2.heap[g]? = some (.cells (splice cur.toList ((i + 1) * 4) (xs.drop (i * 4))).toArray 47 (0,0))):=by
  unfold Hid;rw [hw2.out];exact setRow_heap _ _ _ _ _ _ HGd.out
 have HO2 : Hid (Only g w w2):=by unfold Hid;rw [hw2.out];exact ((Only.refl g w).drewN 1).setRow _
 have F1 : Hid (∀ (j : Nat) (u : Value),([.int .u64 v0,.string v1,.bool v2,.int .i64 v3] : List Value)[j]? = some u → w2.cell? ((⟨bv,0,none⟩ : Addr).add j) = some u):=World.news_of_block (HO2.out.blk HV.out hne)
 have F2 : Hid (∀ u ∈ ([.int .u64 v0,.string v1,.bool v2,.int .i64 v3] : List Value),u.oneCell' = true):=by unfold Hid;simp [Value.oneCell']
 have F3 : Hid (([.int .u64 v0,.string v1,.bool v2,.int .i64 v3] : List Value).length = Nat.min 1 (n + 1 - i) * 4):=by unfold Hid;rw [show Nat.min 1 (n + 1 - i) = 1 from Nat.min_eq_left (by omega)];rfl
 have F4 : Hid (i * 4 + ([.int .u64 v0,.string v1,.bool v2,.int .i64 v3] : List Value).length ≤ (splice cur.toList ((i + 1) * 4) (xs.drop (i * 4))).toArray.size):=by unfold Hid;rw [List.size_toArray,HSL.out];simp;omega
 clear hw2
 go_wp2_with (with_reducible refine wpList_copy_cells rfl (.tmp 80) (.tmp 81) 175 54 rfl 47 4 Tryz.underlying175 isz_v g (i * 4) (n + 1 - i) (cap - i) ⟨bv,0,none⟩ 1 1 ?f1 ?f2 _ 47 HB2.out [.int .u64 v0,.string v1,.bool v2,.int .i64 v3] F3.out F1.out F4.out F2.out ?_)
 case f1=>rfl
 case f2=>rfl
 intro w3 hw3
 go_wp2_with fail
 go_ret
 have HB3 : w3.heap[g]? = some (.cells (splice (splice cur.toList ((i + 1) * 4) (xs.drop (i * 4))) (i * 4) [.int .u64 v0,.string v1,.bool v2,.int .i64 v3]).toArray 47 (0,0)):=by
  rw [hw3.out];exact setRow_heap _ _ _ _ _ _ HB2.out
 have HD3 : Only g w w3:=by rw [hw3.out];exact HO2.out.setRow _
 refine ⟨_,rfl,⟨by rw [insAt_len_v xs i n HX.out (by omega) _ rfl],Or.inr ⟨g,cap,_,rfl,hb,HB3,hcap,HMX.out,?_,?_⟩⟩,⟨HD3.os,HD3.tape,HD3.output,HD3.size,fun k hk hg=>HD3.block k hk (fun e=>hg (by rw [e];rfl))⟩⟩
 ·rw [List.size_toArray,HIL.out.1]
 ·rw [HIL.out.2]
theorem insert_v.walk (base n i : Nat) (v : Value) (xs : List Value) (bv : Nat) (v0 : Int) (v1 : ByteArray) (v2 : Bool) (v3 : Int) (w : World) (hown : w.ownsRow base 47 4 v n xs) (hb : base ≤ w.heap.size) (hi : i ≤ n) (hn : n ≤ 1000) (h1 : ∀ u ∈ xs,u.oneCell' = true)
  (hv : w.heap[bv]? = some (.cells #[.int .u64 v0,.string v1,.bool v2,.int .i64 v3] 47 (0,0))) (hne : v.ownBlock ≠ some bv) :
  Calls Tryz.prog 147 #[v,.int .i64 i,.slice (some ⟨bv,0,none⟩) 1 1] w (InsPost_v base n i v xs [.int .u64 v0,.string v1,.bool v2,.int .i64 v3] w):=by
 rcases Nat.eq_or_lt_of_le hi with rfl | hlt
 ·exact insert_end_v.walk base i v xs bv v0 v1 v2 v3 w hown hb hn hv
 ·rcases hown.2 with ⟨_,h0⟩ | ⟨g,cap,cur,rfl,hbg,hg,hnc,hcm,hcs,htake⟩
  ·omega
  ·by_cases hroom : n + 1 ≤ cap
   ·exact insert_room_v.walk base n i g cap cur xs bv v0 v1 v2 v3 w hlt hn hbg hg hown.1 htake hroom hcm hcs h1 hv (fun e=>hne (by rw [e];rfl))
   ·exact insert_grow_v.walk base n i g cap cur xs bv v0 v1 v2 v3 w hlt hn hb hg hown.1 htake hnc (by omega) h1 hv
end
section
open Go.WideMaps Go.Maps
def cell_v (p : S47) : List Value:=[.int .u64 p.f0,.string p.f1,.bool p.f2,.int .i64 p.f3]
def cells_v (l : List S47) : List Value:=(l.map cell_v).flatten
theorem cells_v_len (l : List S47) : (cells_v l).length = l.length * 4:=by
 unfold cells_v
 rw [flat_len (sz:=4) (by intro c hc;obtain ⟨p,_,rfl⟩:=List.mem_map.1 hc;rfl),List.length_map]
theorem cell_v_one (p : S47) : ∀ u ∈ cell_v p,u.oneCell' = true:=by intro u hu;simp [cell_v] at hu;rcases hu with rfl | rfl | rfl | rfl <;> rfl
theorem cells_v_one (l : List S47) : ∀ u ∈ cells_v l,u.oneCell' = true:=by
 intro u hu
 obtain ⟨c,hc,hu⟩:=List.mem_flatten.1 hu
 obtain ⟨p,_,rfl⟩:=List.mem_map.1 hc
 exact cell_v_one p u hu
theorem rows_v {w : World} {l : List S47} {rows : List (List Value)} (h : RowsOf k47 w l rows) : rows = l.map cell_v:=by
 apply List.ext_getElem?
 intro j
 rw [List.getElem?_map]
 rcases Nat.lt_or_ge j l.length with hj | hj
 ·have hj' : j < rows.length:=by have:=h.len;omega
  rw [List.getElem?_eq_getElem hj,List.getElem?_eq_getElem hj']
  exact congrArg some (k47_open (h.at_ j _ _ (List.getElem?_eq_getElem hj) (List.getElem?_eq_getElem hj')))
 ·rw [List.getElem?_eq_none hj,List.getElem?_eq_none (by have:=h.len;omega)];rfl
theorem rowsOf_v (w : World) (l : List S47) : RowsOf k47 w l (l.map cell_v):=by
 refine ⟨by simp,fun j x c hx hc=>?_⟩
 rw [List.getElem?_map,hx] at hc
 injection hc with hc
 subst hc
 exact k47_mk w x
theorem cells_v_cut (l : List S47) (k : Nat) : (cells_v l).take (k * 4) = cells_v (l.take k) ∧ (cells_v l).drop (k * 4) = cells_v (l.drop k):=by
 induction l generalizing k with
 | nil=>simp [cells_v]
 | cons x l ih =>
  rcases k with _ | k
  ·simp [cells_v]
  ·obtain ⟨a,b⟩:=ih k
   have e : cells_v (x :: l) = cell_v x ++ cells_v l:=rfl
   have e2 : (k + 1) * 4 = (cell_v x).length + k * 4:=by show _ = 4 + _;omega
   rw [e,e2,List.take_length_add_append,List.drop_length_add_append,a,b]
   exact ⟨rfl,rfl⟩
theorem cells_v_app (l m : List S47) : cells_v (l ++ m) = cells_v l ++ cells_v m:=by unfold cells_v;rw [List.map_append,List.flatten_append]
theorem cells_v_set (l : List S47) (t : List Value) (k : Nat) (p : S47) (h : k < l.length) : splice (cells_v l ++ t) (k * 4) (cell_v p) = cells_v (l.set k p) ++ t:=by
 have hl:=cells_v_len l
 unfold splice
 rw [List.take_append_of_le_length (by omega),(cells_v_cut l k).1,show k * 4 + (cell_v p).length = (k + 1) * 4 by show _ + 4 = _;omega,List.drop_append_of_le_length (by omega),(cells_v_cut l (k + 1)).2,List.set_eq_take_append_cons_drop,if_pos h,cells_v_app]
 show _ = (_ ++ (cell_v p ++ cells_v (l.drop (k + 1)))) ++ t
 simp only [List.append_assoc]
theorem cells_v_at {w : World} {g : Nat} {l : List S47} {t : List Value} (h : w.heap[g]? = some (.cells (cells_v l ++ t).toArray 47 (0,0))) (k : Nat) (hk : k < l.length) (i : Nat) (u : Value) (hu : (cell_v l[k])[i]? = some u) : w.cell? ⟨g,k * 4 + i,none⟩ = some u:=by
 have hi : i < 4:=(List.getElem?_eq_some_iff.1 hu).1
 have hl:=cells_v_len l
 rw [blk_cell h]
 rw [List.getElem?_toArray,List.getElem?_append_left (by omega)]
 unfold cells_v
 rw [flat_at (sz:=4) (by intro c hc;obtain ⟨p,_,rfl⟩:=List.mem_map.1 hc;rfl) k i hi,List.getElem?_map,List.getElem?_eq_getElem hk]
 exact hu
theorem own_v {w : World} {base : Nat} {v : Value} {l : List S47} (h : w.ownsRow base 47 4 v l.length (cells_v l)) (hm : l.length ≤ 1000000) : ∃ A c,v = .slice A l.length c ∧ l.length ≤ c ∧ Kd.C k47 w A l.length l :=
 own_C (d:=k47) h (rowsOf_v w l) rfl (by omega)
theorem filter_step {α : Type} (l : List α) (q : α → Bool) (j : Nat) (h : j < l.length) : (l.take (j + 1)).filter q = (l.take j).filter q ++ (if q l[j] then [l[j]] else []):=by
 rw [List.take_succ_eq_append_getElem h,List.filter_append]
 congr 1
 cases hq : q l[j] <;> simp [hq]
theorem filter_start {α : Type} (l : List α) (p : α → Bool) (k : Nat) (h : l.findIdx? p = some k) : k < l.length ∧ (l.take (k + 1)).filter (fun x=>!p x) = l.take k:=by
 rw [List.findIdx?_eq_some_iff_getElem] at h
 obtain ⟨hk,hp,ha⟩:=h
 refine ⟨hk,?_⟩
 rw [filter_step l _ k hk]
 simp only [hp,Bool.not_true,Bool.false_eq_true,if_false,List.append_nil]
 rw [List.filter_eq_self]
 intro x hx
 obtain ⟨j,hj,rfl⟩:=List.getElem_of_mem hx
 rw [List.length_take] at hj
 rw [List.getElem_take]
 have:=ha j (by omega)
 simpa using this
theorem filter_none {α : Type} (l : List α) (p : α → Bool) (h : l.findIdx? p = none) : l.filter (fun x=>!p x) = l:=by
 rw [List.findIdx?_eq_none_iff] at h
 rw [List.filter_eq_self]
 intro x hx
 simp [h x hx]
theorem take_set_succ {α : Type} (l : List α) (k : Nat) (x : α) (h : k < l.length) : (l.set k x).take (k + 1) = l.take k ++ [x]:=by
 rw [List.take_succ_eq_append_getElem (by simpa using h),List.take_set_of_le (Nat.le_refl _)];simp
theorem deleteFunc_v.walk (f : Nat) (cb : Array Value) (base : Nat) (v : Value) (l : List S47) (p : S47 → Bool) (w : World) (hown : w.ownsRow base 47 4 v l.length (cells_v l)) (hb : base ≤ w.heap.size) (hn : l.length ≤ 1000) (eg : ∀ args w,(callFunc f args).run Tryz.prog w = .ok (.enter f args) w)
  (hc0 : ∀ (x : S47) (W : World),Below base w W → Calls Tryz.prog f (#[.agg #[.int .u64 x.f0,.string x.f1,.bool x.f2,.int .i64 x.f3]] ++ cb) W fun e w'=>e = .returned (.bool (p x)) ∧ Below W.heap.size W w') :
  Calls Tryz.prog 162 #[v,.func (.func f) #[] cb] w fun e w'=>∃ v',e = .returned v' ∧ w'.ownsRow base 47 4 v' (l.filter fun x=>!p x).length (cells_v (l.filter fun x=>!p x)) ∧ w.grownBy w' v.ownBlock:=by
 have HC:=zh hc0;clear hc0
 obtain ⟨A,c,rfl,hlc,hC⟩:=own_v hown (by omega)
 have HI:=zh (idx_vs.walk f cb A c l p w eg hC (fun k hk W hW=>HC.out l[k] W (hW.mono hb)))
 clear hC
 have HOWN:=zh hown
 obtain ⟨i0,hi,hy0,hy1,hy2⟩:=info_parts info47
 cases hf : l.findIdx? p with
 | none =>
  rw [hf] at HI
  have HE:=zh (filter_none l p hf)
  clear hf hown
  go_enter Tryz.func162,Tryz.ntmps162
  go_wp2_with (go_at_call 159;refine HI.out.mono ?_;rintro e w1 ⟨rfl,hb1⟩;have HB1:=zh hb1;clear hb1)
  go_ret
  refine ⟨_,rfl,?_,⟨HB1.out.os,HB1.out.tape,HB1.out.output,HB1.out.size,fun k hk _=>HB1.out.block k hk⟩⟩
  rw [HE.out]
  exact own_move HOWN.out (fun k hk=>HB1.out.block k (own_lt HOWN.out k hk))
 | some k =>
  obtain ⟨hk,hflt⟩:=filter_start l p k hf
  rcases hown.2 with ⟨_,h0⟩ | ⟨g,cap,cur,e1,hbg,hg,hnc,hcm,hcs,htake⟩
  ·omega
  injection e1 with e1 _ e2
  subst e1;subst e2
  obtain ⟨tl,htl⟩ : ∃ tl,cur.toList = cells_v l ++ tl:=⟨cur.toList.drop (l.length * 4),by rw [← htake,List.take_append_drop]⟩
  have hcur : cur = (cells_v l ++ tl).toArray:=by rw [← htl]
  subst hcur
  have HTL : Hid ((cells_v l ++ tl).length = c * 4):=by unfold Hid;rw [← htl,Array.length_toList];exact hcs
  have HG:=zh hg;have HFL:=zh hflt;have HCM:=zh hcm;have HBG:=zh hbg
  have hgw : g < w.heap.size:=blk_lt hg
  rw [hf] at HI
  have e1 : posI (some k) = k:=rfl
  rw [e1] at HI
  clear e1 hf hg hflt htl htake hcs hown hcm
  have d0 : ((k : Int) == -1) = false:=beq_eq_false_iff_ne.2 (by omega)
  go_enter Tryz.func162,Tryz.ntmps162
  go_wp2_with (go_at_call 159;refine HI.out.mono ?_;rintro e w1 ⟨rfl,hb1⟩;have HB1:=zh hb1;clear hb1)
  have HO1 : Hid (Only g w w1):=⟨HB1.out.os,HB1.out.tape,HB1.out.output,HB1.out.size,fun j hj _=>HB1.out.block j hj⟩
  have HG1:=zh ((HB1.out.block g hgw).trans HG.out)
  clear d0
  go_loopw [5,6,7] (fun i j _ wr=>∃ (k j' : Nat) (L : List S47),i = .int .i64 k ∧ j = .int .i64 j' ∧ k < j' ∧ j' ≤ l.length ∧ L.length = l.length ∧ Hid (L.take k = (l.take j').filter (fun x=>!p x)) ∧ Hid (L.drop j' = l.drop j') ∧ Hid (wr.heap[g]? = some (.cells (cells_v L ++ tl).toArray 47 (0,0))) ∧ Hid (Only g w wr)) (fun _ j _ _=>l.length - (intOf j).toNat)
  case atStart=>exact ⟨k,k + 1,l,rfl,by go_num,by omega,by omega,rfl,HFL.out.symm,rfl,HG1,HO1⟩
  case round =>
   obtain ⟨k,j,L,rfl,rfl,hkj,hj,hL,hflt,hdr,hgr,hor⟩:=hrel
   have hlw:=hor.out.size
   by_cases hlt : j < l.length
   ·have hx : L[j]'(by omega) = l[j]:=by
     have h1:=congrArg List.head? hdr.out
     rw [List.head?_drop,List.head?_drop,List.getElem?_eq_getElem (by omega),List.getElem?_eq_getElem hlt] at h1
     injection h1
    have hdr' : Hid (L.drop (j + 1) = l.drop (j + 1)):=by
     have h1:=congrArg List.tail hdr.out
     rwa [List.tail_drop,List.tail_drop] at h1
    have HFS:=zh (filter_step l (fun x=>!p x) j hlt)
    obtain ⟨x,hxx⟩ : ∃ x,x = l[j]:=⟨_,rfl⟩
    have ca:=fun (i : Nat) (u : Value) (hu : (cell_v x)[i]? = some u)=>cells_v_at hgr.out j (by omega) i u (by rw [hx,← hxx];exact hu)
    have c0:=ca 0 _ rfl
    have c1:=ca 1 _ rfl
    have c2:=ca 2 _ rfl
    have c3:=ca 3 _ rfl
    rw [Nat.add_zero] at c0
    have gne : wr.heap.size ≠ g:=by omega
    have HA : Hid (Below base w (wr.alloc (.cells #[.int .u64 x.f0,.string x.f1,.bool x.f2,.int .i64 x.f3] 47))):=(hor.out.to g (B:=base) hb HBG.out).alloc (by omega) _
    have HX:=zh (HC.out x _ HA.out)
    have hnew:=blk_new wr (.cells #[.int .u64 x.f0,.string x.f1,.bool x.f2,.int .i64 x.f3] 47)
    rw [← hxx] at HFS
    cases hp : p x
    ·rw [hp] at HX
     have HST : Hid ((L.set k x).take (k + 1) = (l.take (j + 1)).filter (fun x=>!p x)):=by
      unfold Hid;rw [take_set_succ L k x (by omega),hflt.out,HFS.out,hp];rfl
     have HSD : Hid ((L.set k x).drop (j + 1) = l.drop (j + 1)):=by unfold Hid;rw [List.drop_set_of_lt (by omega)];exact hdr'.out
     have HFIT : Hid (k * 4 + (cell_v x).length ≤ (cells_v L ++ tl).toArray.size):=by
      unfold Hid;rw [List.size_toArray,List.length_append,cells_v_len];show _ + 4 ≤ _;omega
     clear hp HFS hx hxx ca
     have hk63 : (l.length : Int) ≤ 1000:=by omega
     go_wp2_with (first | ((with_reducible refine gate_store (t:=47) (p:=33) (v:=.tmp 32) rfl ?_);go_must (refine wpList_store_row rfl rfl 47 (.tmp 33) (.tmp 32) rfl g (k * 4) (cells_v L ++ tl).toArray 47 (.agg #[.int .u64 x.f0,.string x.f1,.bool x.f2,.int .i64 x.f3]) (cell_v x) rfl rfl HG2.out rfl isz_v HFIT.out (cell_v_one x) ?_;intro w3 HG3 HO3)) | (refine HX.out.mono ?_;rintro e w2 ⟨rfl,hb2⟩;have HBW:=zh hb2;have HG2:=zh ((hb2.block g (by simp;omega)).trans (blk_alloc hgr.out _));have y0:=keepc HBW.out (zb hnew 0 (.int .u64 x.f0));have y1:=keepc HBW.out (zb hnew 1 (.string x.f1));have y2:=keepc HBW.out (zb hnew 2 (.bool x.f2));have y3:=keepc HBW.out (zb hnew 3 (.int .i64 x.f3));clear hb2))
     go_roundw
     case rel =>
      refine ⟨k + 1,j + 1,L.set k x,by go_num,by go_num,by omega,by omega,by rw [List.length_set];exact hL,HST,HSD,?_,?_⟩
      ·have:=HG3.out
       rw [cells_v_set L tl k x (by omega)] at this
       exact this
      ·have h1:=hor.out
       have h2:=HBW.out
       have h3:=HO3.out
       refine ⟨?_,?_,?_,?_,?_⟩
       ·rw [h3.os,h2.os];exact h1.os
       ·rw [h3.tape,h2.tape];exact h1.tape
       ·rw [h3.output,h2.output];exact h1.output
       ·have:=h1.size;have:=h2.size;have:=h3.size;simp at *;omega
       ·intro q hq hqg
        rw [h3.block q (by have:=h1.size;have:=h2.size;simp at *;omega) hqg,h2.block q (by have:=h1.size;simp;omega),((Below.refl wr.heap.size wr).alloc (Nat.le_refl _) _).block q (by have:=h1.size;omega)]
        exact h1.block q hq hqg
     case measure=>simp [intOf];omega
    ·rw [hp] at HX
     have HST : Hid (L.take k = (l.take (j + 1)).filter (fun x=>!p x)):=by
      unfold Hid;rw [HFS.out,hp,hflt.out];simp
     clear hp HFS hx hxx ca
     go_wp2_with (refine HX.out.mono ?_;rintro e w2 ⟨rfl,hb2⟩;have HBW:=zh hb2;have HG2:=zh ((hb2.block g (by simp;omega)).trans (blk_alloc hgr.out _));clear hb2)
     go_roundw
     case rel =>
      refine ⟨k,j + 1,L,rfl,by go_num,by omega,by omega,hL,HST,hdr',HG2,?_⟩
      have h1:=hor.out
      have h2:=HBW.out
      refine ⟨?_,?_,?_,?_,?_⟩
      ·rw [h2.os];exact h1.os
      ·rw [h2.tape];exact h1.tape
      ·rw [h2.output];exact h1.output
      ·have:=h1.size;have:=h2.size;simp at *;omega
      ·intro q hq hqg
       rw [h2.block q (by have:=h1.size;simp;omega),((Below.refl wr.heap.size wr).alloc (Nat.le_refl _) _).block q (by have:=h1.size;omega)]
       exact h1.block q hq hqg
     case measure=>simp [intOf];omega
   ·obtain rfl : j = l.length:=by omega
    have HFIN : Hid (l.filter (fun x=>!p x) = L.take k):=by have:=hflt.out;rw [List.take_length] at this;exact this.symm
    have hcl:=HTL.out
    rw [List.length_append,cells_v_len] at hcl
    have d1 : ¬ c = k:=by omega
    have HCL : Hid (k * 4 + (l.length - k) * zv_v.cells.size ≤ (cells_v L ++ tl).toArray.size):=by
     have hz : zv_v.cells.size = 4:=rfl
     unfold Hid;rw [hz];simp only [List.size_toArray,List.length_append,cells_v_len,hL];omega
    have d2 : (k : Int) ≤ (l.length : Int):=by omega
    have d3 : (k : Int) ≤ (c : Int):=by omega
    clear hcl
    go_wp2_with ((with_reducible refine gate_builtin (b:=.clear) (xs:=#[.tmp 38]) rfl ?_);go_must (refine wpList_clear_cells rfl _ 175 rfl 47 i0 zv_v Tryz.underlying175 hi hy0 g (k * 4) (l.length - k) (c - k) rfl (cells_v L ++ tl).toArray 47 hgr.out (by omega) HCL.out (z_one_v _) zL_v (fun _=>rfl) ?_;intro w4 hw4))
    go_ret
    have hG4 : w4.heap[g]? = some (.cells (splice (cells_v L ++ tl).toArray.toList (k * 4) (zL_v (l.length - k))).toArray 47 (0,0)):=by rw [hw4.out];exact setRow_heap _ _ _ _ _ _ hgr.out
    have hO4 : Only g w w4:=by rw [hw4.out];exact hor.out.setRow _
    have hTk : (cells_v L ++ tl).take (k * 4) = cells_v (L.take k):=by
     rw [List.take_append_of_le_length (by rw [cells_v_len];omega),(cells_v_cut L k).1]
    have hlk : (L.take k).length = k:=by rw [List.length_take];omega
    rw [HFIN.out,hlk]
    refine ⟨_,rfl,⟨by rw [cells_v_len,hlk],Or.inr ⟨g,c,_,rfl,HBG.out,hG4,by omega,HCM.out,?_,?_⟩⟩,⟨hO4.os,hO4.tape,hO4.output,hO4.size,fun q hq hqg=>hO4.block q hq (fun e=>hqg (by rw [e];rfl))⟩⟩
    ·rw [List.size_toArray,length_splice _ _ _ (by rw [z_len_v];have:=HTL.out;rw [List.length_append,cells_v_len] at this;simp only [List.length_append,cells_v_len];omega)]
     have:=HTL.out;rw [List.length_append,cells_v_len] at this
     simp only [List.length_append,cells_v_len];omega
    ·show (splice (cells_v L ++ tl) (k * 4) (zL_v (l.length - k))).take (k * 4) = _
     unfold splice
     rw [hTk,List.take_left' (by rw [cells_v_len,hlk])]
end
end Go.Proofs.YtekooapbdgippaaGreatDoor.Q
