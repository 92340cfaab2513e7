/- BucketRoom holds for every input: a bucket never has more octets than may be; a version for which there is no room is refused. The conditions are those of the row: every bucket, key and data that the types of the program allow. Part 26 of 26. -/
import Derived.Test.YtekooapbdgippaaGreatDoorBr4
import Derived.Test.YtekooapbdgippaaGreatDoorBr2
import Derived.Test.YtekooapbdgippaaGreatDoorBr1
import Derived.ProofKit
import Derived.Deep.Strs
import Derived.Lib.SmallJoins
import Derived.Test.YtekooapbdgippaaGreatDoorRows
import Derived.LaidMore
import Derived.OpenShut
import Derived.Stop.Joined
namespace Go.Proofs.YtekooapbdgippaaGreatDoor.Q
open Go.RowKit Go.Proofs.YtekooapbdgippaaGreatDoorW.PrintWords Go.Proofs.YtekooapbdgippaaGreatDoorW.PrintLast Go.Proofs.YtekooapbdgippaaGreatDoorW.PrintMore
attribute [local go_sem] max2_int min2_int max_two min_two max_three min_three max_four min_four
set_option linter.unusedVariables false
set_option linter.unusedSimpArgs false

-- NOT PRINTED: function 55 (cellarerref01_Bucket)

/-! ### cellarerref01_keys: function 152 -/
def cellarerref01_keys.l0 : Nat → ByteArray → Int → Option (Bool)
 | 0,_,_=>none
 | k + 1,x0,x3=>if x3 < (x0.size : Int) then (if 0 ≤ x3 then (if (bt x0 x3) < 32 then (some false) else (if (bt x0 x3) > 126 then (some false) else (cellarerref01_keys.l0 k x0 (wrap64 (x3 + 1))))) else (none)) else (some true)
def cellarerref01_keys.f (k : Nat) (a0 : ByteArray) : Option (Bool):=cellarerref01_keys.l0 k a0 0
set_option maxHeartbeats 8000000 in
set_option maxRecDepth 100000 in
theorem cellarerref01_keys.calls (k : Nat) (a0 : ByteArray) (r : Bool) (w : World) (h : cellarerref01_keys.f k a0 = some r) :
  Calls Tryz.prog 152 #[.string a0] w fun e w'=>e = .returned (.bool r) ∧ Drawn0 w w':=by
 have H : (cellarerref01_keys.l0 k a0 0) = some r:=h
 clear h
 have H':=Aside0.mk H
 clear H
 go_enter Tryz.func152,Tryz.ntmps152
 go_wp2
 go_loopg [3] k (fun kq v3 w'=>∃ (x3_1 : Int),v3 = .int .i64 x3_1 ∧ Aside0 (cellarerref01_keys.l0 kq a0 x3_1 = some r) ∧ Aside0 (kq ≤ k) ∧ Drawn0 w w')
 case atStart=>exact ⟨(0),(by first | rfl | (simp;done) | (simp [*];done)),H',⟨Nat.le_refl _⟩,by repeat (first | exact Drawn0.refl _ | apply Drawn0.step)⟩
 case round =>
  clear H'
  try clear c1
  obtain ⟨x3_1,rfl,HA,HK1,⟨m1,rfl⟩⟩:=hrel
  cases gk with
  | zero=>exact absurd HA.out (by simp [cellarerref01_keys.l0])
  | succ k1 =>
   have H:=HA.out
   clear HA
   simp only [cellarerref01_keys.l0] at H
   by_cases c2 : x3_1 < (a0.size : Int)
   ·rw [if_pos c2] at H
    have c2b0 : decide (x3_1 < (a0.size : Int)) = true:=decide_eq_true c2
    clear c2
    by_cases c3 : 0 ≤ x3_1
    ·rw [if_pos c3] at H
     have c3b0 : decide (0 ≤ x3_1) = true:=decide_eq_true c3
     clear c3
     by_cases c5 : (bt a0 x3_1) < 32
     ·rw [if_pos c5] at H
      have c5b0 : decide ((bt a0 x3_1) < 32) = true:=decide_eq_true c5
      clear c5
      obtain rfl:=Option.some.inj H
      have p4 : 0 ≤ (x3_1 : Int):=of_decide_eq_true (by first | (with_reducible assumption) | assumption)
      have q4 : x3_1 < (a0.size : Int):=of_decide_eq_true (by first | (with_reducible assumption) | assumption)
      have hx4:=bt_at a0 x3_1
      replace p4:=eq_true p4
      replace q4:=eq_true q4
      go_wp2
      go_ret
      exact ⟨by first | rfl | (simp;done) | (simp [*];done),by repeat (first | exact Drawn0.refl _ | apply Drawn0.step)⟩
     ·rw [if_neg c5] at H
      have c5b0 : decide ((bt a0 x3_1) < 32) = false:=decide_eq_false c5
      clear c5
      by_cases c7 : (bt a0 x3_1) > 126
      ·rw [if_pos c7] at H
       have c7b0 : decide (126 < (bt a0 x3_1)) = true:=decide_eq_true c7
       clear c7
       obtain rfl:=Option.some.inj H
       have p4 : 0 ≤ (x3_1 : Int):=of_decide_eq_true (by first | (with_reducible assumption) | assumption)
       have q4 : x3_1 < (a0.size : Int):=of_decide_eq_true (by first | (with_reducible assumption) | assumption)
       have hx4:=bt_at a0 x3_1
       replace p4:=eq_true p4
       replace q4:=eq_true q4
       have p6 : 0 ≤ (x3_1 : Int):=of_decide_eq_true (by first | (with_reducible assumption) | assumption)
       have q6 : x3_1 < (a0.size : Int):=of_decide_eq_true (by first | (with_reducible assumption) | assumption)
       have hx6:=bt_at a0 x3_1
       replace p6:=eq_true p6
       replace q6:=eq_true q6
       go_wp2
       go_ret
       exact ⟨by first | rfl | (simp;done) | (simp [*];done),by repeat (first | exact Drawn0.refl _ | apply Drawn0.step)⟩
      ·rw [if_neg c7] at H
       have c7b0 : decide (126 < (bt a0 x3_1)) = false:=decide_eq_false c7
       clear c7
       have H':=Aside0.mk H
       clear H
       have p4 : 0 ≤ (x3_1 : Int):=of_decide_eq_true (by first | (with_reducible assumption) | assumption)
       have q4 : x3_1 < (a0.size : Int):=of_decide_eq_true (by first | (with_reducible assumption) | assumption)
       have hx4:=bt_at a0 x3_1
       replace p4:=eq_true p4
       replace q4:=eq_true q4
       have p6 : 0 ≤ (x3_1 : Int):=of_decide_eq_true (by first | (with_reducible assumption) | assumption)
       have q6 : x3_1 < (a0.size : Int):=of_decide_eq_true (by first | (with_reducible assumption) | assumption)
       have hx6:=bt_at a0 x3_1
       replace p6:=eq_true p6
       replace q6:=eq_true q6
       go_wp2
       go_roundg k1
       case measure=>have:=HK1.out;omega
       case rel=>exact ⟨(wrap64 (x3_1 + 1)),(by first | rfl | (simp;done) | (simp [*];done)),H',⟨by have:=HK1.out;omega⟩,by repeat (first | exact Drawn0.refl _ | apply Drawn0.step)⟩
    ·rw [if_neg c3] at H
     exact absurd H (by simp)
   ·rw [if_neg c2] at H
    have c2b0 : decide (x3_1 < (a0.size : Int)) = false:=decide_eq_false c2
    clear c2
    obtain rfl:=Option.some.inj H
    go_wp2
    go_ret
    exact ⟨by first | rfl | (simp;done) | (simp [*];done),by repeat (first | exact Drawn0.refl _ | apply Drawn0.step)⟩

/-! ### cellarerref01_Key: function 111 -/
def cellarerref01_Key.f (k : Nat) (a0 : ByteArray) : Option (Bool):=if a0.toList = ([] : List UInt8) then (some false) else (if (a0.size : Int) ≤ 60 then ((cellarerref01_keys.f k a0).bind fun t107=>(some t107)) else (some false))
set_option maxHeartbeats 8000000 in
set_option maxRecDepth 100000 in
theorem cellarerref01_Key.calls (k : Nat) (a0 : ByteArray) (r : Bool) (w : World) (h : cellarerref01_Key.f k a0 = some r) :
  Calls Tryz.prog 111 #[.string a0] w fun e w'=>e = .returned (.bool r) ∧ Drawn0 w w':=by
 have H : (if a0.toList = ([] : List UInt8) then (some false) else (if (a0.size : Int) ≤ 60 then ((cellarerref01_keys.f k a0).bind fun t107=>(some t107)) else (some false))) = some r:=h
 clear h
 by_cases c2 : a0.toList = ([] : List UInt8)
 ·rw [if_pos c2] at H
  have c2b0 : (a0.toList == ([] : List UInt8)) = true:=beq_iff_eq.mpr c2
  have c2b1 : (a0.toList != ([] : List UInt8)) = false:=bne_eq_false_iff_eq.mpr c2
  clear c2
  obtain rfl:=Option.some.inj H
  go_enter Tryz.func111,Tryz.ntmps111
  go_wp2
  go_ret
  exact ⟨by first | rfl | (simp;done) | (simp [*];done),by repeat (first | exact Drawn0.refl _ | apply Drawn0.step)⟩
 ·rw [if_neg c2] at H
  have c2b0 : (a0.toList == ([] : List UInt8)) = false:=beq_eq_false_iff_ne.mpr c2
  have c2b1 : (a0.toList != ([] : List UInt8)) = true:=bne_iff_ne.mpr c2
  by_cases c3 : (a0.size : Int) ≤ 60
  ·rw [if_pos c3] at H
   have c3b0 : decide ((a0.size : Int) ≤ 60) = true:=decide_eq_true c3
   have c3b1 : decide (a0.size ≤ 60) = true:=decide_eq_true (by omega)
   clear c3
   replace H:=Option.bind_eq_some_iff.mp H
   obtain ⟨t107,A40,H⟩:=H
   replace H : (some t107) = some r:=H
   have A4:=Aside0.mk A40
   clear A40
   obtain rfl:=Option.some.inj H
   go_enter Tryz.func111,Tryz.ntmps111
   go_wp2_with (first | (go_at_call 152;(with_reducible refine (cellarerref01_keys.calls k a0 t107 _ A4.out).mono ?_);rintro e w' ⟨rfl,⟨nd,rfl⟩⟩))
   go_ret
   exact ⟨by first | rfl | (simp;done) | (simp [*];done),by repeat (first | exact Drawn0.refl _ | apply Drawn0.step)⟩
  ·rw [if_neg c3] at H
   have c3b0 : decide ((a0.size : Int) ≤ 60) = false:=decide_eq_false c3
   have c3b1 : decide (a0.size ≤ 60) = false:=decide_eq_false (by omega)
   clear c3
   obtain rfl:=Option.some.inj H
   go_enter Tryz.func111,Tryz.ntmps111
   go_wp2
   go_ret
   exact ⟨by first | rfl | (simp;done) | (simp [*];done),by repeat (first | exact Drawn0.refl _ | apply Drawn0.step)⟩

/-! ### cellarerref05_May: function 153 -/
def cellarerref05_May.f (a0_0 : Int) (a0_1 : ByteArray) (a0_2 : Bool) (a0_3 : Int) : Option (Bool):=if a0_0 ≤ 281474976710655 then (if (a0_1.size : Int) ≤ 2000 then (if a0_2 = true then (if a0_1.toList = ([] : List UInt8) then (if 0 ≤ a0_3 then (some (decide (a0_3 ≤ 1099511627775))) else (some false)) else (some false)) else (if 0 ≤ a0_3 then (some (decide (a0_3 ≤ 1099511627775))) else (some false))) else (some false)) else (some false)
set_option maxHeartbeats 8000000 in
set_option maxRecDepth 100000 in
theorem cellarerref05_May.calls (a0_0 : Int) (a0_1 : ByteArray) (a0_2 : Bool) (a0_3 : Int) (r : Bool) (w : World) (h : cellarerref05_May.f a0_0 a0_1 a0_2 a0_3 = some r) :
  Calls Tryz.prog 153 #[.agg #[.int .u64 a0_0,.string a0_1,.bool a0_2,.int .i64 a0_3]] w fun e w'=>e = .returned (.bool r) ∧ Below w.heap.size w w':=by
 have hu47:=Tryz.underlying47
 have HB:=Aside0.mk (Below.refl w.heap.size w)
 have H : (if a0_0 ≤ 281474976710655 then (if (a0_1.size : Int) ≤ 2000 then (if a0_2 = true then (if a0_1.toList = ([] : List UInt8) then (if 0 ≤ a0_3 then (some (decide (a0_3 ≤ 1099511627775))) else (some false)) else (some false)) else (if 0 ≤ a0_3 then (some (decide (a0_3 ≤ 1099511627775))) else (some false))) else (some false)) else (some false)) = some r:=h
 clear h
 by_cases c2 : a0_0 ≤ 281474976710655
 ·rw [if_pos c2] at H
  have c2b0 : decide (a0_0 ≤ 281474976710655) = true:=decide_eq_true c2
  clear c2
  by_cases c3 : (a0_1.size : Int) ≤ 2000
  ·rw [if_pos c3] at H
   have c3b0 : decide ((a0_1.size : Int) ≤ 2000) = true:=decide_eq_true c3
   have c3b1 : decide (a0_1.size ≤ 2000) = true:=decide_eq_true (by omega)
   clear c3
   by_cases c4 : a0_2 = true
   ·subst c4
    have H1 : (if a0_1.toList = ([] : List UInt8) then (if 0 ≤ a0_3 then (some (decide (a0_3 ≤ 1099511627775))) else (some false)) else (some false)) = some r:=by rw [if_pos rfl] at H;exact H
    clear H
    have H:=H1
    clear H1
    by_cases c5 : a0_1.toList = ([] : List UInt8)
    ·rw [if_pos c5] at H
     have c5b0 : (a0_1.toList == ([] : List UInt8)) = true:=beq_iff_eq.mpr c5
     have c5b1 : (a0_1.toList != ([] : List UInt8)) = false:=bne_eq_false_iff_eq.mpr c5
     clear c5
     by_cases c6 : 0 ≤ a0_3
     ·rw [if_pos c6] at H
      have c6b0 : decide (0 ≤ a0_3) = true:=decide_eq_true c6
      clear c6
      obtain rfl:=Option.some.inj H
      go_enter Tryz.func153,Tryz.ntmps153
      go_wp2_with (first | ((with_reducible refine gate_dst (N:=1) rfl ?_);(try (refine gate_guard (by rfl) ?_;dsimp only));refine zbx 1 #[.int .u64 a0_0,.string a0_1,.bool true,.int .i64 a0_3] 47 ?_;intro gb108 hg w7 hbox hb;have n0_:=Aside0.mk (below_step zbe hb);have n1_:=Aside0.mk (hbox);have n2_:=Aside0.mk ((by rw [hg];exact (below_size zbe) : w.heap.size ≤ gb108));have n3_:=Aside0.mk ((by rw [hg];exact (below_size zbe) : w.heap.size ≤ gb108));clear HB;have HB:=n0_;have BK108:=n1_;have GW108:=n2_;have GE108:=n3_;clear n0_ n1_ n2_ n3_;clear hb hbox hg;have hcz8_0 : w7.cell? ⟨gb108,0,none⟩ = some (.int .u64 a0_0):=(blk_cell BK108.out 0).trans rfl;have hcz8_1 : w7.cell? ⟨gb108,1,none⟩ = some (.string a0_1):=(blk_cell BK108.out 1).trans rfl;have hcz8_2 : w7.cell? ⟨gb108,2,none⟩ = some (.bool true):=(blk_cell BK108.out 2).trans rfl;have hcz8_3 : w7.cell? ⟨gb108,3,none⟩ = some (.int .i64 a0_3):=(blk_cell BK108.out 3).trans rfl;have hfz8_0:=blk_frozen BK108.out 0;have hfz8_1:=blk_frozen BK108.out 1;have hfz8_2:=blk_frozen BK108.out 2;have hfz8_3:=blk_frozen BK108.out 3))
      go_ret
      exact ⟨by first | rfl | (simp [errW_none,errW_some] <;> rfl) | (simp [*,errW_none,errW_some] <;> rfl),by repeat (first | (with_reducible first | exact HB.out | apply below_alloc | apply pw_below_drewN | apply below_drew1 | refine below_set ?_ GE108.out) | exact HB.out)⟩
     ·rw [if_neg c6] at H
      have c6b0 : decide (0 ≤ a0_3) = false:=decide_eq_false c6
      clear c6
      obtain rfl:=Option.some.inj H
      go_enter Tryz.func153,Tryz.ntmps153
      go_wp2_with (first | ((with_reducible refine gate_dst (N:=1) rfl ?_);(try (refine gate_guard (by rfl) ?_;dsimp only));refine zbx 1 #[.int .u64 a0_0,.string a0_1,.bool true,.int .i64 a0_3] 47 ?_;intro gb108 hg w9 hbox hb;have n0_:=Aside0.mk (below_step zbe hb);have n1_:=Aside0.mk (hbox);have n2_:=Aside0.mk ((by rw [hg];exact (below_size zbe) : w.heap.size ≤ gb108));have n3_:=Aside0.mk ((by rw [hg];exact (below_size zbe) : w.heap.size ≤ gb108));clear HB;have HB:=n0_;have BK108:=n1_;have GW108:=n2_;have GE108:=n3_;clear n0_ n1_ n2_ n3_;clear hb hbox hg;have hcz10_0 : w9.cell? ⟨gb108,0,none⟩ = some (.int .u64 a0_0):=(blk_cell BK108.out 0).trans rfl;have hcz10_1 : w9.cell? ⟨gb108,1,none⟩ = some (.string a0_1):=(blk_cell BK108.out 1).trans rfl;have hcz10_2 : w9.cell? ⟨gb108,2,none⟩ = some (.bool true):=(blk_cell BK108.out 2).trans rfl;have hcz10_3 : w9.cell? ⟨gb108,3,none⟩ = some (.int .i64 a0_3):=(blk_cell BK108.out 3).trans rfl;have hfz10_0:=blk_frozen BK108.out 0;have hfz10_1:=blk_frozen BK108.out 1;have hfz10_2:=blk_frozen BK108.out 2;have hfz10_3:=blk_frozen BK108.out 3))
      go_ret
      exact ⟨by first | rfl | (simp [errW_none,errW_some] <;> rfl) | (simp [*,errW_none,errW_some] <;> rfl),by repeat (first | (with_reducible first | exact HB.out | apply below_alloc | apply pw_below_drewN | apply below_drew1 | refine below_set ?_ GE108.out) | exact HB.out)⟩
    ·rw [if_neg c5] at H
     have c5b0 : (a0_1.toList == ([] : List UInt8)) = false:=beq_eq_false_iff_ne.mpr c5
     have c5b1 : (a0_1.toList != ([] : List UInt8)) = true:=bne_iff_ne.mpr c5
     obtain rfl:=Option.some.inj H
     go_enter Tryz.func153,Tryz.ntmps153
     go_wp2_with (first | ((with_reducible refine gate_dst (N:=1) rfl ?_);(try (refine gate_guard (by rfl) ?_;dsimp only));refine zbx 1 #[.int .u64 a0_0,.string a0_1,.bool true,.int .i64 a0_3] 47 ?_;intro gb108 hg w11 hbox hb;have n0_:=Aside0.mk (below_step zbe hb);have n1_:=Aside0.mk (hbox);have n2_:=Aside0.mk ((by rw [hg];exact (below_size zbe) : w.heap.size ≤ gb108));have n3_:=Aside0.mk ((by rw [hg];exact (below_size zbe) : w.heap.size ≤ gb108));clear HB;have HB:=n0_;have BK108:=n1_;have GW108:=n2_;have GE108:=n3_;clear n0_ n1_ n2_ n3_;clear hb hbox hg;have hcz12_0 : w11.cell? ⟨gb108,0,none⟩ = some (.int .u64 a0_0):=(blk_cell BK108.out 0).trans rfl;have hcz12_1 : w11.cell? ⟨gb108,1,none⟩ = some (.string a0_1):=(blk_cell BK108.out 1).trans rfl;have hcz12_2 : w11.cell? ⟨gb108,2,none⟩ = some (.bool true):=(blk_cell BK108.out 2).trans rfl;have hcz12_3 : w11.cell? ⟨gb108,3,none⟩ = some (.int .i64 a0_3):=(blk_cell BK108.out 3).trans rfl;have hfz12_0:=blk_frozen BK108.out 0;have hfz12_1:=blk_frozen BK108.out 1;have hfz12_2:=blk_frozen BK108.out 2;have hfz12_3:=blk_frozen BK108.out 3))
     go_ret
     exact ⟨by first | rfl | (simp [errW_none,errW_some] <;> rfl) | (simp [*,errW_none,errW_some] <;> rfl),by repeat (first | (with_reducible first | exact HB.out | apply below_alloc | apply pw_below_drewN | apply below_drew1 | refine below_set ?_ GE108.out) | exact HB.out)⟩
   ·replace c4:=Bool.eq_false_iff.mpr c4
    subst c4
    have H1 : (if 0 ≤ a0_3 then (some (decide (a0_3 ≤ 1099511627775))) else (some false)) = some r:=by rw [if_neg (show ¬ (false = true) by decide)] at H;exact H
    clear H
    have H:=H1
    clear H1
    by_cases c13 : 0 ≤ a0_3
    ·rw [if_pos c13] at H
     have c13b0 : decide (0 ≤ a0_3) = true:=decide_eq_true c13
     clear c13
     obtain rfl:=Option.some.inj H
     go_enter Tryz.func153,Tryz.ntmps153
     go_wp2_with (first | ((with_reducible refine gate_dst (N:=1) rfl ?_);(try (refine gate_guard (by rfl) ?_;dsimp only));refine zbx 1 #[.int .u64 a0_0,.string a0_1,.bool false,.int .i64 a0_3] 47 ?_;intro gb108 hg w14 hbox hb;have n0_:=Aside0.mk (below_step zbe hb);have n1_:=Aside0.mk (hbox);have n2_:=Aside0.mk ((by rw [hg];exact (below_size zbe) : w.heap.size ≤ gb108));have n3_:=Aside0.mk ((by rw [hg];exact (below_size zbe) : w.heap.size ≤ gb108));clear HB;have HB:=n0_;have BK108:=n1_;have GW108:=n2_;have GE108:=n3_;clear n0_ n1_ n2_ n3_;clear hb hbox hg;have hcz15_0 : w14.cell? ⟨gb108,0,none⟩ = some (.int .u64 a0_0):=(blk_cell BK108.out 0).trans rfl;have hcz15_1 : w14.cell? ⟨gb108,1,none⟩ = some (.string a0_1):=(blk_cell BK108.out 1).trans rfl;have hcz15_2 : w14.cell? ⟨gb108,2,none⟩ = some (.bool false):=(blk_cell BK108.out 2).trans rfl;have hcz15_3 : w14.cell? ⟨gb108,3,none⟩ = some (.int .i64 a0_3):=(blk_cell BK108.out 3).trans rfl;have hfz15_0:=blk_frozen BK108.out 0;have hfz15_1:=blk_frozen BK108.out 1;have hfz15_2:=blk_frozen BK108.out 2;have hfz15_3:=blk_frozen BK108.out 3))
     go_ret
     exact ⟨by first | rfl | (simp [errW_none,errW_some] <;> rfl) | (simp [*,errW_none,errW_some] <;> rfl),by repeat (first | (with_reducible first | exact HB.out | apply below_alloc | apply pw_below_drewN | apply below_drew1 | refine below_set ?_ GE108.out) | exact HB.out)⟩
    ·rw [if_neg c13] at H
     have c13b0 : decide (0 ≤ a0_3) = false:=decide_eq_false c13
     clear c13
     obtain rfl:=Option.some.inj H
     go_enter Tryz.func153,Tryz.ntmps153
     go_wp2_with (first | ((with_reducible refine gate_dst (N:=1) rfl ?_);(try (refine gate_guard (by rfl) ?_;dsimp only));refine zbx 1 #[.int .u64 a0_0,.string a0_1,.bool false,.int .i64 a0_3] 47 ?_;intro gb108 hg w16 hbox hb;have n0_:=Aside0.mk (below_step zbe hb);have n1_:=Aside0.mk (hbox);have n2_:=Aside0.mk ((by rw [hg];exact (below_size zbe) : w.heap.size ≤ gb108));have n3_:=Aside0.mk ((by rw [hg];exact (below_size zbe) : w.heap.size ≤ gb108));clear HB;have HB:=n0_;have BK108:=n1_;have GW108:=n2_;have GE108:=n3_;clear n0_ n1_ n2_ n3_;clear hb hbox hg;have hcz17_0 : w16.cell? ⟨gb108,0,none⟩ = some (.int .u64 a0_0):=(blk_cell BK108.out 0).trans rfl;have hcz17_1 : w16.cell? ⟨gb108,1,none⟩ = some (.string a0_1):=(blk_cell BK108.out 1).trans rfl;have hcz17_2 : w16.cell? ⟨gb108,2,none⟩ = some (.bool false):=(blk_cell BK108.out 2).trans rfl;have hcz17_3 : w16.cell? ⟨gb108,3,none⟩ = some (.int .i64 a0_3):=(blk_cell BK108.out 3).trans rfl;have hfz17_0:=blk_frozen BK108.out 0;have hfz17_1:=blk_frozen BK108.out 1;have hfz17_2:=blk_frozen BK108.out 2;have hfz17_3:=blk_frozen BK108.out 3))
     go_ret
     exact ⟨by first | rfl | (simp [errW_none,errW_some] <;> rfl) | (simp [*,errW_none,errW_some] <;> rfl),by repeat (first | (with_reducible first | exact HB.out | apply below_alloc | apply pw_below_drewN | apply below_drew1 | refine below_set ?_ GE108.out) | exact HB.out)⟩
  ·rw [if_neg c3] at H
   have c3b0 : decide ((a0_1.size : Int) ≤ 2000) = false:=decide_eq_false c3
   have c3b1 : decide (a0_1.size ≤ 2000) = false:=decide_eq_false (by omega)
   clear c3
   obtain rfl:=Option.some.inj H
   go_enter Tryz.func153,Tryz.ntmps153
   go_wp2_with (first | ((with_reducible refine gate_dst (N:=1) rfl ?_);(try (refine gate_guard (by rfl) ?_;dsimp only));refine zbx 1 #[.int .u64 a0_0,.string a0_1,.bool a0_2,.int .i64 a0_3] 47 ?_;intro gb108 hg w18 hbox hb;have n0_:=Aside0.mk (below_step zbe hb);have n1_:=Aside0.mk (hbox);have n2_:=Aside0.mk ((by rw [hg];exact (below_size zbe) : w.heap.size ≤ gb108));have n3_:=Aside0.mk ((by rw [hg];exact (below_size zbe) : w.heap.size ≤ gb108));clear HB;have HB:=n0_;have BK108:=n1_;have GW108:=n2_;have GE108:=n3_;clear n0_ n1_ n2_ n3_;clear hb hbox hg;have hcz19_0 : w18.cell? ⟨gb108,0,none⟩ = some (.int .u64 a0_0):=(blk_cell BK108.out 0).trans rfl;have hcz19_1 : w18.cell? ⟨gb108,1,none⟩ = some (.string a0_1):=(blk_cell BK108.out 1).trans rfl;have hcz19_2 : w18.cell? ⟨gb108,2,none⟩ = some (.bool a0_2):=(blk_cell BK108.out 2).trans rfl;have hcz19_3 : w18.cell? ⟨gb108,3,none⟩ = some (.int .i64 a0_3):=(blk_cell BK108.out 3).trans rfl;have hfz19_0:=blk_frozen BK108.out 0;have hfz19_1:=blk_frozen BK108.out 1;have hfz19_2:=blk_frozen BK108.out 2;have hfz19_3:=blk_frozen BK108.out 3))
   go_ret
   exact ⟨by first | rfl | (simp [errW_none,errW_some] <;> rfl) | (simp [*,errW_none,errW_some] <;> rfl),by repeat (first | (with_reducible first | exact HB.out | apply below_alloc | apply pw_below_drewN | apply below_drew1 | refine below_set ?_ GE108.out) | exact HB.out)⟩
 ·rw [if_neg c2] at H
  have c2b0 : decide (a0_0 ≤ 281474976710655) = false:=decide_eq_false c2
  clear c2
  obtain rfl:=Option.some.inj H
  go_enter Tryz.func153,Tryz.ntmps153
  go_wp2_with (first | ((with_reducible refine gate_dst (N:=1) rfl ?_);(try (refine gate_guard (by rfl) ?_;dsimp only));refine zbx 1 #[.int .u64 a0_0,.string a0_1,.bool a0_2,.int .i64 a0_3] 47 ?_;intro gb108 hg w20 hbox hb;have n0_:=Aside0.mk (below_step zbe hb);have n1_:=Aside0.mk (hbox);have n2_:=Aside0.mk ((by rw [hg];exact (below_size zbe) : w.heap.size ≤ gb108));have n3_:=Aside0.mk ((by rw [hg];exact (below_size zbe) : w.heap.size ≤ gb108));clear HB;have HB:=n0_;have BK108:=n1_;have GW108:=n2_;have GE108:=n3_;clear n0_ n1_ n2_ n3_;clear hb hbox hg;have hcz21_0 : w20.cell? ⟨gb108,0,none⟩ = some (.int .u64 a0_0):=(blk_cell BK108.out 0).trans rfl;have hcz21_1 : w20.cell? ⟨gb108,1,none⟩ = some (.string a0_1):=(blk_cell BK108.out 1).trans rfl;have hcz21_2 : w20.cell? ⟨gb108,2,none⟩ = some (.bool a0_2):=(blk_cell BK108.out 2).trans rfl;have hcz21_3 : w20.cell? ⟨gb108,3,none⟩ = some (.int .i64 a0_3):=(blk_cell BK108.out 3).trans rfl;have hfz21_0:=blk_frozen BK108.out 0;have hfz21_1:=blk_frozen BK108.out 1;have hfz21_2:=blk_frozen BK108.out 2;have hfz21_3:=blk_frozen BK108.out 3))
  go_ret
  exact ⟨by first | rfl | (simp [errW_none,errW_some] <;> rfl) | (simp [*,errW_none,errW_some] <;> rfl),by repeat (first | (with_reducible first | exact HB.out | apply below_alloc | apply pw_below_drewN | apply below_drew1 | refine below_set ?_ GE108.out) | exact HB.out)⟩

-- NOT PRINTED: function 112 (cellarerref05_Check)

-- NOT PRINTED: function 56 (cellarerref06_May)

/-! ### cellarerref08_part: function 154 -/
def cellarerref08_part.f (a0_0 : Int) (a0_1 : ByteArray) : Option (Bool):=if 1 ≤ a0_0 then (if a0_0 ≤ 1000 then (some (decide ((a0_1.size : Int) ≤ 2000))) else (some false)) else (some false)
set_option maxHeartbeats 8000000 in
set_option maxRecDepth 100000 in
theorem cellarerref08_part.calls (a0_0 : Int) (a0_1 : ByteArray) (r : Bool) (w : World) (h : cellarerref08_part.f a0_0 a0_1 = some r) :
  Calls Tryz.prog 154 #[.agg #[.int .i64 a0_0,.string a0_1]] w fun e w'=>e = .returned (.bool r) ∧ Below w.heap.size w w':=by
 have hu40:=Tryz.underlying40
 have HB:=Aside0.mk (Below.refl w.heap.size w)
 have H : (if 1 ≤ a0_0 then (if a0_0 ≤ 1000 then (some (decide ((a0_1.size : Int) ≤ 2000))) else (some false)) else (some false)) = some r:=h
 clear h
 by_cases c2 : 1 ≤ a0_0
 ·rw [if_pos c2] at H
  have c2b0 : decide (1 ≤ a0_0) = true:=decide_eq_true c2
  clear c2
  by_cases c3 : a0_0 ≤ 1000
  ·rw [if_pos c3] at H
   have c3b0 : decide (a0_0 ≤ 1000) = true:=decide_eq_true c3
   clear c3
   obtain rfl:=Option.some.inj H
   go_enter Tryz.func154,Tryz.ntmps154
   go_wp2_with (first | ((with_reducible refine gate_dst (N:=1) rfl ?_);(try (refine gate_guard (by rfl) ?_;dsimp only));refine zbx 1 #[.int .i64 a0_0,.string a0_1] 40 ?_;intro gb124 hg w4 hbox hb;have n0_:=Aside0.mk (below_step zbe hb);have n1_:=Aside0.mk (hbox);have n2_:=Aside0.mk ((by rw [hg];exact (below_size zbe) : w.heap.size ≤ gb124));have n3_:=Aside0.mk ((by rw [hg];exact (below_size zbe) : w.heap.size ≤ gb124));clear HB;have HB:=n0_;have BK124:=n1_;have GW124:=n2_;have GE124:=n3_;clear n0_ n1_ n2_ n3_;clear hb hbox hg;have hcz5_0 : w4.cell? ⟨gb124,0,none⟩ = some (.int .i64 a0_0):=(blk_cell BK124.out 0).trans rfl;have hcz5_1 : w4.cell? ⟨gb124,1,none⟩ = some (.string a0_1):=(blk_cell BK124.out 1).trans rfl;have hfz5_0:=blk_frozen BK124.out 0;have hfz5_1:=blk_frozen BK124.out 1))
   go_ret
   exact ⟨by first | rfl | (simp [errW_none,errW_some] <;> rfl) | (simp [*,errW_none,errW_some] <;> rfl),by repeat (first | (with_reducible first | exact HB.out | apply below_alloc | apply pw_below_drewN | apply below_drew1 | refine below_set ?_ GE124.out) | exact HB.out)⟩
  ·rw [if_neg c3] at H
   have c3b0 : decide (a0_0 ≤ 1000) = false:=decide_eq_false c3
   clear c3
   obtain rfl:=Option.some.inj H
   go_enter Tryz.func154,Tryz.ntmps154
   go_wp2_with (first | ((with_reducible refine gate_dst (N:=1) rfl ?_);(try (refine gate_guard (by rfl) ?_;dsimp only));refine zbx 1 #[.int .i64 a0_0,.string a0_1] 40 ?_;intro gb124 hg w6 hbox hb;have n0_:=Aside0.mk (below_step zbe hb);have n1_:=Aside0.mk (hbox);have n2_:=Aside0.mk ((by rw [hg];exact (below_size zbe) : w.heap.size ≤ gb124));have n3_:=Aside0.mk ((by rw [hg];exact (below_size zbe) : w.heap.size ≤ gb124));clear HB;have HB:=n0_;have BK124:=n1_;have GW124:=n2_;have GE124:=n3_;clear n0_ n1_ n2_ n3_;clear hb hbox hg;have hcz7_0 : w6.cell? ⟨gb124,0,none⟩ = some (.int .i64 a0_0):=(blk_cell BK124.out 0).trans rfl;have hcz7_1 : w6.cell? ⟨gb124,1,none⟩ = some (.string a0_1):=(blk_cell BK124.out 1).trans rfl;have hfz7_0:=blk_frozen BK124.out 0;have hfz7_1:=blk_frozen BK124.out 1))
   go_ret
   exact ⟨by first | rfl | (simp [errW_none,errW_some] <;> rfl) | (simp [*,errW_none,errW_some] <;> rfl),by repeat (first | (with_reducible first | exact HB.out | apply below_alloc | apply pw_below_drewN | apply below_drew1 | refine below_set ?_ GE124.out) | exact HB.out)⟩
 ·rw [if_neg c2] at H
  have c2b0 : decide (1 ≤ a0_0) = false:=decide_eq_false c2
  clear c2
  obtain rfl:=Option.some.inj H
  go_enter Tryz.func154,Tryz.ntmps154
  go_wp2_with (first | ((with_reducible refine gate_dst (N:=1) rfl ?_);(try (refine gate_guard (by rfl) ?_;dsimp only));refine zbx 1 #[.int .i64 a0_0,.string a0_1] 40 ?_;intro gb124 hg w8 hbox hb;have n0_:=Aside0.mk (below_step zbe hb);have n1_:=Aside0.mk (hbox);have n2_:=Aside0.mk ((by rw [hg];exact (below_size zbe) : w.heap.size ≤ gb124));have n3_:=Aside0.mk ((by rw [hg];exact (below_size zbe) : w.heap.size ≤ gb124));clear HB;have HB:=n0_;have BK124:=n1_;have GW124:=n2_;have GE124:=n3_;clear n0_ n1_ n2_ n3_;clear hb hbox hg;have hcz9_0 : w8.cell? ⟨gb124,0,none⟩ = some (.int .i64 a0_0):=(blk_cell BK124.out 0).trans rfl;have hcz9_1 : w8.cell? ⟨gb124,1,none⟩ = some (.string a0_1):=(blk_cell BK124.out 1).trans rfl;have hfz9_0:=blk_frozen BK124.out 0;have hfz9_1:=blk_frozen BK124.out 1))
  go_ret
  exact ⟨by first | rfl | (simp [errW_none,errW_some] <;> rfl) | (simp [*,errW_none,errW_some] <;> rfl),by repeat (first | (with_reducible first | exact HB.out | apply below_alloc | apply pw_below_drewN | apply below_drew1 | refine below_set ?_ GE124.out) | exact HB.out)⟩

/-! ### cellarerref08_number: function 155 -/
def cellarerref08_number.f (a0 : Int) : Option (Bool):=if 1 ≤ a0 then (some (decide (a0 ≤ 281474976710655))) else (some false)
set_option maxHeartbeats 8000000 in
set_option maxRecDepth 100000 in
theorem cellarerref08_number.calls (a0 : Int) (r : Bool) (w : World) (h : cellarerref08_number.f a0 = some r) :
  Calls Tryz.prog 155 #[.int .u64 a0] w fun e w'=>e = .returned (.bool r) ∧ Drawn0 w w':=by
 have H : (if 1 ≤ a0 then (some (decide (a0 ≤ 281474976710655))) else (some false)) = some r:=h
 clear h
 by_cases c2 : 1 ≤ a0
 ·rw [if_pos c2] at H
  have c2b0 : decide (1 ≤ a0) = true:=decide_eq_true c2
  clear c2
  obtain rfl:=Option.some.inj H
  go_enter Tryz.func155,Tryz.ntmps155
  go_wp2
  go_ret
  exact ⟨by first | rfl | (simp;done) | (simp [*];done),by repeat (first | exact Drawn0.refl _ | apply Drawn0.step)⟩
 ·rw [if_neg c2] at H
  have c2b0 : decide (1 ≤ a0) = false:=decide_eq_false c2
  clear c2
  obtain rfl:=Option.some.inj H
  go_enter Tryz.func155,Tryz.ntmps155
  go_wp2
  go_ret
  exact ⟨by first | rfl | (simp;done) | (simp [*];done),by repeat (first | exact Drawn0.refl _ | apply Drawn0.step)⟩

end Go.Proofs.YtekooapbdgippaaGreatDoor.Q
namespace Go.Proofs.YtekooapbdgippaaGreatDoor.Q
open Go.RowKit Go.Proofs.YtekooapbdgippaaGreatDoorW.PrintWords Go.Proofs.YtekooapbdgippaaGreatDoorW.PrintLast Go.Proofs.YtekooapbdgippaaGreatDoorW.PrintMore
attribute [local go_sem] max2_int min2_int max_two min_two max_three min_three max_four min_four
set_option linter.unusedVariables false
set_option linter.unusedSimpArgs false

/-! ### cellarerref08_One: function 113 -/
def cellarerref08_One.l0 : Nat → Int → Int → ByteArray → List (S40) → Option (Bool)
 | 0,_,_,_,_=>none
 | k + 1,x3,x126000,x126001,x126002=>if x3 < (x126002.length : Int) then (if 0 ≤ x3 then ((cellarerref08_part.f ((rd_T40 x126002 x3).f0) ((rd_T40 x126002 x3).f1)).bind fun t127=>(if t127 = true then (if x3 > 0 then (if 0 ≤ (wrap64 (x3 - 1)) then (if (wrap64 (x3 - 1)) < (x126002.length : Int) then (if ((rd_T40 x126002 x3).f0) ≤ ((rd_T40 x126002 (wrap64 (x3 - 1))).f0) then (some false) else (cellarerref08_One.l0 k (wrap64 (x3 + 1)) x126000 x126001 x126002)) else (none)) else (none)) else (cellarerref08_One.l0 k (wrap64 (x3 + 1)) x126000 x126001 x126002)) else (some false))) else (none)) else ((cellarerref08_number.f x126000).bind fun t130=>(if t130 = true then ((cellarerref01_Key.f k x126001).bind fun t131=>(if t131 = true then (some (decide ((x126002.length : Int) ≤ 30))) else (some false))) else (some false)))
def cellarerref08_One.f (k : Nat) (a0_0 : Int) (a0_1 : ByteArray) (l0_2 : List (S40)) : Option (Bool):=cellarerref08_One.l0 k 0 a0_0 a0_1 l0_2
def cellarerref08_One.T4 : Bool × List (List Nat × List Nat):=(true,[([],[]),([0],[0]),([],[]),([1,2],[1,2]),([3],[3]),([4],[4]),([5],[5]),([6,5],[6]),([7],[7]),([8,7],[7,8]),([9,7,7],[7,9]),([10],[10]),([11,10],[10,11]),([10],[10]),([12,13,10],[10,12,13]),([14,10],[10,14]),([15,10],[10,15]),([10],[10]),([17,10],[10,17]),([10],[10]),([19,10],[10,19]),([18,20,10],[10,18,20]),([21,10],[10,21]),([22,10],[10,22]),([16,23,10],[10,16,23]),([10,24,7],[7,10,24]),([7,25],[7,25])])
def cellarerref08_One.B4 : List Nat:=[0,1,0,7,15,31,63,127,255,511,1023,2047,4095,2047,16383,32767,65535,2047,133119,2047,526335,1968127,4065279,8259583,16777215,33554431,67108863]
theorem cellarerref08_One.tab4 : rtab .any (opsOf Tryz.f113 4) = cellarerref08_One.T4:=by kernel_rfl
theorem cellarerref08_One.bits4 : waitsOk cellarerref08_One.T4.2 cellarerref08_One.B4 = true:=by kernel_rfl
set_option maxHeartbeats 8000000 in
set_option maxRecDepth 100000 in
theorem cellarerref08_One.calls (k : Nat) (a0_0 : Int) (a0_1 : ByteArray) (A0_2 : Option Addr) (c0_2 : Nat) (l0_2 : List (S40)) (r : Bool) (w : World) (hr0_2 : Kd.C k40 w A0_2 l0_2.length l0_2) (hc0_2 : l0_2.length ≤ c0_2) (h : cellarerref08_One.f k a0_0 a0_1 l0_2 = some r) :
  Calls Tryz.prog 113 #[.agg #[.int .u64 a0_0,.string a0_1,.slice A0_2 l0_2.length c0_2]] w fun e w'=>e = .returned (.bool r) ∧ Below w.heap.size w w':=by
 have hu101:=Tryz.underlying101
 have hu40:=Tryz.underlying40
 have HR0_2:=Aside0.mk hr0_2
 have HC0_2:=Aside0.mk hc0_2
 clear hr0_2 hc0_2
 have HB:=Aside0.mk (Below.refl w.heap.size w)
 have H : (cellarerref08_One.l0 k 0 a0_0 a0_1 l0_2) = some r:=h
 clear h
 have H':=Aside0.mk H
 clear H
 go_enter Tryz.func113,Tryz.ntmps113
 go_wp2_with (first | ((with_reducible refine gate_dst (N:=1) rfl ?_);(try (refine gate_guard (by rfl) ?_;dsimp only));refine zbx 1 #[.int .u64 a0_0,.string a0_1,.slice A0_2 l0_2.length c0_2] 101 ?_;intro gb125 hg w2 hbox hb;have n0_:=Aside0.mk (below_step zbe hb);have n1_:=Aside0.mk (hbox);have n2_:=Aside0.mk ((by rw [hg];exact (below_size zbe) : w.heap.size ≤ gb125));have n3_:=Aside0.mk ((by rw [hg];exact (below_size zbe) : w.heap.size ≤ gb125));clear HB;have HB:=n0_;have BK125:=n1_;have GW125:=n2_;have GE125:=n3_;clear n0_ n1_ n2_ n3_;clear hb hbox hg))
 go_loopg [3] k (fun kq v3 w'=>∃ (x3_1 : Int),v3 = .int .i64 x3_1 ∧ Aside0 (cellarerref08_One.l0 kq x3_1 a0_0 a0_1 l0_2 = some r) ∧ Aside0 (kq ≤ k) ∧ Aside0 (w'.heap[gb125]? = some (.cells #[.int .u64 a0_0,.string a0_1,(.slice A0_2 l0_2.length c0_2)] 101 (0,0))) ∧ Aside0 (Below w.heap.size w w'))
 case atStart=>exact ⟨(0),(by first | rfl | (simp;done) | (simp [*];done)),H',⟨Nat.le_refl _⟩,⟨by (with_reducible repeat (first | refine blk_drewN ?_ _ | refine blk_drew ?_ | refine blk_alloc ?_ _));exact BK125.out⟩,⟨by repeat (first | (with_reducible first | exact HB.out | apply below_alloc | apply pw_below_drewN | apply below_drew1 | refine below_set ?_ GE125.out) | exact HB.out)⟩⟩
 case round =>
  clear H'
  try clear c1
  try clear p2
  obtain ⟨x3_1,rfl,HA,HK1,BK125,HB⟩:=hrel
  cases gk with
  | zero=>exact absurd HA.out (by simp [cellarerref08_One.l0])
  | succ k1 =>
   have H:=HA.out
   clear HA
   simp only [cellarerref08_One.l0] at H
   by_cases c3 : x3_1 < (l0_2.length : Int)
   ·rw [if_pos c3] at H
    have c3b0 : decide (x3_1 < (l0_2.length : Int)) = true:=decide_eq_true c3
    clear c3
    by_cases c4 : 0 ≤ x3_1
    ·rw [if_pos c4] at H
     have c4b0 : decide (0 ≤ x3_1) = true:=decide_eq_true c4
     clear c4
     replace H:=Option.bind_eq_some_iff.mp H
     obtain ⟨t127,A50,H⟩:=H
     replace H : (if t127 = true then (if x3_1 > 0 then (if 0 ≤ (wrap64 (x3_1 - 1)) then (if (wrap64 (x3_1 - 1)) < (l0_2.length : Int) then (if ((rd_T40 l0_2 x3_1).f0) ≤ ((rd_T40 l0_2 (wrap64 (x3_1 - 1))).f0) then (some false) else (cellarerref08_One.l0 k1 (wrap64 (x3_1 + 1)) a0_0 a0_1 l0_2)) else (none)) else (none)) else (cellarerref08_One.l0 k1 (wrap64 (x3_1 + 1)) a0_0 a0_1 l0_2)) else (some false)) = some r:=H
     have A5:=Aside0.mk A50
     clear A50
     by_cases c6 : t127 = true
     ·subst c6
      have H1 : (if x3_1 > 0 then (if 0 ≤ (wrap64 (x3_1 - 1)) then (if (wrap64 (x3_1 - 1)) < (l0_2.length : Int) then (if ((rd_T40 l0_2 x3_1).f0) ≤ ((rd_T40 l0_2 (wrap64 (x3_1 - 1))).f0) then (some false) else (cellarerref08_One.l0 k1 (wrap64 (x3_1 + 1)) a0_0 a0_1 l0_2)) else (none)) else (none)) else (cellarerref08_One.l0 k1 (wrap64 (x3_1 + 1)) a0_0 a0_1 l0_2)) = some r:=by rw [if_pos rfl] at H;exact H
      clear H
      have H:=H1
      clear H1
      by_cases c7 : x3_1 > 0
      ·rw [if_pos c7] at H
       have c7b0 : decide (0 < x3_1) = true:=decide_eq_true c7
       clear c7
       obtain ⟨ji8,hji8⟩ : ∃ j_ : Int,(wrap64 (x3_1 - 1)) = j_:=⟨_,rfl⟩
       replace H : (if 0 ≤ (ji8) then (if (ji8) < (l0_2.length : Int) then (if ((rd_T40 l0_2 x3_1).f0) ≤ ((rd_T40 l0_2 (ji8)).f0) then (some false) else (cellarerref08_One.l0 k1 (wrap64 (x3_1 + 1)) a0_0 a0_1 l0_2)) else (none)) else (none)) = some r:=by first | (rw [hji8] at H;exact H) | (simp only [hji8] at H ⊢;exact H)
       (try rw [hji8] at A5)
       have hji8w : (IntKind.i64.wrap (x3_1 - 1)) = ji8:=(i64_w _).trans hji8
       by_cases c9 : 0 ≤ (ji8)
       ·rw [if_pos c9] at H
        have c9b0 : decide (0 ≤ (ji8)) = true:=decide_eq_true c9
        clear c9
        by_cases c10 : (ji8) < (l0_2.length : Int)
        ·rw [if_pos c10] at H
         have c10b0 : decide ((ji8) < (l0_2.length : Int)) = true:=decide_eq_true c10
         clear c10
         by_cases c11 : ((rd_T40 l0_2 x3_1).f0) ≤ ((rd_T40 l0_2 (ji8)).f0)
         ·rw [if_pos c11] at H
          have c11b0 : decide (((rd_T40 l0_2 x3_1).f0) ≤ ((rd_T40 l0_2 (ji8)).f0)) = true:=decide_eq_true c11
          clear c11
          obtain rfl:=Option.some.inj H
          have hcz12_0 : wr.cell? ⟨gb125,0,none⟩ = some (.int .u64 a0_0):=(blk_cell BK125.out 0).trans rfl
          have hcz12_1 : wr.cell? ⟨gb125,1,none⟩ = some (.string a0_1):=(blk_cell BK125.out 1).trans rfl
          have hcz12_2 : wr.cell? ⟨gb125,2,none⟩ = some (.slice A0_2 l0_2.length c0_2):=(blk_cell BK125.out 2).trans rfl
          have hfz12_0:=blk_frozen BK125.out 0
          have hfz12_1:=blk_frozen BK125.out 1
          have hfz12_2:=blk_frozen BK125.out 2
          try go_wp2
          have n0_:=Aside0.mk (blk_drew BK125.out)
          have n1_:=Aside0.mk (below_drew1 HB.out)
          clear BK125
          clear HB
          have BK125:=n0_
          have HB:=n1_
          clear n0_ n1_
          have p126 : 0 ≤ (x3_1 : Int):=of_decide_eq_true (by first | (with_reducible assumption) | assumption)
          have q126 : x3_1 < (l0_2.length : Int):=of_decide_eq_true (by first | (with_reducible assumption) | assumption)
          obtain ⟨ad126,e126,hx126_0,hx126_1⟩:=at_T40 HR0_2.out x3_1 p126 q126
          have hw126_1:=hx126_1
          have hw126_0:=hx126_0
          cases e126
          replace hx126_0:=zcl HB hx126_0
          replace hx126_1:=zcl HB hx126_1
          replace p126:=eq_true p126
          replace q126:=eq_true q126
          have p128 : 0 ≤ (x3_1 : Int):=of_decide_eq_true (by first | (with_reducible assumption) | assumption)
          have q128 : x3_1 < (l0_2.length : Int):=of_decide_eq_true (by first | (with_reducible assumption) | assumption)
          obtain ⟨ad128,e128,hx128_0,hx128_1⟩:=at_T40 HR0_2.out x3_1 p128 q128
          have hw128_1:=hx128_1
          have hw128_0:=hx128_0
          obtain rfl : ad126 = ad128:=(by injection e128)
          replace hx128_0:=zcl HB hx128_0
          replace hx128_1:=zcl HB hx128_1
          replace p128:=eq_true p128
          replace q128:=eq_true q128
          have p129 : 0 ≤ ((ji8) : Int):=of_decide_eq_true (by first | (with_reducible assumption) | assumption)
          have q129 : (ji8) < (l0_2.length : Int):=of_decide_eq_true (by first | (with_reducible assumption) | assumption)
          obtain ⟨ad129,e129,hx129_0,hx129_1⟩:=at_T40 HR0_2.out (ji8) p129 q129
          have hw129_1:=hx129_1
          have hw129_0:=hx129_0
          obtain rfl : ad126 = ad129:=(by injection e129)
          replace hx129_0:=zcl HB hx129_0
          replace hx129_1:=zcl HB hx129_1
          replace p129:=eq_true p129
          replace q129:=eq_true q129
          refine start_ (n:=27) (S:=fun w'=>w'.cell? ⟨gb125,0,none⟩ = some (.int .u64 a0_0) ∧ w'.cell? ⟨gb125,1,none⟩ = some (.string a0_1) ∧ w'.cell? ⟨gb125,2,none⟩ = some (.slice (some ad126) l0_2.length c0_2) ∧ w'.cell? (ad126.add ((x3_1).toNat * 2)) = some (.int .i64 ((rd_T40 l0_2 x3_1).f0)) ∧ w'.cell? ⟨(ad126.add ((x3_1).toNat * 2)).block,(ad126.add ((x3_1).toNat * 2)).off + 1,none⟩ = some (.string ((rd_T40 l0_2 x3_1).f1)) ∧ w'.cell? (ad126.add ((x3_1).toNat * 2)) = some (.int .i64 ((rd_T40 l0_2 x3_1).f0)) ∧ w'.cell? ⟨(ad126.add ((x3_1).toNat * 2)).block,(ad126.add ((x3_1).toNat * 2)).off + 1,none⟩ = some (.string ((rd_T40 l0_2 x3_1).f1)) ∧ w'.cell? (ad126.add (((ji8)).toNat * 2)) = some (.int .i64 ((rd_T40 l0_2 (ji8)).f0)) ∧ w'.cell? ⟨(ad126.add (((ji8)).toNat * 2)).block,(ad126.add (((ji8)).toNat * 2)).off + 1,none⟩ = some (.string ((rd_T40 l0_2 (ji8)).f1))) (ds:=[]) #[false,false,false,false,false,false,false,false,false,false,false,false,false,false,false,false,false,false,false,false,false,false,false,false,false,false,false] (by kernel_rfl) rfl rfl ⟨(blk_cell BK125.out 0).trans rfl,(blk_cell BK125.out 1).trans rfl,(blk_cell BK125.out 2).trans rfl,(zcl HB hw126_0),(zcl HB hw126_1),(zcl HB hw128_0),(zcl HB hw128_1),(zcl HB hw129_0),(zcl HB hw129_1)⟩ (fun hHeld=>?_);refine with_tabW cellarerref08_One.tab4 cellarerref08_One.bits4 (fun HT_ HW_=>?_)
          generalize wr.drew = w13 at BK125 HB hx126_0 hx126_1 hx128_0 hx128_1 hx129_0 hx129_1 hHeld ⊢
          refine zpu 0 (some 11) (zy 27 1) HT_ ?_
          refine zpu 2 (some 13) (zy 27 5) HT_ ?_
          refine ztk 1 (some 12) (zy 27 7) HT_ HW_ hHeld ?_
          refine zpu 3 (some 14) (zy 27 15) HT_ ?_
          refine ztk 4 (some 15) (zy 27 31) HT_ HW_ hHeld ?_
          refine one_ (i:=5) (N:=some 16) #[true,true,true,true,true,true,false,false,false,false,false,false,false,false,false,false,false,false,false,false,false,false,false,false,false,false,false] rfl rfl (one_of HT_.out (by kernel_rfl)) (by decide) (fun K hK=>?_)
          refine goes_ Tryz.func154 (by kernel_rfl) rfl #[.agg #[.int .i64 ((rd_T40 l0_2 x3_1).f0),.string ((rd_T40 l0_2 x3_1).f1)]] (by rfl) rfl rfl (by (try simp only [List.map_toArray,List.map_cons,List.map_nil]);first | done | rfl | (simp only [List.length_drop,List.length_take];rfl)) ?_
          with_reducible refine (cellarerref08_part.calls ((rd_T40 l0_2 x3_1).f0) ((rd_T40 l0_2 x3_1).f1) true _ A5.out).mono ?_
          rintro e w14 ⟨rfl,hb⟩
          refine ⟨_,rfl,?_⟩
          have n0_:=Aside0.mk (blk_below (g:=gb125) (o:=.cells #[.int .u64 a0_0,.string a0_1,.slice (some ad126) l0_2.length c0_2] 101 (0,0)) zbk hb)
          have n1_:=Aside0.mk (below_step zbe hb)
          clear BK125
          clear HB
          have BK125:=n0_
          have HB:=n1_
          clear n0_ n1_
          (try clear hb)
          (try clear hb2)
          (try clear hk)
          (try clear hi)
          refine hK.out _ _ ⟨(blk_cell BK125.out 0).trans rfl,(blk_cell BK125.out 1).trans rfl,(blk_cell BK125.out 2).trans rfl,(zcl HB hw126_0),(zcl HB hw126_1),(zcl HB hw128_0),(zcl HB hw128_1),(zcl HB hw129_0),(zcl HB hw129_1)⟩ (fun hHeld=>?_)
          clear hK K
          refine norm_ (a':=?_) ?_ ?_
          rotate_left
          ·show Act.put _ (some 16) _ = _
           simp only [Act.put,List.setIfInBounds_toArray,List.set_cons_zero,List.set_cons_succ,i64_w,i32_w]
           rfl
          refine zpu 6 (some 17) (zy 27 127) HT_ ?_
          refine zpu 7 (some 18) (zy 27 255) HT_ ?_
          refine zpu 8 (some 19) (zy 27 511) HT_ ?_
          refine zpu 9 (some 20) (zy 27 1023) HT_ ?_
          refine zpu 10 (some 21) (zy 27 2047) HT_ ?_
          refine zpu 11 (some 22) (zy 27 4095) HT_ ?_
          refine zpu 13 (some 24) (zy 27 12287) HT_ ?_
          refine zpu 17 (some 28) (zy 27 143359) HT_ ?_
          refine zpu 19 (some 30) (zy 27 667647) HT_ ?_
          refine zpu 20 (some 31) (zy 27 1716223) HT_ ?_
          refine ztk 12 (some 23) (zy 27 1720319) HT_ HW_ hHeld ?_
          refine zpu 14 (some 25) (zy 27 1736703) HT_ ?_
          refine zpu 15 (some 26) (zy 27 1769471) HT_ ?_
          refine ztk 16 (some 27) (zy 27 1835007) HT_ HW_ hHeld ?_
          refine ztk 18 (some 29) (zy 27 2097151) HT_ HW_ hHeld ?_
          refine zpu 21 (some 32) (zy 27 4194303) HT_ ?_
          refine zpu 22 (some 33) (zy 27 8388607) HT_ ?_
          refine ztk 23 (some 34) (zy 27 16777215) HT_ HW_ hHeld ?_
          refine zpu 24 (some 35) (zy 27 33554431) HT_ ?_
          refine zpu 25 (some 36) (zy 27 67108863) HT_ ?_
          refine zpu 26 (some 37) (zy 27 134217727) HT_ ?_
          refine done_ (done_of HT_.out (by kernel_rfl)) ?_
          try go_wp2
          go_ret
          exact ⟨by first | rfl | (simp [errW_none,errW_some] <;> rfl) | (simp only [← hji8];first | rfl | (simp [errW_none,errW_some] <;> rfl)) | (simp [*,errW_none,errW_some] <;> rfl),by repeat (first | (with_reducible first | exact HB.out | apply below_alloc | apply pw_below_drewN | apply below_drew1 | refine below_set ?_ GE125.out) | exact HB.out)⟩
         ·rw [if_neg c11] at H
          have c11b0 : decide (((rd_T40 l0_2 x3_1).f0) ≤ ((rd_T40 l0_2 (ji8)).f0)) = false:=decide_eq_false c11
          clear c11
          have H':=Aside0.mk H
          clear H
          have hcz15_0 : wr.cell? ⟨gb125,0,none⟩ = some (.int .u64 a0_0):=(blk_cell BK125.out 0).trans rfl
          have hcz15_1 : wr.cell? ⟨gb125,1,none⟩ = some (.string a0_1):=(blk_cell BK125.out 1).trans rfl
          have hcz15_2 : wr.cell? ⟨gb125,2,none⟩ = some (.slice A0_2 l0_2.length c0_2):=(blk_cell BK125.out 2).trans rfl
          have hfz15_0:=blk_frozen BK125.out 0
          have hfz15_1:=blk_frozen BK125.out 1
          have hfz15_2:=blk_frozen BK125.out 2
          try go_wp2
          have n0_:=Aside0.mk (blk_drew BK125.out)
          have n1_:=Aside0.mk (below_drew1 HB.out)
          clear BK125
          clear HB
          have BK125:=n0_
          have HB:=n1_
          clear n0_ n1_
          have p126 : 0 ≤ (x3_1 : Int):=of_decide_eq_true (by first | (with_reducible assumption) | assumption)
          have q126 : x3_1 < (l0_2.length : Int):=of_decide_eq_true (by first | (with_reducible assumption) | assumption)
          obtain ⟨ad126,e126,hx126_0,hx126_1⟩:=at_T40 HR0_2.out x3_1 p126 q126
          have hw126_1:=hx126_1
          have hw126_0:=hx126_0
          cases e126
          replace hx126_0:=zcl HB hx126_0
          replace hx126_1:=zcl HB hx126_1
          replace p126:=eq_true p126
          replace q126:=eq_true q126
          have p128 : 0 ≤ (x3_1 : Int):=of_decide_eq_true (by first | (with_reducible assumption) | assumption)
          have q128 : x3_1 < (l0_2.length : Int):=of_decide_eq_true (by first | (with_reducible assumption) | assumption)
          obtain ⟨ad128,e128,hx128_0,hx128_1⟩:=at_T40 HR0_2.out x3_1 p128 q128
          have hw128_1:=hx128_1
          have hw128_0:=hx128_0
          obtain rfl : ad126 = ad128:=(by injection e128)
          replace hx128_0:=zcl HB hx128_0
          replace hx128_1:=zcl HB hx128_1
          replace p128:=eq_true p128
          replace q128:=eq_true q128
          have p129 : 0 ≤ ((ji8) : Int):=of_decide_eq_true (by first | (with_reducible assumption) | assumption)
          have q129 : (ji8) < (l0_2.length : Int):=of_decide_eq_true (by first | (with_reducible assumption) | assumption)
          obtain ⟨ad129,e129,hx129_0,hx129_1⟩:=at_T40 HR0_2.out (ji8) p129 q129
          have hw129_1:=hx129_1
          have hw129_0:=hx129_0
          obtain rfl : ad126 = ad129:=(by injection e129)
          replace hx129_0:=zcl HB hx129_0
          replace hx129_1:=zcl HB hx129_1
          replace p129:=eq_true p129
          replace q129:=eq_true q129
          refine start_ (n:=27) (S:=fun w'=>w'.cell? ⟨gb125,0,none⟩ = some (.int .u64 a0_0) ∧ w'.cell? ⟨gb125,1,none⟩ = some (.string a0_1) ∧ w'.cell? ⟨gb125,2,none⟩ = some (.slice (some ad126) l0_2.length c0_2) ∧ w'.cell? (ad126.add ((x3_1).toNat * 2)) = some (.int .i64 ((rd_T40 l0_2 x3_1).f0)) ∧ w'.cell? ⟨(ad126.add ((x3_1).toNat * 2)).block,(ad126.add ((x3_1).toNat * 2)).off + 1,none⟩ = some (.string ((rd_T40 l0_2 x3_1).f1)) ∧ w'.cell? (ad126.add ((x3_1).toNat * 2)) = some (.int .i64 ((rd_T40 l0_2 x3_1).f0)) ∧ w'.cell? ⟨(ad126.add ((x3_1).toNat * 2)).block,(ad126.add ((x3_1).toNat * 2)).off + 1,none⟩ = some (.string ((rd_T40 l0_2 x3_1).f1)) ∧ w'.cell? (ad126.add (((ji8)).toNat * 2)) = some (.int .i64 ((rd_T40 l0_2 (ji8)).f0)) ∧ w'.cell? ⟨(ad126.add (((ji8)).toNat * 2)).block,(ad126.add (((ji8)).toNat * 2)).off + 1,none⟩ = some (.string ((rd_T40 l0_2 (ji8)).f1))) (ds:=[]) #[false,false,false,false,false,false,false,false,false,false,false,false,false,false,false,false,false,false,false,false,false,false,false,false,false,false,false] (by kernel_rfl) rfl rfl ⟨(blk_cell BK125.out 0).trans rfl,(blk_cell BK125.out 1).trans rfl,(blk_cell BK125.out 2).trans rfl,(zcl HB hw126_0),(zcl HB hw126_1),(zcl HB hw128_0),(zcl HB hw128_1),(zcl HB hw129_0),(zcl HB hw129_1)⟩ (fun hHeld=>?_);refine with_tabW cellarerref08_One.tab4 cellarerref08_One.bits4 (fun HT_ HW_=>?_)
          generalize wr.drew = w16 at BK125 HB hx126_0 hx126_1 hx128_0 hx128_1 hx129_0 hx129_1 hHeld ⊢
          refine zpu 0 (some 11) (zy 27 1) HT_ ?_
          refine zpu 2 (some 13) (zy 27 5) HT_ ?_
          refine ztk 1 (some 12) (zy 27 7) HT_ HW_ hHeld ?_
          refine zpu 3 (some 14) (zy 27 15) HT_ ?_
          refine ztk 4 (some 15) (zy 27 31) HT_ HW_ hHeld ?_
          refine one_ (i:=5) (N:=some 16) #[true,true,true,true,true,true,false,false,false,false,false,false,false,false,false,false,false,false,false,false,false,false,false,false,false,false,false] rfl rfl (one_of HT_.out (by kernel_rfl)) (by decide) (fun K hK=>?_)
          refine goes_ Tryz.func154 (by kernel_rfl) rfl #[.agg #[.int .i64 ((rd_T40 l0_2 x3_1).f0),.string ((rd_T40 l0_2 x3_1).f1)]] (by rfl) rfl rfl (by (try simp only [List.map_toArray,List.map_cons,List.map_nil]);first | done | rfl | (simp only [List.length_drop,List.length_take];rfl)) ?_
          with_reducible refine (cellarerref08_part.calls ((rd_T40 l0_2 x3_1).f0) ((rd_T40 l0_2 x3_1).f1) true _ A5.out).mono ?_
          rintro e w17 ⟨rfl,hb⟩
          refine ⟨_,rfl,?_⟩
          have n0_:=Aside0.mk (blk_below (g:=gb125) (o:=.cells #[.int .u64 a0_0,.string a0_1,.slice (some ad126) l0_2.length c0_2] 101 (0,0)) zbk hb)
          have n1_:=Aside0.mk (below_step zbe hb)
          clear BK125
          clear HB
          have BK125:=n0_
          have HB:=n1_
          clear n0_ n1_
          (try clear hb)
          (try clear hb2)
          (try clear hk)
          (try clear hi)
          refine hK.out _ _ ⟨(blk_cell BK125.out 0).trans rfl,(blk_cell BK125.out 1).trans rfl,(blk_cell BK125.out 2).trans rfl,(zcl HB hw126_0),(zcl HB hw126_1),(zcl HB hw128_0),(zcl HB hw128_1),(zcl HB hw129_0),(zcl HB hw129_1)⟩ (fun hHeld=>?_)
          clear hK K
          refine norm_ (a':=?_) ?_ ?_
          rotate_left
          ·show Act.put _ (some 16) _ = _
           simp only [Act.put,List.setIfInBounds_toArray,List.set_cons_zero,List.set_cons_succ,i64_w,i32_w]
           rfl
          refine zpu 6 (some 17) (zy 27 127) HT_ ?_
          refine zpu 7 (some 18) (zy 27 255) HT_ ?_
          refine zpu 8 (some 19) (zy 27 511) HT_ ?_
          refine zpu 9 (some 20) (zy 27 1023) HT_ ?_
          refine zpu 10 (some 21) (zy 27 2047) HT_ ?_
          refine zpu 11 (some 22) (zy 27 4095) HT_ ?_
          refine zpu 13 (some 24) (zy 27 12287) HT_ ?_
          refine zpu 17 (some 28) (zy 27 143359) HT_ ?_
          refine zpu 19 (some 30) (zy 27 667647) HT_ ?_
          refine zpu 20 (some 31) (zy 27 1716223) HT_ ?_
          refine ztk 12 (some 23) (zy 27 1720319) HT_ HW_ hHeld ?_
          refine zpu 14 (some 25) (zy 27 1736703) HT_ ?_
          refine zpu 15 (some 26) (zy 27 1769471) HT_ ?_
          refine ztk 16 (some 27) (zy 27 1835007) HT_ HW_ hHeld ?_
          refine ztk 18 (some 29) (zy 27 2097151) HT_ HW_ hHeld ?_
          refine zpu 21 (some 32) (zy 27 4194303) HT_ ?_
          refine zpu 22 (some 33) (zy 27 8388607) HT_ ?_
          refine ztk 23 (some 34) (zy 27 16777215) HT_ HW_ hHeld ?_
          refine zpu 24 (some 35) (zy 27 33554431) HT_ ?_
          refine zpu 25 (some 36) (zy 27 67108863) HT_ ?_
          refine zpu 26 (some 37) (zy 27 134217727) HT_ ?_
          refine done_ (done_of HT_.out (by kernel_rfl)) ?_
          try go_wp2
          go_roundg k1
          case measure=>have:=HK1.out;omega
          case rel=>exact ⟨(wrap64 (x3_1 + 1)),(by first | rfl | (simp;done) | (simp [*];done)),H',⟨by have:=HK1.out;omega⟩,⟨by (with_reducible repeat (first | refine blk_drewN ?_ _ | refine blk_drew ?_ | refine blk_alloc ?_ _));exact BK125.out⟩,⟨by repeat (first | (with_reducible first | exact HB.out | apply below_alloc | apply pw_below_drewN | apply below_drew1 | refine below_set ?_ GE125.out) | exact HB.out)⟩⟩
        ·rw [if_neg c10] at H
         exact absurd H (by simp)
       ·rw [if_neg c9] at H
        exact absurd H (by simp)
      ·rw [if_neg c7] at H
       have c7b0 : decide (0 < x3_1) = false:=decide_eq_false c7
       clear c7
       have H':=Aside0.mk H
       clear H
       have hcz18_0 : wr.cell? ⟨gb125,0,none⟩ = some (.int .u64 a0_0):=(blk_cell BK125.out 0).trans rfl
       have hcz18_1 : wr.cell? ⟨gb125,1,none⟩ = some (.string a0_1):=(blk_cell BK125.out 1).trans rfl
       have hcz18_2 : wr.cell? ⟨gb125,2,none⟩ = some (.slice A0_2 l0_2.length c0_2):=(blk_cell BK125.out 2).trans rfl
       have hfz18_0:=blk_frozen BK125.out 0
       have hfz18_1:=blk_frozen BK125.out 1
       have hfz18_2:=blk_frozen BK125.out 2
       try go_wp2
       have n0_:=Aside0.mk (blk_drew BK125.out)
       have n1_:=Aside0.mk (below_drew1 HB.out)
       clear BK125
       clear HB
       have BK125:=n0_
       have HB:=n1_
       clear n0_ n1_
       have p126 : 0 ≤ (x3_1 : Int):=of_decide_eq_true (by first | (with_reducible assumption) | assumption)
       have q126 : x3_1 < (l0_2.length : Int):=of_decide_eq_true (by first | (with_reducible assumption) | assumption)
       obtain ⟨ad126,e126,hx126_0,hx126_1⟩:=at_T40 HR0_2.out x3_1 p126 q126
       have hw126_1:=hx126_1
       have hw126_0:=hx126_0
       cases e126
       replace hx126_0:=zcl HB hx126_0
       replace hx126_1:=zcl HB hx126_1
       replace p126:=eq_true p126
       replace q126:=eq_true q126
       refine start_ (n:=27) (S:=fun w'=>w'.cell? ⟨gb125,0,none⟩ = some (.int .u64 a0_0) ∧ w'.cell? ⟨gb125,1,none⟩ = some (.string a0_1) ∧ w'.cell? ⟨gb125,2,none⟩ = some (.slice (some ad126) l0_2.length c0_2) ∧ w'.cell? (ad126.add ((x3_1).toNat * 2)) = some (.int .i64 ((rd_T40 l0_2 x3_1).f0)) ∧ w'.cell? ⟨(ad126.add ((x3_1).toNat * 2)).block,(ad126.add ((x3_1).toNat * 2)).off + 1,none⟩ = some (.string ((rd_T40 l0_2 x3_1).f1))) (ds:=[]) #[false,false,false,false,false,false,false,false,false,false,false,false,false,false,false,false,false,false,false,false,false,false,false,false,false,false,false] (by kernel_rfl) rfl rfl ⟨(blk_cell BK125.out 0).trans rfl,(blk_cell BK125.out 1).trans rfl,(blk_cell BK125.out 2).trans rfl,(zcl HB hw126_0),(zcl HB hw126_1)⟩ (fun hHeld=>?_);refine with_tabW cellarerref08_One.tab4 cellarerref08_One.bits4 (fun HT_ HW_=>?_)
       generalize wr.drew = w19 at BK125 HB hx126_0 hx126_1 hHeld ⊢
       refine zpu 0 (some 11) (zy 27 1) HT_ ?_
       refine zpu 2 (some 13) (zy 27 5) HT_ ?_
       refine ztk 1 (some 12) (zy 27 7) HT_ HW_ hHeld ?_
       refine zpu 3 (some 14) (zy 27 15) HT_ ?_
       refine ztk 4 (some 15) (zy 27 31) HT_ HW_ hHeld ?_
       refine one_ (i:=5) (N:=some 16) #[true,true,true,true,true,true,false,false,false,false,false,false,false,false,false,false,false,false,false,false,false,false,false,false,false,false,false] rfl rfl (one_of HT_.out (by kernel_rfl)) (by decide) (fun K hK=>?_)
       refine goes_ Tryz.func154 (by kernel_rfl) rfl #[.agg #[.int .i64 ((rd_T40 l0_2 x3_1).f0),.string ((rd_T40 l0_2 x3_1).f1)]] (by rfl) rfl rfl (by (try simp only [List.map_toArray,List.map_cons,List.map_nil]);first | done | rfl | (simp only [List.length_drop,List.length_take];rfl)) ?_
       with_reducible refine (cellarerref08_part.calls ((rd_T40 l0_2 x3_1).f0) ((rd_T40 l0_2 x3_1).f1) true _ A5.out).mono ?_
       rintro e w20 ⟨rfl,hb⟩
       refine ⟨_,rfl,?_⟩
       have n0_:=Aside0.mk (blk_below (g:=gb125) (o:=.cells #[.int .u64 a0_0,.string a0_1,.slice (some ad126) l0_2.length c0_2] 101 (0,0)) zbk hb)
       have n1_:=Aside0.mk (below_step zbe hb)
       clear BK125
       clear HB
       have BK125:=n0_
       have HB:=n1_
       clear n0_ n1_
       (try clear hb)
       (try clear hb2)
       (try clear hk)
       (try clear hi)
       refine hK.out _ _ ⟨(blk_cell BK125.out 0).trans rfl,(blk_cell BK125.out 1).trans rfl,(blk_cell BK125.out 2).trans rfl,(zcl HB hw126_0),(zcl HB hw126_1)⟩ (fun hHeld=>?_)
       clear hK K
       refine norm_ (a':=?_) ?_ ?_
       rotate_left
       ·show Act.put _ (some 16) _ = _
        simp only [Act.put,List.setIfInBounds_toArray,List.set_cons_zero,List.set_cons_succ,i64_w,i32_w]
        rfl
       refine zpu 6 (some 17) (zy 27 127) HT_ ?_
       refine zpu 7 (some 18) (zy 27 255) HT_ ?_
       refine zpu 8 (some 19) (zy 27 511) HT_ ?_
       refine zpu 9 (some 20) (zy 27 1023) HT_ ?_
       refine zpu 10 (some 21) (zy 27 2047) HT_ ?_
       refine zun 11 (some 22) (zy 27 4095) HT_ ?_
       refine zun 12 (some 23) (zy 27 8191) HT_ ?_
       refine zun 13 (some 24) (zy 27 16383) HT_ ?_
       refine zun 14 (some 25) (zy 27 32767) HT_ ?_
       refine zun 15 (some 26) (zy 27 65535) HT_ ?_
       refine zun 16 (some 27) (zy 27 131071) HT_ ?_
       refine zun 17 (some 28) (zy 27 262143) HT_ ?_
       refine zun 18 (some 29) (zy 27 524287) HT_ ?_
       refine zun 19 (some 30) (zy 27 1048575) HT_ ?_
       refine zun 20 (some 31) (zy 27 2097151) HT_ ?_
       refine zun 21 (some 32) (zy 27 4194303) HT_ ?_
       refine zun 22 (some 33) (zy 27 8388607) HT_ ?_
       refine zun 23 (some 34) (zy 27 16777215) HT_ ?_
       refine zun 24 (some 35) (zy 27 33554431) HT_ ?_
       refine zpu 25 (some 36) (zy 27 67108863) HT_ ?_
       refine zpu 26 (some 37) (zy 27 134217727) HT_ ?_
       refine done_ (done_of HT_.out (by kernel_rfl)) ?_
       try go_wp2
       go_roundg k1
       case measure=>have:=HK1.out;omega
       case rel=>exact ⟨(wrap64 (x3_1 + 1)),(by first | rfl | (simp;done) | (simp [*];done)),H',⟨by have:=HK1.out;omega⟩,⟨by (with_reducible repeat (first | refine blk_drewN ?_ _ | refine blk_drew ?_ | refine blk_alloc ?_ _));exact BK125.out⟩,⟨by repeat (first | (with_reducible first | exact HB.out | apply below_alloc | apply pw_below_drewN | apply below_drew1 | refine below_set ?_ GE125.out) | exact HB.out)⟩⟩
     ·replace c6:=Bool.eq_false_iff.mpr c6
      subst c6
      have H1 : (some false) = some r:=by rw [if_neg (show ¬ (false = true) by decide)] at H;exact H
      clear H
      have H:=H1
      clear H1
      obtain rfl:=Option.some.inj H
      have hcz21_0 : wr.cell? ⟨gb125,0,none⟩ = some (.int .u64 a0_0):=(blk_cell BK125.out 0).trans rfl
      have hcz21_1 : wr.cell? ⟨gb125,1,none⟩ = some (.string a0_1):=(blk_cell BK125.out 1).trans rfl
      have hcz21_2 : wr.cell? ⟨gb125,2,none⟩ = some (.slice A0_2 l0_2.length c0_2):=(blk_cell BK125.out 2).trans rfl
      have hfz21_0:=blk_frozen BK125.out 0
      have hfz21_1:=blk_frozen BK125.out 1
      have hfz21_2:=blk_frozen BK125.out 2
      try go_wp2
      have n0_:=Aside0.mk (blk_drew BK125.out)
      have n1_:=Aside0.mk (below_drew1 HB.out)
      clear BK125
      clear HB
      have BK125:=n0_
      have HB:=n1_
      clear n0_ n1_
      have p126 : 0 ≤ (x3_1 : Int):=of_decide_eq_true (by first | (with_reducible assumption) | assumption)
      have q126 : x3_1 < (l0_2.length : Int):=of_decide_eq_true (by first | (with_reducible assumption) | assumption)
      obtain ⟨ad126,e126,hx126_0,hx126_1⟩:=at_T40 HR0_2.out x3_1 p126 q126
      have hw126_1:=hx126_1
      have hw126_0:=hx126_0
      cases e126
      replace hx126_0:=zcl HB hx126_0
      replace hx126_1:=zcl HB hx126_1
      replace p126:=eq_true p126
      replace q126:=eq_true q126
      refine start_ (n:=27) (S:=fun w'=>w'.cell? ⟨gb125,0,none⟩ = some (.int .u64 a0_0) ∧ w'.cell? ⟨gb125,1,none⟩ = some (.string a0_1) ∧ w'.cell? ⟨gb125,2,none⟩ = some (.slice (some ad126) l0_2.length c0_2) ∧ w'.cell? (ad126.add ((x3_1).toNat * 2)) = some (.int .i64 ((rd_T40 l0_2 x3_1).f0)) ∧ w'.cell? ⟨(ad126.add ((x3_1).toNat * 2)).block,(ad126.add ((x3_1).toNat * 2)).off + 1,none⟩ = some (.string ((rd_T40 l0_2 x3_1).f1))) (ds:=[]) #[false,false,false,false,false,false,false,false,false,false,false,false,false,false,false,false,false,false,false,false,false,false,false,false,false,false,false] (by kernel_rfl) rfl rfl ⟨(blk_cell BK125.out 0).trans rfl,(blk_cell BK125.out 1).trans rfl,(blk_cell BK125.out 2).trans rfl,(zcl HB hw126_0),(zcl HB hw126_1)⟩ (fun hHeld=>?_);refine with_tabW cellarerref08_One.tab4 cellarerref08_One.bits4 (fun HT_ HW_=>?_)
      generalize wr.drew = w22 at BK125 HB hx126_0 hx126_1 hHeld ⊢
      refine zpu 0 (some 11) (zy 27 1) HT_ ?_
      refine zpu 2 (some 13) (zy 27 5) HT_ ?_
      refine ztk 1 (some 12) (zy 27 7) HT_ HW_ hHeld ?_
      refine zpu 3 (some 14) (zy 27 15) HT_ ?_
      refine ztk 4 (some 15) (zy 27 31) HT_ HW_ hHeld ?_
      refine one_ (i:=5) (N:=some 16) #[true,true,true,true,true,true,false,false,false,false,false,false,false,false,false,false,false,false,false,false,false,false,false,false,false,false,false] rfl rfl (one_of HT_.out (by kernel_rfl)) (by decide) (fun K hK=>?_)
      refine goes_ Tryz.func154 (by kernel_rfl) rfl #[.agg #[.int .i64 ((rd_T40 l0_2 x3_1).f0),.string ((rd_T40 l0_2 x3_1).f1)]] (by rfl) rfl rfl (by (try simp only [List.map_toArray,List.map_cons,List.map_nil]);first | done | rfl | (simp only [List.length_drop,List.length_take];rfl)) ?_
      with_reducible refine (cellarerref08_part.calls ((rd_T40 l0_2 x3_1).f0) ((rd_T40 l0_2 x3_1).f1) false _ A5.out).mono ?_
      rintro e w23 ⟨rfl,hb⟩
      refine ⟨_,rfl,?_⟩
      have n0_:=Aside0.mk (blk_below (g:=gb125) (o:=.cells #[.int .u64 a0_0,.string a0_1,.slice (some ad126) l0_2.length c0_2] 101 (0,0)) zbk hb)
      have n1_:=Aside0.mk (below_step zbe hb)
      clear BK125
      clear HB
      have BK125:=n0_
      have HB:=n1_
      clear n0_ n1_
      (try clear hb)
      (try clear hb2)
      (try clear hk)
      (try clear hi)
      refine hK.out _ _ ⟨(blk_cell BK125.out 0).trans rfl,(blk_cell BK125.out 1).trans rfl,(blk_cell BK125.out 2).trans rfl,(zcl HB hw126_0),(zcl HB hw126_1)⟩ (fun hHeld=>?_)
      clear hK K
      refine norm_ (a':=?_) ?_ ?_
      rotate_left
      ·show Act.put _ (some 16) _ = _
       simp only [Act.put,List.setIfInBounds_toArray,List.set_cons_zero,List.set_cons_succ,i64_w,i32_w]
       rfl
      refine zpu 6 (some 17) (zy 27 127) HT_ ?_
      refine zpu 7 (some 18) (zy 27 255) HT_ ?_
      refine zun 8 (some 19) (zy 27 511) HT_ ?_
      refine zun 9 (some 20) (zy 27 1023) HT_ ?_
      refine zun 10 (some 21) (zy 27 2047) HT_ ?_
      refine zun 11 (some 22) (zy 27 4095) HT_ ?_
      refine zun 12 (some 23) (zy 27 8191) HT_ ?_
      refine zun 13 (some 24) (zy 27 16383) HT_ ?_
      refine zun 14 (some 25) (zy 27 32767) HT_ ?_
      refine zun 15 (some 26) (zy 27 65535) HT_ ?_
      refine zun 16 (some 27) (zy 27 131071) HT_ ?_
      refine zun 17 (some 28) (zy 27 262143) HT_ ?_
      refine zun 18 (some 29) (zy 27 524287) HT_ ?_
      refine zun 19 (some 30) (zy 27 1048575) HT_ ?_
      refine zun 20 (some 31) (zy 27 2097151) HT_ ?_
      refine zun 21 (some 32) (zy 27 4194303) HT_ ?_
      refine zun 22 (some 33) (zy 27 8388607) HT_ ?_
      refine zun 23 (some 34) (zy 27 16777215) HT_ ?_
      refine zun 24 (some 35) (zy 27 33554431) HT_ ?_
      refine zun 25 (some 36) (zy 27 67108863) HT_ ?_
      refine zpu 26 (some 37) (zy 27 134217727) HT_ ?_
      refine done_ (done_of HT_.out (by kernel_rfl)) ?_
      try go_wp2
      go_ret
      exact ⟨by first | rfl | (simp [errW_none,errW_some] <;> rfl) | (simp [*,errW_none,errW_some] <;> rfl),by repeat (first | (with_reducible first | exact HB.out | apply below_alloc | apply pw_below_drewN | apply below_drew1 | refine below_set ?_ GE125.out) | exact HB.out)⟩
    ·rw [if_neg c4] at H
     exact absurd H (by simp)
   ·rw [if_neg c3] at H
    have c3b0 : decide (x3_1 < (l0_2.length : Int)) = false:=decide_eq_false c3
    clear c3
    replace H:=Option.bind_eq_some_iff.mp H
    obtain ⟨t130,A240,H⟩:=H
    replace H : (if t130 = true then ((cellarerref01_Key.f k1 a0_1).bind fun t131=>(if t131 = true then (some (decide ((l0_2.length : Int) ≤ 30))) else (some false))) else (some false)) = some r:=H
    have A24:=Aside0.mk A240
    clear A240
    by_cases c25 : t130 = true
    ·subst c25
     have H1 : ((cellarerref01_Key.f k1 a0_1).bind fun t131=>(if t131 = true then (some (decide ((l0_2.length : Int) ≤ 30))) else (some false))) = some r:=by rw [if_pos rfl] at H;exact H
     clear H
     have H:=H1
     clear H1
     replace H:=Option.bind_eq_some_iff.mp H
     obtain ⟨t131,A260,H⟩:=H
     replace H : (if t131 = true then (some (decide ((l0_2.length : Int) ≤ 30))) else (some false)) = some r:=H
     have A26:=Aside0.mk A260
     clear A260
     by_cases c27 : t131 = true
     ·subst c27
      have H1 : (some (decide ((l0_2.length : Int) ≤ 30))) = some r:=by rw [if_pos rfl] at H;exact H
      clear H
      have H:=H1
      clear H1
      obtain rfl:=Option.some.inj H
      have hcz28_0 : wr.cell? ⟨gb125,0,none⟩ = some (.int .u64 a0_0):=(blk_cell BK125.out 0).trans rfl
      have hcz28_1 : wr.cell? ⟨gb125,1,none⟩ = some (.string a0_1):=(blk_cell BK125.out 1).trans rfl
      have hcz28_2 : wr.cell? ⟨gb125,2,none⟩ = some (.slice A0_2 l0_2.length c0_2):=(blk_cell BK125.out 2).trans rfl
      have hfz28_0:=blk_frozen BK125.out 0
      have hfz28_1:=blk_frozen BK125.out 1
      have hfz28_2:=blk_frozen BK125.out 2
      go_wp2_with (first | ((with_reducible refine gate_callee (f:=155) rfl ?_);refine goesL_ (some 40) rfl rfl Tryz.func155 (by kernel_rfl) rfl #[.int .u64 a0_0] rfl (by (try simp only [List.map_toArray,List.map_cons,List.map_nil]);first | done | rfl | (simp only [List.length_drop,List.length_take];rfl)) ?_;(with_reducible refine (cellarerref08_number.calls a0_0 true _ A24.out).mono ?_);rintro e w' ⟨rfl,⟨nd,rfl⟩⟩;refine ⟨_,rfl,?_⟩) | (go_at_call 111;(with_reducible refine (cellarerref01_Key.calls k1 a0_1 true _ A26.out).mono ?_);rintro e w' ⟨rfl,⟨nd,rfl⟩⟩))
      go_ret
      exact ⟨by first | rfl | (simp [errW_none,errW_some] <;> rfl) | (simp [*,errW_none,errW_some] <;> rfl),by repeat (first | (with_reducible first | exact HB.out | apply below_alloc | apply pw_below_drewN | apply below_drew1 | refine below_set ?_ GE125.out) | exact HB.out)⟩
     ·replace c27:=Bool.eq_false_iff.mpr c27
      subst c27
      have H1 : (some false) = some r:=by rw [if_neg (show ¬ (false = true) by decide)] at H;exact H
      clear H
      have H:=H1
      clear H1
      obtain rfl:=Option.some.inj H
      have hcz29_0 : wr.cell? ⟨gb125,0,none⟩ = some (.int .u64 a0_0):=(blk_cell BK125.out 0).trans rfl
      have hcz29_1 : wr.cell? ⟨gb125,1,none⟩ = some (.string a0_1):=(blk_cell BK125.out 1).trans rfl
      have hcz29_2 : wr.cell? ⟨gb125,2,none⟩ = some (.slice A0_2 l0_2.length c0_2):=(blk_cell BK125.out 2).trans rfl
      have hfz29_0:=blk_frozen BK125.out 0
      have hfz29_1:=blk_frozen BK125.out 1
      have hfz29_2:=blk_frozen BK125.out 2
      go_wp2_with (first | ((with_reducible refine gate_callee (f:=155) rfl ?_);refine goesL_ (some 40) rfl rfl Tryz.func155 (by kernel_rfl) rfl #[.int .u64 a0_0] rfl (by (try simp only [List.map_toArray,List.map_cons,List.map_nil]);first | done | rfl | (simp only [List.length_drop,List.length_take];rfl)) ?_;(with_reducible refine (cellarerref08_number.calls a0_0 true _ A24.out).mono ?_);rintro e w' ⟨rfl,⟨nd,rfl⟩⟩;refine ⟨_,rfl,?_⟩) | (go_at_call 111;(with_reducible refine (cellarerref01_Key.calls k1 a0_1 false _ A26.out).mono ?_);rintro e w' ⟨rfl,⟨nd,rfl⟩⟩))
      go_ret
      exact ⟨by first | rfl | (simp [errW_none,errW_some] <;> rfl) | (simp [*,errW_none,errW_some] <;> rfl),by repeat (first | (with_reducible first | exact HB.out | apply below_alloc | apply pw_below_drewN | apply below_drew1 | refine below_set ?_ GE125.out) | exact HB.out)⟩
    ·replace c25:=Bool.eq_false_iff.mpr c25
     subst c25
     have H1 : (some false) = some r:=by rw [if_neg (show ¬ (false = true) by decide)] at H;exact H
     clear H
     have H:=H1
     clear H1
     obtain rfl:=Option.some.inj H
     have hcz30_0 : wr.cell? ⟨gb125,0,none⟩ = some (.int .u64 a0_0):=(blk_cell BK125.out 0).trans rfl
     have hcz30_1 : wr.cell? ⟨gb125,1,none⟩ = some (.string a0_1):=(blk_cell BK125.out 1).trans rfl
     have hcz30_2 : wr.cell? ⟨gb125,2,none⟩ = some (.slice A0_2 l0_2.length c0_2):=(blk_cell BK125.out 2).trans rfl
     have hfz30_0:=blk_frozen BK125.out 0
     have hfz30_1:=blk_frozen BK125.out 1
     have hfz30_2:=blk_frozen BK125.out 2
     go_wp2_with (first | ((with_reducible refine gate_callee (f:=155) rfl ?_);refine goesL_ (some 40) rfl rfl Tryz.func155 (by kernel_rfl) rfl #[.int .u64 a0_0] rfl (by (try simp only [List.map_toArray,List.map_cons,List.map_nil]);first | done | rfl | (simp only [List.length_drop,List.length_take];rfl)) ?_;(with_reducible refine (cellarerref08_number.calls a0_0 false _ A24.out).mono ?_);rintro e w' ⟨rfl,⟨nd,rfl⟩⟩;refine ⟨_,rfl,?_⟩))
     go_ret
     exact ⟨by first | rfl | (simp [errW_none,errW_some] <;> rfl) | (simp [*,errW_none,errW_some] <;> rfl),by repeat (first | (with_reducible first | exact HB.out | apply below_alloc | apply pw_below_drewN | apply below_drew1 | refine below_set ?_ GE125.out) | exact HB.out)⟩

end Go.Proofs.YtekooapbdgippaaGreatDoor.Q
namespace Go.Proofs.YtekooapbdgippaaGreatDoor.Q
open Go.RowKit Go.Proofs.YtekooapbdgippaaGreatDoorW.PrintWords Go.Proofs.YtekooapbdgippaaGreatDoorW.PrintLast Go.Proofs.YtekooapbdgippaaGreatDoorW.PrintMore
attribute [local go_sem] max2_int min2_int max_two min_two max_three min_three max_four min_four
set_option linter.unusedVariables false
set_option linter.unusedSimpArgs false

/-! ### cellarerref08_May: function 57 -/
def cellarerref08_May.l0 : Nat → List (S101) → Int → Option (Bool)
 | 0,_,_=>none
 | k + 1,x0,x3=>if x3 < (x0.length : Int) then (if 0 ≤ x3 then ((cellarerref08_One.f k ((rd_T101 x0 x3).f0) ((rd_T101 x0 x3).f1) ((rd_T101 x0 x3).f2)).bind fun t133=>(if t133 = true then (if x3 > 0 then (if 0 ≤ (wrap64 (x3 - 1)) then (if (wrap64 (x3 - 1)) < (x0.length : Int) then (if ((rd_T101 x0 x3).f0) ≤ ((rd_T101 x0 (wrap64 (x3 - 1))).f0) then (some false) else (cellarerref08_May.l0 k x0 (wrap64 (x3 + 1)))) else (none)) else (none)) else (cellarerref08_May.l0 k x0 (wrap64 (x3 + 1)))) else (some false))) else (none)) else (some (decide ((x0.length : Int) ≤ 10)))
def cellarerref08_May.f (k : Nat) (l0 : List (S101)) : Option (Bool):=cellarerref08_May.l0 k l0 0
def cellarerref08_May.T4 : Bool × List (List Nat × List Nat):=(true,[([],[]),([],[]),([0,1],[0,1]),([2],[2]),([3],[3]),([4],[4]),([5,4],[5]),([6],[6]),([7,6],[6,7]),([8,6,6],[6,8]),([9],[9]),([9],[9]),([10,11,9],[9,10,11]),([12,9],[9,12]),([13,9],[9,13]),([9],[9]),([9],[9]),([16,9],[9,16]),([15,17,9],[9,15,17]),([18,9],[9,18]),([19,9],[9,19]),([14,20,9],[9,14,20]),([9,21,6],[6,9,21]),([6,22],[6,22])])
def cellarerref08_May.B4 : List Nat:=[0,0,3,7,15,31,63,127,255,511,1023,1023,4095,8191,16383,1023,1023,66559,230399,492543,1016831,2097151,4194303,8388607]
theorem cellarerref08_May.tab4 : rtab .any (opsOf Tryz.f57 4) = cellarerref08_May.T4:=by kernel_rfl
theorem cellarerref08_May.bits4 : waitsOk cellarerref08_May.T4.2 cellarerref08_May.B4 = true:=by kernel_rfl
set_option maxHeartbeats 8000000 in
set_option maxRecDepth 100000 in
theorem cellarerref08_May.calls (k : Nat) (A0 : Option Addr) (c0 : Nat) (l0 : List (S101)) (r : Bool) (w : World) (hr0 : Kd.C k101 w A0 l0.length l0) (hc0 : l0.length ≤ c0) (h : cellarerref08_May.f k l0 = some r) :
  Calls Tryz.prog 57 #[.slice A0 l0.length c0] w fun e w'=>e = .returned (.bool r) ∧ Below w.heap.size w w':=by
 have hu101:=Tryz.underlying101
 have HR0:=Aside0.mk hr0
 have HC0:=Aside0.mk hc0
 clear hr0 hc0
 have HB:=Aside0.mk (Below.refl w.heap.size w)
 have H : (cellarerref08_May.l0 k l0 0) = some r:=h
 clear h
 have H':=Aside0.mk H
 clear H
 go_enter Tryz.func57,Tryz.ntmps57
 go_wp2
 go_loopg [3] k (fun kq v3 w'=>∃ (x3_1 : Int),v3 = .int .i64 x3_1 ∧ Aside0 (cellarerref08_May.l0 kq l0 x3_1 = some r) ∧ Aside0 (kq ≤ k) ∧ Aside0 (Below w.heap.size w w'))
 case atStart=>exact ⟨(0),(by first | rfl | (simp;done) | (simp [*];done)),H',⟨Nat.le_refl _⟩,⟨by repeat (first | (with_reducible first | exact HB.out | apply below_alloc | apply pw_below_drewN | apply below_drew1) | exact HB.out)⟩⟩
 case round =>
  clear H'
  obtain ⟨x3_1,rfl,HA,HK1,HB⟩:=hrel
  cases gk with
  | zero=>exact absurd HA.out (by simp [cellarerref08_May.l0])
  | succ k1 =>
   have H:=HA.out
   clear HA
   simp only [cellarerref08_May.l0] at H
   by_cases c2 : x3_1 < (l0.length : Int)
   ·rw [if_pos c2] at H
    have c2b0 : decide (x3_1 < (l0.length : Int)) = true:=decide_eq_true c2
    clear c2
    by_cases c3 : 0 ≤ x3_1
    ·rw [if_pos c3] at H
     have c3b0 : decide (0 ≤ x3_1) = true:=decide_eq_true c3
     clear c3
     replace H:=Option.bind_eq_some_iff.mp H
     obtain ⟨t133,A40,H⟩:=H
     replace H : (if t133 = true then (if x3_1 > 0 then (if 0 ≤ (wrap64 (x3_1 - 1)) then (if (wrap64 (x3_1 - 1)) < (l0.length : Int) then (if ((rd_T101 l0 x3_1).f0) ≤ ((rd_T101 l0 (wrap64 (x3_1 - 1))).f0) then (some false) else (cellarerref08_May.l0 k1 l0 (wrap64 (x3_1 + 1)))) else (none)) else (none)) else (cellarerref08_May.l0 k1 l0 (wrap64 (x3_1 + 1)))) else (some false)) = some r:=H
     have A4:=Aside0.mk A40
     clear A40
     by_cases c5 : t133 = true
     ·subst c5
      have H1 : (if x3_1 > 0 then (if 0 ≤ (wrap64 (x3_1 - 1)) then (if (wrap64 (x3_1 - 1)) < (l0.length : Int) then (if ((rd_T101 l0 x3_1).f0) ≤ ((rd_T101 l0 (wrap64 (x3_1 - 1))).f0) then (some false) else (cellarerref08_May.l0 k1 l0 (wrap64 (x3_1 + 1)))) else (none)) else (none)) else (cellarerref08_May.l0 k1 l0 (wrap64 (x3_1 + 1)))) = some r:=by rw [if_pos rfl] at H;exact H
      clear H
      have H:=H1
      clear H1
      by_cases c6 : x3_1 > 0
      ·rw [if_pos c6] at H
       have c6b0 : decide (0 < x3_1) = true:=decide_eq_true c6
       clear c6
       obtain ⟨ji7,hji7⟩ : ∃ j_ : Int,(wrap64 (x3_1 - 1)) = j_:=⟨_,rfl⟩
       replace H : (if 0 ≤ (ji7) then (if (ji7) < (l0.length : Int) then (if ((rd_T101 l0 x3_1).f0) ≤ ((rd_T101 l0 (ji7)).f0) then (some false) else (cellarerref08_May.l0 k1 l0 (wrap64 (x3_1 + 1)))) else (none)) else (none)) = some r:=by first | (rw [hji7] at H;exact H) | (simp only [hji7] at H ⊢;exact H)
       (try rw [hji7] at A4)
       have hji7w : (IntKind.i64.wrap (x3_1 - 1)) = ji7:=(i64_w _).trans hji7
       by_cases c8 : 0 ≤ (ji7)
       ·rw [if_pos c8] at H
        have c8b0 : decide (0 ≤ (ji7)) = true:=decide_eq_true c8
        clear c8
        by_cases c9 : (ji7) < (l0.length : Int)
        ·rw [if_pos c9] at H
         have c9b0 : decide ((ji7) < (l0.length : Int)) = true:=decide_eq_true c9
         clear c9
         by_cases c10 : ((rd_T101 l0 x3_1).f0) ≤ ((rd_T101 l0 (ji7)).f0)
         ·rw [if_pos c10] at H
          have c10b0 : decide (((rd_T101 l0 x3_1).f0) ≤ ((rd_T101 l0 (ji7)).f0)) = true:=decide_eq_true c10
          clear c10
          obtain rfl:=Option.some.inj H
          try go_wp2
          have n0_:=Aside0.mk (below_drew1 HB.out)
          clear HB
          have HB:=n0_
          clear n0_
          have p132 : 0 ≤ (x3_1 : Int):=of_decide_eq_true (by first | (with_reducible assumption) | assumption)
          have q132 : x3_1 < (l0.length : Int):=of_decide_eq_true (by first | (with_reducible assumption) | assumption)
          obtain ⟨ad132,A132_2,c132_2,e132,hx132_0,hx132_1,hx132_2,hl132_2,hi132_2⟩:=at_T101 HR0.out x3_1 p132 q132
          have hw132_2:=hx132_2
          have hw132_1:=hx132_1
          have hw132_0:=hx132_0
          cases e132
          replace hx132_0:=zcl HB hx132_0
          replace hx132_1:=zcl HB hx132_1
          replace hx132_2:=zcl HB hx132_2
          have HR132_2:=Aside0.mk hi132_2
          have HC132_2:=Aside0.mk hl132_2
          clear hi132_2 hl132_2
          replace p132:=eq_true p132
          replace q132:=eq_true q132
          have p134 : 0 ≤ (x3_1 : Int):=of_decide_eq_true (by first | (with_reducible assumption) | assumption)
          have q134 : x3_1 < (l0.length : Int):=of_decide_eq_true (by first | (with_reducible assumption) | assumption)
          obtain ⟨ad134,A134_2,c134_2,e134,hx134_0,hx134_1,hx134_2,hl134_2,hi134_2⟩:=at_T101 HR0.out x3_1 p134 q134
          have hw134_2:=hx134_2
          have hw134_1:=hx134_1
          have hw134_0:=hx134_0
          obtain rfl : ad132 = ad134:=(by injection e134)
          replace hx134_0:=zcl HB hx134_0
          replace hx134_1:=zcl HB hx134_1
          replace hx134_2:=zcl HB hx134_2
          have HR134_2:=Aside0.mk hi134_2
          have HC134_2:=Aside0.mk hl134_2
          clear hi134_2 hl134_2
          replace p134:=eq_true p134
          replace q134:=eq_true q134
          have p135 : 0 ≤ ((ji7) : Int):=of_decide_eq_true (by first | (with_reducible assumption) | assumption)
          have q135 : (ji7) < (l0.length : Int):=of_decide_eq_true (by first | (with_reducible assumption) | assumption)
          obtain ⟨ad135,A135_2,c135_2,e135,hx135_0,hx135_1,hx135_2,hl135_2,hi135_2⟩:=at_T101 HR0.out (ji7) p135 q135
          have hw135_2:=hx135_2
          have hw135_1:=hx135_1
          have hw135_0:=hx135_0
          obtain rfl : ad132 = ad135:=(by injection e135)
          replace hx135_0:=zcl HB hx135_0
          replace hx135_1:=zcl HB hx135_1
          replace hx135_2:=zcl HB hx135_2
          have HR135_2:=Aside0.mk hi135_2
          have HC135_2:=Aside0.mk hl135_2
          clear hi135_2 hl135_2
          replace p135:=eq_true p135
          replace q135:=eq_true q135
          refine start_ (n:=24) (S:=fun w'=>w'.cell? (ad132.add ((x3_1).toNat * 3)) = some (.int .u64 ((rd_T101 l0 x3_1).f0)) ∧ w'.cell? ⟨(ad132.add ((x3_1).toNat * 3)).block,(ad132.add ((x3_1).toNat * 3)).off + 1,none⟩ = some (.string ((rd_T101 l0 x3_1).f1)) ∧ w'.cell? ⟨(ad132.add ((x3_1).toNat * 3)).block,(ad132.add ((x3_1).toNat * 3)).off + 2,none⟩ = some (.slice A132_2 ((rd_T101 l0 x3_1).f2).length c132_2) ∧ w'.cell? (ad132.add ((x3_1).toNat * 3)) = some (.int .u64 ((rd_T101 l0 x3_1).f0)) ∧ w'.cell? ⟨(ad132.add ((x3_1).toNat * 3)).block,(ad132.add ((x3_1).toNat * 3)).off + 1,none⟩ = some (.string ((rd_T101 l0 x3_1).f1)) ∧ w'.cell? ⟨(ad132.add ((x3_1).toNat * 3)).block,(ad132.add ((x3_1).toNat * 3)).off + 2,none⟩ = some (.slice A134_2 ((rd_T101 l0 x3_1).f2).length c134_2) ∧ w'.cell? (ad132.add (((ji7)).toNat * 3)) = some (.int .u64 ((rd_T101 l0 (ji7)).f0)) ∧ w'.cell? ⟨(ad132.add (((ji7)).toNat * 3)).block,(ad132.add (((ji7)).toNat * 3)).off + 1,none⟩ = some (.string ((rd_T101 l0 (ji7)).f1)) ∧ w'.cell? ⟨(ad132.add (((ji7)).toNat * 3)).block,(ad132.add (((ji7)).toNat * 3)).off + 2,none⟩ = some (.slice A135_2 ((rd_T101 l0 (ji7)).f2).length c135_2)) (ds:=[]) #[false,false,false,false,false,false,false,false,false,false,false,false,false,false,false,false,false,false,false,false,false,false,false,false] (by kernel_rfl) rfl rfl ⟨(zcl HB hw132_0),(zcl HB hw132_1),(zcl HB hw132_2),(zcl HB hw134_0),(zcl HB hw134_1),(zcl HB hw134_2),(zcl HB hw135_0),(zcl HB hw135_1),(zcl HB hw135_2)⟩ (fun hHeld=>?_);refine with_tabW cellarerref08_May.tab4 cellarerref08_May.bits4 (fun HT_ HW_=>?_)
          generalize wr.drew = w11 at HB HR132_2 HR134_2 HR135_2 hx132_0 hx132_1 hx132_2 hx134_0 hx134_1 hx134_2 hx135_0 hx135_1 hx135_2 hHeld ⊢
          refine zpu 0 (some 10) (zy 24 1) HT_ ?_
          refine zpu 1 (some 11) (zy 24 3) HT_ ?_
          refine zpu 2 (some 12) (zy 24 7) HT_ ?_
          refine ztk 3 (some 13) (zy 24 15) HT_ HW_ hHeld ?_
          refine one_ (i:=4) (N:=some 14) #[true,true,true,true,true,false,false,false,false,false,false,false,false,false,false,false,false,false,false,false,false,false,false,false] rfl rfl (one_of HT_.out (by kernel_rfl)) (by decide) (fun K hK=>?_)
          refine goes_ Tryz.func113 (by kernel_rfl) rfl #[.agg #[.int .u64 ((rd_T101 l0 x3_1).f0),.string ((rd_T101 l0 x3_1).f1),.slice A132_2 ((rd_T101 l0 x3_1).f2).length c132_2]] (by rfl) rfl rfl (by (try simp only [List.map_toArray,List.map_cons,List.map_nil]);first | done | rfl | (simp only [List.length_drop,List.length_take];rfl)) ?_
          with_reducible refine (cellarerref08_One.calls k1 ((rd_T101 l0 x3_1).f0) ((rd_T101 l0 x3_1).f1) _ _ ((rd_T101 l0 x3_1).f2) true _ ?side1 ?side2 A4.out).mono ?_
          (case side1=>repeat (first | exact (Kd.C_below HR132_2.out HB.out) | (with_reducible refine Kd.C_alloc ?_ _) | (with_reducible refine Kd.C_drewN ?_ _) | (with_reducible refine Kd.C_drew ?_)))
          (case side2=>exact HC132_2.out)
          rintro e w12 ⟨rfl,hb⟩
          refine ⟨_,rfl,?_⟩
          have n0_:=Aside0.mk (below_step zbe hb)
          clear HB
          have HB:=n0_
          clear n0_
          (try clear hb)
          (try clear hb2)
          (try clear hk)
          (try clear hi)
          refine hK.out _ _ ⟨(zcl HB hw132_0),(zcl HB hw132_1),(zcl HB hw132_2),(zcl HB hw134_0),(zcl HB hw134_1),(zcl HB hw134_2),(zcl HB hw135_0),(zcl HB hw135_1),(zcl HB hw135_2)⟩ (fun hHeld=>?_)
          clear hK K
          refine norm_ (a':=?_) ?_ ?_
          rotate_left
          ·show Act.put _ (some 14) _ = _
           simp only [Act.put,List.setIfInBounds_toArray,List.set_cons_zero,List.set_cons_succ,i64_w,i32_w]
           rfl
          refine zpu 5 (some 15) (zy 24 63) HT_ ?_
          refine zpu 6 (some 16) (zy 24 127) HT_ ?_
          refine zpu 7 (some 17) (zy 24 255) HT_ ?_
          refine zpu 8 (some 18) (zy 24 511) HT_ ?_
          refine zpu 9 (some 19) (zy 24 1023) HT_ ?_
          refine zpu 10 (some 20) (zy 24 2047) HT_ ?_
          refine zpu 11 (some 21) (zy 24 4095) HT_ ?_
          refine zpu 12 (some 22) (zy 24 8191) HT_ ?_
          refine zpu 13 (some 23) (zy 24 16383) HT_ ?_
          refine zpu 15 (some 25) (zy 24 49151) HT_ ?_
          refine zpu 16 (some 26) (zy 24 114687) HT_ ?_
          refine zpu 17 (some 27) (zy 24 245759) HT_ ?_
          refine zpu 18 (some 28) (zy 24 507903) HT_ ?_
          refine zpu 19 (some 29) (zy 24 1032191) HT_ ?_
          refine ztk 14 (some 24) (zy 24 1048575) HT_ HW_ hHeld ?_
          refine ztk 20 (some 30) (zy 24 2097151) HT_ HW_ hHeld ?_
          refine zpu 21 (some 31) (zy 24 4194303) HT_ ?_
          refine zpu 22 (some 32) (zy 24 8388607) HT_ ?_
          refine zpu 23 (some 33) (zy 24 16777215) HT_ ?_
          refine done_ (done_of HT_.out (by kernel_rfl)) ?_
          try go_wp2
          go_ret
          exact ⟨by first | rfl | (simp [errW_none,errW_some] <;> rfl) | (simp only [← hji7];first | rfl | (simp [errW_none,errW_some] <;> rfl)) | (simp [*,errW_none,errW_some] <;> rfl),by repeat (first | (with_reducible first | exact HB.out | apply below_alloc | apply pw_below_drewN | apply below_drew1) | exact HB.out)⟩
         ·rw [if_neg c10] at H
          have c10b0 : decide (((rd_T101 l0 x3_1).f0) ≤ ((rd_T101 l0 (ji7)).f0)) = false:=decide_eq_false c10
          clear c10
          have H':=Aside0.mk H
          clear H
          try go_wp2
          have n0_:=Aside0.mk (below_drew1 HB.out)
          clear HB
          have HB:=n0_
          clear n0_
          have p132 : 0 ≤ (x3_1 : Int):=of_decide_eq_true (by first | (with_reducible assumption) | assumption)
          have q132 : x3_1 < (l0.length : Int):=of_decide_eq_true (by first | (with_reducible assumption) | assumption)
          obtain ⟨ad132,A132_2,c132_2,e132,hx132_0,hx132_1,hx132_2,hl132_2,hi132_2⟩:=at_T101 HR0.out x3_1 p132 q132
          have hw132_2:=hx132_2
          have hw132_1:=hx132_1
          have hw132_0:=hx132_0
          cases e132
          replace hx132_0:=zcl HB hx132_0
          replace hx132_1:=zcl HB hx132_1
          replace hx132_2:=zcl HB hx132_2
          have HR132_2:=Aside0.mk hi132_2
          have HC132_2:=Aside0.mk hl132_2
          clear hi132_2 hl132_2
          replace p132:=eq_true p132
          replace q132:=eq_true q132
          have p134 : 0 ≤ (x3_1 : Int):=of_decide_eq_true (by first | (with_reducible assumption) | assumption)
          have q134 : x3_1 < (l0.length : Int):=of_decide_eq_true (by first | (with_reducible assumption) | assumption)
          obtain ⟨ad134,A134_2,c134_2,e134,hx134_0,hx134_1,hx134_2,hl134_2,hi134_2⟩:=at_T101 HR0.out x3_1 p134 q134
          have hw134_2:=hx134_2
          have hw134_1:=hx134_1
          have hw134_0:=hx134_0
          obtain rfl : ad132 = ad134:=(by injection e134)
          replace hx134_0:=zcl HB hx134_0
          replace hx134_1:=zcl HB hx134_1
          replace hx134_2:=zcl HB hx134_2
          have HR134_2:=Aside0.mk hi134_2
          have HC134_2:=Aside0.mk hl134_2
          clear hi134_2 hl134_2
          replace p134:=eq_true p134
          replace q134:=eq_true q134
          have p135 : 0 ≤ ((ji7) : Int):=of_decide_eq_true (by first | (with_reducible assumption) | assumption)
          have q135 : (ji7) < (l0.length : Int):=of_decide_eq_true (by first | (with_reducible assumption) | assumption)
          obtain ⟨ad135,A135_2,c135_2,e135,hx135_0,hx135_1,hx135_2,hl135_2,hi135_2⟩:=at_T101 HR0.out (ji7) p135 q135
          have hw135_2:=hx135_2
          have hw135_1:=hx135_1
          have hw135_0:=hx135_0
          obtain rfl : ad132 = ad135:=(by injection e135)
          replace hx135_0:=zcl HB hx135_0
          replace hx135_1:=zcl HB hx135_1
          replace hx135_2:=zcl HB hx135_2
          have HR135_2:=Aside0.mk hi135_2
          have HC135_2:=Aside0.mk hl135_2
          clear hi135_2 hl135_2
          replace p135:=eq_true p135
          replace q135:=eq_true q135
          refine start_ (n:=24) (S:=fun w'=>w'.cell? (ad132.add ((x3_1).toNat * 3)) = some (.int .u64 ((rd_T101 l0 x3_1).f0)) ∧ w'.cell? ⟨(ad132.add ((x3_1).toNat * 3)).block,(ad132.add ((x3_1).toNat * 3)).off + 1,none⟩ = some (.string ((rd_T101 l0 x3_1).f1)) ∧ w'.cell? ⟨(ad132.add ((x3_1).toNat * 3)).block,(ad132.add ((x3_1).toNat * 3)).off + 2,none⟩ = some (.slice A132_2 ((rd_T101 l0 x3_1).f2).length c132_2) ∧ w'.cell? (ad132.add ((x3_1).toNat * 3)) = some (.int .u64 ((rd_T101 l0 x3_1).f0)) ∧ w'.cell? ⟨(ad132.add ((x3_1).toNat * 3)).block,(ad132.add ((x3_1).toNat * 3)).off + 1,none⟩ = some (.string ((rd_T101 l0 x3_1).f1)) ∧ w'.cell? ⟨(ad132.add ((x3_1).toNat * 3)).block,(ad132.add ((x3_1).toNat * 3)).off + 2,none⟩ = some (.slice A134_2 ((rd_T101 l0 x3_1).f2).length c134_2) ∧ w'.cell? (ad132.add (((ji7)).toNat * 3)) = some (.int .u64 ((rd_T101 l0 (ji7)).f0)) ∧ w'.cell? ⟨(ad132.add (((ji7)).toNat * 3)).block,(ad132.add (((ji7)).toNat * 3)).off + 1,none⟩ = some (.string ((rd_T101 l0 (ji7)).f1)) ∧ w'.cell? ⟨(ad132.add (((ji7)).toNat * 3)).block,(ad132.add (((ji7)).toNat * 3)).off + 2,none⟩ = some (.slice A135_2 ((rd_T101 l0 (ji7)).f2).length c135_2)) (ds:=[]) #[false,false,false,false,false,false,false,false,false,false,false,false,false,false,false,false,false,false,false,false,false,false,false,false] (by kernel_rfl) rfl rfl ⟨(zcl HB hw132_0),(zcl HB hw132_1),(zcl HB hw132_2),(zcl HB hw134_0),(zcl HB hw134_1),(zcl HB hw134_2),(zcl HB hw135_0),(zcl HB hw135_1),(zcl HB hw135_2)⟩ (fun hHeld=>?_);refine with_tabW cellarerref08_May.tab4 cellarerref08_May.bits4 (fun HT_ HW_=>?_)
          generalize wr.drew = w13 at HB HR132_2 HR134_2 HR135_2 hx132_0 hx132_1 hx132_2 hx134_0 hx134_1 hx134_2 hx135_0 hx135_1 hx135_2 hHeld ⊢
          refine zpu 0 (some 10) (zy 24 1) HT_ ?_
          refine zpu 1 (some 11) (zy 24 3) HT_ ?_
          refine zpu 2 (some 12) (zy 24 7) HT_ ?_
          refine ztk 3 (some 13) (zy 24 15) HT_ HW_ hHeld ?_
          refine one_ (i:=4) (N:=some 14) #[true,true,true,true,true,false,false,false,false,false,false,false,false,false,false,false,false,false,false,false,false,false,false,false] rfl rfl (one_of HT_.out (by kernel_rfl)) (by decide) (fun K hK=>?_)
          refine goes_ Tryz.func113 (by kernel_rfl) rfl #[.agg #[.int .u64 ((rd_T101 l0 x3_1).f0),.string ((rd_T101 l0 x3_1).f1),.slice A132_2 ((rd_T101 l0 x3_1).f2).length c132_2]] (by rfl) rfl rfl (by (try simp only [List.map_toArray,List.map_cons,List.map_nil]);first | done | rfl | (simp only [List.length_drop,List.length_take];rfl)) ?_
          with_reducible refine (cellarerref08_One.calls k1 ((rd_T101 l0 x3_1).f0) ((rd_T101 l0 x3_1).f1) _ _ ((rd_T101 l0 x3_1).f2) true _ ?side1 ?side2 A4.out).mono ?_
          (case side1=>repeat (first | exact (Kd.C_below HR132_2.out HB.out) | (with_reducible refine Kd.C_alloc ?_ _) | (with_reducible refine Kd.C_drewN ?_ _) | (with_reducible refine Kd.C_drew ?_)))
          (case side2=>exact HC132_2.out)
          rintro e w14 ⟨rfl,hb⟩
          refine ⟨_,rfl,?_⟩
          have n0_:=Aside0.mk (below_step zbe hb)
          clear HB
          have HB:=n0_
          clear n0_
          (try clear hb)
          (try clear hb2)
          (try clear hk)
          (try clear hi)
          refine hK.out _ _ ⟨(zcl HB hw132_0),(zcl HB hw132_1),(zcl HB hw132_2),(zcl HB hw134_0),(zcl HB hw134_1),(zcl HB hw134_2),(zcl HB hw135_0),(zcl HB hw135_1),(zcl HB hw135_2)⟩ (fun hHeld=>?_)
          clear hK K
          refine norm_ (a':=?_) ?_ ?_
          rotate_left
          ·show Act.put _ (some 14) _ = _
           simp only [Act.put,List.setIfInBounds_toArray,List.set_cons_zero,List.set_cons_succ,i64_w,i32_w]
           rfl
          refine zpu 5 (some 15) (zy 24 63) HT_ ?_
          refine zpu 6 (some 16) (zy 24 127) HT_ ?_
          refine zpu 7 (some 17) (zy 24 255) HT_ ?_
          refine zpu 8 (some 18) (zy 24 511) HT_ ?_
          refine zpu 9 (some 19) (zy 24 1023) HT_ ?_
          refine zpu 10 (some 20) (zy 24 2047) HT_ ?_
          refine zpu 11 (some 21) (zy 24 4095) HT_ ?_
          refine zpu 12 (some 22) (zy 24 8191) HT_ ?_
          refine zpu 13 (some 23) (zy 24 16383) HT_ ?_
          refine zpu 15 (some 25) (zy 24 49151) HT_ ?_
          refine zpu 16 (some 26) (zy 24 114687) HT_ ?_
          refine zpu 17 (some 27) (zy 24 245759) HT_ ?_
          refine zpu 18 (some 28) (zy 24 507903) HT_ ?_
          refine zpu 19 (some 29) (zy 24 1032191) HT_ ?_
          refine ztk 14 (some 24) (zy 24 1048575) HT_ HW_ hHeld ?_
          refine ztk 20 (some 30) (zy 24 2097151) HT_ HW_ hHeld ?_
          refine zpu 21 (some 31) (zy 24 4194303) HT_ ?_
          refine zpu 22 (some 32) (zy 24 8388607) HT_ ?_
          refine zpu 23 (some 33) (zy 24 16777215) HT_ ?_
          refine done_ (done_of HT_.out (by kernel_rfl)) ?_
          try go_wp2
          go_roundg k1
          case measure=>have:=HK1.out;omega
          case rel=>exact ⟨(wrap64 (x3_1 + 1)),(by first | rfl | (simp;done) | (simp [*];done)),H',⟨by have:=HK1.out;omega⟩,⟨by repeat (first | (with_reducible first | exact HB.out | apply below_alloc | apply pw_below_drewN | apply below_drew1) | exact HB.out)⟩⟩
        ·rw [if_neg c9] at H
         exact absurd H (by simp)
       ·rw [if_neg c8] at H
        exact absurd H (by simp)
      ·rw [if_neg c6] at H
       have c6b0 : decide (0 < x3_1) = false:=decide_eq_false c6
       clear c6
       have H':=Aside0.mk H
       clear H
       try go_wp2
       have n0_:=Aside0.mk (below_drew1 HB.out)
       clear HB
       have HB:=n0_
       clear n0_
       have p132 : 0 ≤ (x3_1 : Int):=of_decide_eq_true (by first | (with_reducible assumption) | assumption)
       have q132 : x3_1 < (l0.length : Int):=of_decide_eq_true (by first | (with_reducible assumption) | assumption)
       obtain ⟨ad132,A132_2,c132_2,e132,hx132_0,hx132_1,hx132_2,hl132_2,hi132_2⟩:=at_T101 HR0.out x3_1 p132 q132
       have hw132_2:=hx132_2
       have hw132_1:=hx132_1
       have hw132_0:=hx132_0
       cases e132
       replace hx132_0:=zcl HB hx132_0
       replace hx132_1:=zcl HB hx132_1
       replace hx132_2:=zcl HB hx132_2
       have HR132_2:=Aside0.mk hi132_2
       have HC132_2:=Aside0.mk hl132_2
       clear hi132_2 hl132_2
       replace p132:=eq_true p132
       replace q132:=eq_true q132
       refine start_ (n:=24) (S:=fun w'=>w'.cell? (ad132.add ((x3_1).toNat * 3)) = some (.int .u64 ((rd_T101 l0 x3_1).f0)) ∧ w'.cell? ⟨(ad132.add ((x3_1).toNat * 3)).block,(ad132.add ((x3_1).toNat * 3)).off + 1,none⟩ = some (.string ((rd_T101 l0 x3_1).f1)) ∧ w'.cell? ⟨(ad132.add ((x3_1).toNat * 3)).block,(ad132.add ((x3_1).toNat * 3)).off + 2,none⟩ = some (.slice A132_2 ((rd_T101 l0 x3_1).f2).length c132_2)) (ds:=[]) #[false,false,false,false,false,false,false,false,false,false,false,false,false,false,false,false,false,false,false,false,false,false,false,false] (by kernel_rfl) rfl rfl ⟨(zcl HB hw132_0),(zcl HB hw132_1),(zcl HB hw132_2)⟩ (fun hHeld=>?_);refine with_tabW cellarerref08_May.tab4 cellarerref08_May.bits4 (fun HT_ HW_=>?_)
       generalize wr.drew = w15 at HB HR132_2 hx132_0 hx132_1 hx132_2 hHeld ⊢
       refine zpu 0 (some 10) (zy 24 1) HT_ ?_
       refine zpu 1 (some 11) (zy 24 3) HT_ ?_
       refine zpu 2 (some 12) (zy 24 7) HT_ ?_
       refine ztk 3 (some 13) (zy 24 15) HT_ HW_ hHeld ?_
       refine one_ (i:=4) (N:=some 14) #[true,true,true,true,true,false,false,false,false,false,false,false,false,false,false,false,false,false,false,false,false,false,false,false] rfl rfl (one_of HT_.out (by kernel_rfl)) (by decide) (fun K hK=>?_)
       refine goes_ Tryz.func113 (by kernel_rfl) rfl #[.agg #[.int .u64 ((rd_T101 l0 x3_1).f0),.string ((rd_T101 l0 x3_1).f1),.slice A132_2 ((rd_T101 l0 x3_1).f2).length c132_2]] (by rfl) rfl rfl (by (try simp only [List.map_toArray,List.map_cons,List.map_nil]);first | done | rfl | (simp only [List.length_drop,List.length_take];rfl)) ?_
       with_reducible refine (cellarerref08_One.calls k1 ((rd_T101 l0 x3_1).f0) ((rd_T101 l0 x3_1).f1) _ _ ((rd_T101 l0 x3_1).f2) true _ ?side1 ?side2 A4.out).mono ?_
       (case side1=>repeat (first | exact (Kd.C_below HR132_2.out HB.out) | (with_reducible refine Kd.C_alloc ?_ _) | (with_reducible refine Kd.C_drewN ?_ _) | (with_reducible refine Kd.C_drew ?_)))
       (case side2=>exact HC132_2.out)
       rintro e w16 ⟨rfl,hb⟩
       refine ⟨_,rfl,?_⟩
       have n0_:=Aside0.mk (below_step zbe hb)
       clear HB
       have HB:=n0_
       clear n0_
       (try clear hb)
       (try clear hb2)
       (try clear hk)
       (try clear hi)
       refine hK.out _ _ ⟨(zcl HB hw132_0),(zcl HB hw132_1),(zcl HB hw132_2)⟩ (fun hHeld=>?_)
       clear hK K
       refine norm_ (a':=?_) ?_ ?_
       rotate_left
       ·show Act.put _ (some 14) _ = _
        simp only [Act.put,List.setIfInBounds_toArray,List.set_cons_zero,List.set_cons_succ,i64_w,i32_w]
        rfl
       refine zpu 5 (some 15) (zy 24 63) HT_ ?_
       refine zpu 6 (some 16) (zy 24 127) HT_ ?_
       refine zpu 7 (some 17) (zy 24 255) HT_ ?_
       refine zpu 8 (some 18) (zy 24 511) HT_ ?_
       refine zpu 9 (some 19) (zy 24 1023) HT_ ?_
       refine zun 10 (some 20) (zy 24 2047) HT_ ?_
       refine zun 11 (some 21) (zy 24 4095) HT_ ?_
       refine zun 12 (some 22) (zy 24 8191) HT_ ?_
       refine zun 13 (some 23) (zy 24 16383) HT_ ?_
       refine zun 14 (some 24) (zy 24 32767) HT_ ?_
       refine zun 15 (some 25) (zy 24 65535) HT_ ?_
       refine zun 16 (some 26) (zy 24 131071) HT_ ?_
       refine zun 17 (some 27) (zy 24 262143) HT_ ?_
       refine zun 18 (some 28) (zy 24 524287) HT_ ?_
       refine zun 19 (some 29) (zy 24 1048575) HT_ ?_
       refine zun 20 (some 30) (zy 24 2097151) HT_ ?_
       refine zun 21 (some 31) (zy 24 4194303) HT_ ?_
       refine zpu 22 (some 32) (zy 24 8388607) HT_ ?_
       refine zpu 23 (some 33) (zy 24 16777215) HT_ ?_
       refine done_ (done_of HT_.out (by kernel_rfl)) ?_
       try go_wp2
       go_roundg k1
       case measure=>have:=HK1.out;omega
       case rel=>exact ⟨(wrap64 (x3_1 + 1)),(by first | rfl | (simp;done) | (simp [*];done)),H',⟨by have:=HK1.out;omega⟩,⟨by repeat (first | (with_reducible first | exact HB.out | apply below_alloc | apply pw_below_drewN | apply below_drew1) | exact HB.out)⟩⟩
     ·replace c5:=Bool.eq_false_iff.mpr c5
      subst c5
      have H1 : (some false) = some r:=by rw [if_neg (show ¬ (false = true) by decide)] at H;exact H
      clear H
      have H:=H1
      clear H1
      obtain rfl:=Option.some.inj H
      try go_wp2
      have n0_:=Aside0.mk (below_drew1 HB.out)
      clear HB
      have HB:=n0_
      clear n0_
      have p132 : 0 ≤ (x3_1 : Int):=of_decide_eq_true (by first | (with_reducible assumption) | assumption)
      have q132 : x3_1 < (l0.length : Int):=of_decide_eq_true (by first | (with_reducible assumption) | assumption)
      obtain ⟨ad132,A132_2,c132_2,e132,hx132_0,hx132_1,hx132_2,hl132_2,hi132_2⟩:=at_T101 HR0.out x3_1 p132 q132
      have hw132_2:=hx132_2
      have hw132_1:=hx132_1
      have hw132_0:=hx132_0
      cases e132
      replace hx132_0:=zcl HB hx132_0
      replace hx132_1:=zcl HB hx132_1
      replace hx132_2:=zcl HB hx132_2
      have HR132_2:=Aside0.mk hi132_2
      have HC132_2:=Aside0.mk hl132_2
      clear hi132_2 hl132_2
      replace p132:=eq_true p132
      replace q132:=eq_true q132
      refine start_ (n:=24) (S:=fun w'=>w'.cell? (ad132.add ((x3_1).toNat * 3)) = some (.int .u64 ((rd_T101 l0 x3_1).f0)) ∧ w'.cell? ⟨(ad132.add ((x3_1).toNat * 3)).block,(ad132.add ((x3_1).toNat * 3)).off + 1,none⟩ = some (.string ((rd_T101 l0 x3_1).f1)) ∧ w'.cell? ⟨(ad132.add ((x3_1).toNat * 3)).block,(ad132.add ((x3_1).toNat * 3)).off + 2,none⟩ = some (.slice A132_2 ((rd_T101 l0 x3_1).f2).length c132_2)) (ds:=[]) #[false,false,false,false,false,false,false,false,false,false,false,false,false,false,false,false,false,false,false,false,false,false,false,false] (by kernel_rfl) rfl rfl ⟨(zcl HB hw132_0),(zcl HB hw132_1),(zcl HB hw132_2)⟩ (fun hHeld=>?_);refine with_tabW cellarerref08_May.tab4 cellarerref08_May.bits4 (fun HT_ HW_=>?_)
      generalize wr.drew = w17 at HB HR132_2 hx132_0 hx132_1 hx132_2 hHeld ⊢
      refine zpu 0 (some 10) (zy 24 1) HT_ ?_
      refine zpu 1 (some 11) (zy 24 3) HT_ ?_
      refine zpu 2 (some 12) (zy 24 7) HT_ ?_
      refine ztk 3 (some 13) (zy 24 15) HT_ HW_ hHeld ?_
      refine one_ (i:=4) (N:=some 14) #[true,true,true,true,true,false,false,false,false,false,false,false,false,false,false,false,false,false,false,false,false,false,false,false] rfl rfl (one_of HT_.out (by kernel_rfl)) (by decide) (fun K hK=>?_)
      refine goes_ Tryz.func113 (by kernel_rfl) rfl #[.agg #[.int .u64 ((rd_T101 l0 x3_1).f0),.string ((rd_T101 l0 x3_1).f1),.slice A132_2 ((rd_T101 l0 x3_1).f2).length c132_2]] (by rfl) rfl rfl (by (try simp only [List.map_toArray,List.map_cons,List.map_nil]);first | done | rfl | (simp only [List.length_drop,List.length_take];rfl)) ?_
      with_reducible refine (cellarerref08_One.calls k1 ((rd_T101 l0 x3_1).f0) ((rd_T101 l0 x3_1).f1) _ _ ((rd_T101 l0 x3_1).f2) false _ ?side1 ?side2 A4.out).mono ?_
      (case side1=>repeat (first | exact (Kd.C_below HR132_2.out HB.out) | (with_reducible refine Kd.C_alloc ?_ _) | (with_reducible refine Kd.C_drewN ?_ _) | (with_reducible refine Kd.C_drew ?_)))
      (case side2=>exact HC132_2.out)
      rintro e w18 ⟨rfl,hb⟩
      refine ⟨_,rfl,?_⟩
      have n0_:=Aside0.mk (below_step zbe hb)
      clear HB
      have HB:=n0_
      clear n0_
      (try clear hb)
      (try clear hb2)
      (try clear hk)
      (try clear hi)
      refine hK.out _ _ ⟨(zcl HB hw132_0),(zcl HB hw132_1),(zcl HB hw132_2)⟩ (fun hHeld=>?_)
      clear hK K
      refine norm_ (a':=?_) ?_ ?_
      rotate_left
      ·show Act.put _ (some 14) _ = _
       simp only [Act.put,List.setIfInBounds_toArray,List.set_cons_zero,List.set_cons_succ,i64_w,i32_w]
       rfl
      refine zpu 5 (some 15) (zy 24 63) HT_ ?_
      refine zpu 6 (some 16) (zy 24 127) HT_ ?_
      refine zun 7 (some 17) (zy 24 255) HT_ ?_
      refine zun 8 (some 18) (zy 24 511) HT_ ?_
      refine zun 9 (some 19) (zy 24 1023) HT_ ?_
      refine zun 10 (some 20) (zy 24 2047) HT_ ?_
      refine zun 11 (some 21) (zy 24 4095) HT_ ?_
      refine zun 12 (some 22) (zy 24 8191) HT_ ?_
      refine zun 13 (some 23) (zy 24 16383) HT_ ?_
      refine zun 14 (some 24) (zy 24 32767) HT_ ?_
      refine zun 15 (some 25) (zy 24 65535) HT_ ?_
      refine zun 16 (some 26) (zy 24 131071) HT_ ?_
      refine zun 17 (some 27) (zy 24 262143) HT_ ?_
      refine zun 18 (some 28) (zy 24 524287) HT_ ?_
      refine zun 19 (some 29) (zy 24 1048575) HT_ ?_
      refine zun 20 (some 30) (zy 24 2097151) HT_ ?_
      refine zun 21 (some 31) (zy 24 4194303) HT_ ?_
      refine zun 22 (some 32) (zy 24 8388607) HT_ ?_
      refine zpu 23 (some 33) (zy 24 16777215) HT_ ?_
      refine done_ (done_of HT_.out (by kernel_rfl)) ?_
      try go_wp2
      go_ret
      exact ⟨by first | rfl | (simp [errW_none,errW_some] <;> rfl) | (simp [*,errW_none,errW_some] <;> rfl),by repeat (first | (with_reducible first | exact HB.out | apply below_alloc | apply pw_below_drewN | apply below_drew1) | exact HB.out)⟩
    ·rw [if_neg c3] at H
     exact absurd H (by simp)
   ·rw [if_neg c2] at H
    have c2b0 : decide (x3_1 < (l0.length : Int)) = false:=decide_eq_false c2
    clear c2
    obtain rfl:=Option.some.inj H
    go_wp2
    go_ret
    exact ⟨by first | rfl | (simp [errW_none,errW_some] <;> rfl) | (simp [*,errW_none,errW_some] <;> rfl),by repeat (first | (with_reducible first | exact HB.out | apply below_alloc | apply pw_below_drewN | apply below_drew1) | exact HB.out)⟩

end Go.Proofs.YtekooapbdgippaaGreatDoor.Q
namespace Go.Proofs.YtekooapbdgippaaGreatDoor.Q
open Go.RowKit Go.Proofs.YtekooapbdgippaaGreatDoorW.PrintWords Go.Proofs.YtekooapbdgippaaGreatDoorW.PrintLast Go.Proofs.YtekooapbdgippaaGreatDoorW.PrintMore
open List renaming getElem_toArray → zA, getElem_cons_zero → zB, getElem_cons_succ → zC, setIfInBounds_toArray → zD, set_cons_zero → zE, set_cons_succ → zF
set_option linter.unusedVariables false
set_option linter.unusedSimpArgs false
set_option maxHeartbeats 8000000
set_option maxRecDepth 100000
section
theorem ref_keys_l0 (s : ByteArray) (hs : (s.size : Int) ≤ 9223372036854775807) : ∀ (d k i : Nat),d < k → i + d = s.size → cellarerref01_keys.l0 k s (i : Int) = some ((s.data.toList.drop i).all okb):=by
 intro d
 induction d with
 | zero =>
  intro k i hk hi
  obtain ⟨k,rfl⟩ : ∃ j,k = j + 1:=⟨k - 1,by omega⟩
  simp only [cellarerref01_keys.l0]
  rw [if_neg (by omega),List.drop_eq_nil_of_le (by show s.data.toList.length ≤ i;rw [Array.length_toList];show s.size ≤ i;omega)];rfl
 | succ d ih =>
  intro k i hk hi
  obtain ⟨k,rfl⟩ : ∃ j,k = j + 1:=⟨k - 1,by omega⟩
  have hw : wrap64 ((i : Int) + 1) = ((i + 1 : Nat) : Int):=by rw [wrap64_of (by omega) (by omega)];omega
  have hl : i < s.data.toList.length:=by rw [Array.length_toList];show i < s.size;omega
  have hb : bt s (i : Int) = ((s.data.toList[i].toNat : Nat) : Int):=by
   rw [← bt_at s (i : Int) (by rw [Int.toNat_natCast];omega)]
   rfl
  simp only [cellarerref01_keys.l0]
  rw [if_pos (by omega),if_pos (by omega),hb,hw,ih k (i + 1) (by omega) (by omega),List.drop_eq_getElem_cons hl,List.all_cons]
  unfold okb
  by_cases h1 : ((s.data.toList[i].toNat : Nat) : Int) < 32
  ·rw [if_pos h1,decide_eq_false (by omega)];rfl
  ·rw [if_neg h1,decide_eq_true (show (32 : Int) ≤ _ by omega)]
   by_cases h2 : ((s.data.toList[i].toNat : Nat) : Int) > 126
   ·rw [if_pos h2,decide_eq_false (by omega)];rfl
   ·rw [if_neg h2,decide_eq_true (show ((s.data.toList[i].toNat : Nat) : Int) ≤ 126 by omega)];rfl
theorem loop_ne (s : ByteArray) : ∀ (n i : Nat) (r : List UInt8),s.size - i = n → r ≠ [] → ByteArray.toList.loop s i r ≠ []:=by
 intro n
 induction n with
 | zero =>
  intro i r h hr
  unfold ByteArray.toList.loop
  rw [if_neg (by omega)]
  simpa using hr
 | succ n ih =>
  intro i r h hr
  unfold ByteArray.toList.loop
  rw [if_pos (by omega)]
  exact ih (i + 1) _ (by omega) (by simp)
theorem toList_nil (s : ByteArray) : s.toList = ([] : List UInt8) ↔ s.size = 0:=by
 unfold ByteArray.toList
 constructor
 ·intro h
  rcases Nat.eq_zero_or_pos s.size with h0 | h0
  ·exact h0
  ·exfalso
   unfold ByteArray.toList.loop at h
   rw [if_pos h0] at h
   exact loop_ne s _ 1 _ rfl (by simp) h
 ·intro h
  unfold ByteArray.toList.loop
  rw [if_neg (by omega)];rfl
theorem ref_key (s : ByteArray) (k : Nat) (hk : 60 < k) : cellarerref01_Key.f k s = some (keyB s):=by
 unfold cellarerref01_Key.f keyB
 have e0:=toList_nil s
 by_cases h0 : s.size = 0
 ·rw [if_pos (e0.2 h0),decide_eq_false (by omega)];rfl
 ·rw [if_neg (fun h=>h0 (e0.1 h)),decide_eq_true (show 1 ≤ s.size by omega)]
  by_cases h1 : (s.size : Int) ≤ 60
  ·rw [if_pos h1,decide_eq_true (show s.size ≤ 60 by omega)]
   unfold cellarerref01_keys.f
   rw [show (0 : Int) = ((0 : Nat) : Int) from rfl,ref_keys_l0 s (by omega) s.size k 0 (by omega) (by omega),Option.bind_some];rfl
  ·rw [if_neg h1,decide_eq_false (show ¬ s.size ≤ 60 by omega)];rfl
theorem ref_part (p : S40) : cellarerref08_part.f p.f0 p.f1 = some (mayB p):=by
 unfold cellarerref08_part.f mayB
 by_cases h : 1 ≤ p.f0
 ·by_cases h2 : p.f0 ≤ 1000
  ·rw [if_pos h,if_pos h2,decide_eq_true h,decide_eq_true h2];simp;omega
  ·rw [if_pos h,if_neg h2,decide_eq_false h2];simp
 ·rw [if_neg h,decide_eq_false h];rfl
theorem ref_number (i : Int) : cellarerref08_number.f i = some (numB i):=by
 unfold cellarerref08_number.f numB
 by_cases h : 1 ≤ i
 ·rw [if_pos h,decide_eq_true h];rfl
 ·rw [if_neg h,decide_eq_false h];rfl
theorem ref_one_l0 (u : Int) (key : ByteArray) (l : List S40) (hn : (l.length : Int) ≤ 9223372036854775807) : ∀ (d k i : Nat),d + 61 < k → i + d = l.length → cellarerref08_One.l0 k (i : Int) u key l = some (allFrom (adjB l) i d && (numB u && (keyB key && decide (l.length ≤ 30)))):=by
 intro d
 induction d with
 | zero =>
  intro k i hk hi
  obtain ⟨k,rfl⟩ : ∃ j,k = j + 1:=⟨k - 1,by omega⟩
  simp only [cellarerref08_One.l0]
  rw [if_neg (by omega),ref_number,Option.bind_some,ref_key key k (by omega),Option.bind_some]
  show _ = some (true && _)
  rw [Bool.true_and]
  cases numB u
  ·rfl
  ·rw [if_pos rfl]
   cases keyB key
   ·rfl
   ·rw [if_pos rfl];simp;omega
 | succ d ih =>
  intro k i hk hi
  obtain ⟨k,rfl⟩ : ∃ j,k = j + 1:=⟨k - 1,by omega⟩
  have hw : wrap64 ((i : Int) + 1) = ((i + 1 : Nat) : Int):=by rw [wrap64_of (by omega) (by omega)];omega
  have e1 : rd_T40 l (i : Int) = l.getD i z40:=by unfold rd_T40;rw [Int.toNat_natCast]
  simp only [cellarerref08_One.l0]
  rw [if_pos (by omega),if_pos (by omega),e1,ref_part,Option.bind_some,hw]
  show _ = some ((adjB l i && allFrom (adjB l) (i + 1) d) && _)
  unfold adjB
  cases hm : mayB (l.getD i z40)
  ·rfl
  ·rw [if_pos rfl]
   by_cases hi0 : i = 0
   ·subst hi0
    rw [if_neg (by decide),ih k 1 (by omega) (by omega)];rfl
   ·have e2 : rd_T40 l ((i : Int) - 1) = l.getD (i - 1) z40:=by unfold rd_T40;rw [show ((i : Int) - 1).toNat = i - 1 by omega]
    rw [if_pos (by omega),wrap64_of (x:=(i : Int) - 1) (by omega) (by omega),if_pos (by omega),if_pos (by omega),e2]
    by_cases hl : (l.getD i z40).f0 ≤ (l.getD (i - 1) z40).f0
    ·rw [if_pos hl,decide_eq_false hi0,decide_eq_false (show ¬ (l.getD (i - 1) z40).f0 < (l.getD i z40).f0 by omega)];rfl
    ·rw [if_neg hl,ih k (i + 1) (by omega) (by omega),decide_eq_false hi0,decide_eq_true (show (l.getD (i - 1) z40).f0 < (l.getD i z40).f0 by omega)];rfl
theorem ref_one (u : Int) (key : ByteArray) (l : List S40) (hn : (l.length : Int) ≤ 9223372036854775807) (k : Nat) (hk : l.length + 61 < k) : cellarerref08_One.f k u key l = some (fineB u key l):=by
 unfold cellarerref08_One.f fineB
 rw [show (0 : Int) = ((0 : Nat) : Int) from rfl,ref_one_l0 u key l hn l.length k 0 hk (by omega)]
 cases allFrom (adjB l) 0 l.length <;> cases numB u <;> cases keyB key <;> simp
theorem rdU (l : List S101) (i : Nat) : rd_T101 l (i : Int) = l.getD i z101:=by unfold rd_T101;rw [Int.toNat_natCast]
theorem ref_may_l0 (l : List S101) (hn : (l.length : Int) ≤ 9223372036854775807) (K : Nat) (hK : ∀ j,j < l.length → (l.getD j z101).f2.length + 62 ≤ K ∧ ((l.getD j z101).f2.length : Int) ≤ 9223372036854775807) : ∀ (d k i : Nat),i + d = l.length → K + d < k →
  cellarerref08_May.l0 k l (i : Int) = some (allFrom (adjU l) i d && decide (l.length ≤ 10)):=by
 intro d
 induction d with
 | zero =>
  intro k i hi hk
  obtain ⟨k,rfl⟩ : ∃ j,k = j + 1:=⟨k - 1,by omega⟩
  simp only [cellarerref08_May.l0]
  rw [if_neg (by omega)]
  show _ = some (true && _)
  rw [Bool.true_and];congr 1
  by_cases h : l.length ≤ 10
  ·rw [decide_eq_true h,decide_eq_true (by omega)]
  ·rw [decide_eq_false h,decide_eq_false (by omega)]
 | succ d ih =>
  intro k i hi hk
  obtain ⟨k,rfl⟩ : ∃ j,k = j + 1:=⟨k - 1,by omega⟩
  have hw : wrap64 ((i : Int) + 1) = ((i + 1 : Nat) : Int):=by rw [wrap64_of (by omega) (by omega)];omega
  obtain ⟨k1,k2⟩:=hK i (by omega)
  simp only [cellarerref08_May.l0]
  rw [if_pos (by omega),if_pos (by omega),rdU,ref_one _ _ _ k2 k (by omega),Option.bind_some,hw]
  show _ = some ((adjU l i && allFrom (adjU l) (i + 1) d) && _)
  unfold adjU
  cases hm : fineB (l.getD i z101).f0 (l.getD i z101).f1 (l.getD i z101).f2
  ·rfl
  ·rw [if_pos rfl]
   by_cases hi0 : i = 0
   ·subst hi0
    rw [if_neg (by decide),ih k 1 (by omega) (by omega)];rfl
   ·have e2 : rd_T101 l ((i : Int) - 1) = l.getD (i - 1) z101:=by unfold rd_T101;rw [show ((i : Int) - 1).toNat = i - 1 by omega]
    rw [if_pos (by omega),wrap64_of (x:=(i : Int) - 1) (by omega) (by omega),if_pos (by omega),if_pos (by omega),e2]
    by_cases hl : (l.getD i z101).f0 ≤ (l.getD (i - 1) z101).f0
    ·rw [if_pos hl,decide_eq_false hi0,decide_eq_false (show ¬ (l.getD (i - 1) z101).f0 < (l.getD i z101).f0 by omega)];rfl
    ·rw [if_neg hl,ih k (i + 1) (by omega) (by omega),decide_eq_false hi0,decide_eq_true (show (l.getD (i - 1) z101).f0 < (l.getD i z101).f0 by omega)];rfl
theorem lens_le (l : List S101) : ∃ K,∀ u ∈ l,u.f2.length + 62 ≤ K:=by
 induction l with
 | nil=>exact ⟨0,by simp⟩
 | cons u l ih =>
  obtain ⟨K,hK⟩:=ih
  refine ⟨max K (u.f2.length + 62),fun x hx=>?_⟩
  rcases List.mem_cons.1 hx with rfl | hx
  ·omega
  ·have:=hK x hx;omega
theorem ref_may (l : List S101) (hn : (l.length : Int) ≤ 9223372036854775807) (hi : ∀ u ∈ l,(u.f2.length : Int) ≤ 9223372036854775807) : ∃ K,∀ k,K < k → cellarerref08_May.f k l = some (checkB l):=by
 obtain ⟨K,hK⟩:=lens_le l
 refine ⟨K + l.length,fun k hk=>?_⟩
 unfold cellarerref08_May.f checkB
 have:=ref_may_l0 l hn K (fun j hj=>by
  rw [List.getD_eq_getElem?_getD,List.getElem?_eq_getElem hj]
  exact ⟨hK _ (List.getElem_mem hj),hi _ (List.getElem_mem hj)⟩) l.length k 0 (by omega) hk
 rw [show ((0 : Nat) : Int) = 0 from rfl] at this
 rw [this,Bool.and_comm]
end
section
attribute [local go_sem] Oper.semAt_some
theorem rbucket.walk (s : ByteArray) (w : World) :
  Calls Tryz.prog 55 #[.string s] w fun e w'=>(∃ m : Bool,e = .returned (.bool m)) ∧ Below w.heap.size w w':=by
 have HB:=zh (Below.refl w.heap.size w)
 by_cases h3 : s.size < 3
 ·have v3 : decide ((s.size : Int) < 3) = true:=decide_eq_true (by omega)
  go_enter Tryz.func55,Tryz.ntmps55
  go_wp2
  go_ret
  exact ⟨⟨_,rfl⟩,HB.out⟩
 have v3 : decide ((s.size : Int) < 3) = false:=decide_eq_false (by omega)
 by_cases h20 : 20 < s.size
 ·have v20 : decide (20 < (s.size : Int)) = true:=decide_eq_true (by omega)
  go_enter Tryz.func55,Tryz.ntmps55
  go_wp2
  go_ret
  exact ⟨⟨_,rfl⟩,HB.out⟩
 have v20 : decide (20 < (s.size : Int)) = false:=decide_eq_false (by omega)
 go_enter Tryz.func55,Tryz.ntmps55
 go_wp2
 go_loopw [3] (fun i wr=>∃ (k : Nat),i = .int .i64 k ∧ k ≤ s.size ∧ Hid (Below w.heap.size w wr)) (fun i _=>s.size - (intOf i).toNat)
 case atStart=>exact ⟨0,rfl,Nat.zero_le _,HB⟩
 case round =>
  clear HB
  obtain ⟨k,rfl,hk,HB⟩:=hrel
  by_cases hlt : k < s.size
  ·have p1 : decide ((k : Int) < (s.size : Int)) = true:=decide_eq_true (by omega)
   have hsz : (s.size : Int) ≤ 20:=by omega
   have p4 : (0 ≤ (k : Int)) = True:=eq_true (by omega)
   have q4 : ((k : Int) < (s.size : Int)) = True:=eq_true (by omega)
   obtain ⟨c,hx4⟩ : ∃ c : Int,((s[k]'hlt).toNat : Int) = c:=⟨_,rfl⟩
   have hw : IntKind.i64.wrap ((s.size : Int) - 1) = (s.size : Int) - 1:=by rw [i64_w,wrap64_of (by omega) (by omega)]
   by_cases k0_ : k = 0
   ·have y0 : (((k : Int)) == (0)) = true:=beq_iff_eq.2 (by omega)
    by_cases hc0 : 97 ≤ c
    ·by_cases hc1 : c ≤ 122
     ·have hc2:=hc0;have hc3:=hc0;have hc4:=hc0
      have x0 : decide (97 ≤ c) = true:=decide_eq_true (by omega)
      have x1 : decide (c ≤ 122) = true:=decide_eq_true (by omega)
      have x2 : decide (48 ≤ c) = true:=decide_eq_true (by omega)
      have x3 : decide (c ≤ 57) = false:=decide_eq_false (by omega)
      have x4 : ((c) == (45)) = false:=beq_eq_false_iff_ne.2 (by omega)
      clear hc0 hc1 hc2 hc3 hc4 h3 h20 k0_
      go_wp2
      go_roundw
      case rel=>exact ⟨k + 1,by go_num,hlt,HB⟩
      case measure=>simp [intOf];omega
     ·have hc2:=hc0;have hc3:=hc0;have hc4:=hc0
      have x0 : decide (97 ≤ c) = true:=decide_eq_true (by omega)
      have x1 : decide (c ≤ 122) = false:=decide_eq_false (by omega)
      have x2 : decide (48 ≤ c) = true:=decide_eq_true (by omega)
      have x3 : decide (c ≤ 57) = false:=decide_eq_false (by omega)
      have x4 : ((c) == (45)) = false:=beq_eq_false_iff_ne.2 (by omega)
      clear hc0 hc1 hc2 hc3 hc4 h3 h20 k0_
      go_wp2
      go_ret
      exact ⟨⟨_,rfl⟩,HB.out⟩
    ·have hc1:=hc0
     by_cases hc2 : 48 ≤ c
     ·have hc4:=hc0
      by_cases hc3 : c ≤ 57
      ·skip
       have x0 : decide (97 ≤ c) = false:=decide_eq_false (by omega)
       have x1 : decide (c ≤ 122) = true:=decide_eq_true (by omega)
       have x2 : decide (48 ≤ c) = true:=decide_eq_true (by omega)
       have x3 : decide (c ≤ 57) = true:=decide_eq_true (by omega)
       have x4 : ((c) == (45)) = false:=beq_eq_false_iff_ne.2 (by omega)
       clear hc0 hc1 hc2 hc3 hc4 h3 h20 k0_
       go_wp2
       go_roundw
       case rel=>exact ⟨k + 1,by go_num,hlt,HB⟩
       case measure=>simp [intOf];omega
      ·skip
       have x0 : decide (97 ≤ c) = false:=decide_eq_false (by omega)
       have x1 : decide (c ≤ 122) = true:=decide_eq_true (by omega)
       have x2 : decide (48 ≤ c) = true:=decide_eq_true (by omega)
       have x3 : decide (c ≤ 57) = false:=decide_eq_false (by omega)
       have x4 : ((c) == (45)) = false:=beq_eq_false_iff_ne.2 (by omega)
       clear hc0 hc1 hc2 hc3 hc4 h3 h20 k0_
       go_wp2
       go_ret
       exact ⟨⟨_,rfl⟩,HB.out⟩
     ·have hc3:=hc0
      by_cases hc4 : c = 45
      ·skip
       have x0 : decide (97 ≤ c) = false:=decide_eq_false (by omega)
       have x1 : decide (c ≤ 122) = true:=decide_eq_true (by omega)
       have x2 : decide (48 ≤ c) = false:=decide_eq_false (by omega)
       have x3 : decide (c ≤ 57) = true:=decide_eq_true (by omega)
       have x4 : ((c) == (45)) = true:=beq_iff_eq.2 (by omega)
       clear hc0 hc1 hc2 hc3 hc4 h3 h20 k0_
       go_wp2
       go_ret
       exact ⟨⟨_,rfl⟩,HB.out⟩
      ·skip
       have x0 : decide (97 ≤ c) = false:=decide_eq_false (by omega)
       have x1 : decide (c ≤ 122) = true:=decide_eq_true (by omega)
       have x2 : decide (48 ≤ c) = false:=decide_eq_false (by omega)
       have x3 : decide (c ≤ 57) = true:=decide_eq_true (by omega)
       have x4 : ((c) == (45)) = false:=beq_eq_false_iff_ne.2 (by omega)
       clear hc0 hc1 hc2 hc3 hc4 h3 h20 k0_
       go_wp2
       go_ret
       exact ⟨⟨_,rfl⟩,HB.out⟩
   have y0 : ((k : Int) == 0) = false:=beq_eq_false_iff_ne.2 (by omega)
   clear k0_
   by_cases k0_ : k + 1 = s.size
   ·have y1 : (((k : Int)) == ((s.size : Int) - 1)) = true:=beq_iff_eq.2 (by omega)
    by_cases hc0 : 97 ≤ c
    ·by_cases hc1 : c ≤ 122
     ·have hc2:=hc0;have hc3:=hc0;have hc4:=hc0
      have x0 : decide (97 ≤ c) = true:=decide_eq_true (by omega)
      have x1 : decide (c ≤ 122) = true:=decide_eq_true (by omega)
      have x2 : decide (48 ≤ c) = true:=decide_eq_true (by omega)
      have x3 : decide (c ≤ 57) = false:=decide_eq_false (by omega)
      have x4 : ((c) == (45)) = false:=beq_eq_false_iff_ne.2 (by omega)
      clear hc0 hc1 hc2 hc3 hc4 h3 h20 k0_
      go_wp2
      go_roundw
      case rel=>exact ⟨k + 1,by go_num,hlt,HB⟩
      case measure=>simp [intOf];omega
     ·have hc2:=hc0;have hc3:=hc0;have hc4:=hc0
      have x0 : decide (97 ≤ c) = true:=decide_eq_true (by omega)
      have x1 : decide (c ≤ 122) = false:=decide_eq_false (by omega)
      have x2 : decide (48 ≤ c) = true:=decide_eq_true (by omega)
      have x3 : decide (c ≤ 57) = false:=decide_eq_false (by omega)
      have x4 : ((c) == (45)) = false:=beq_eq_false_iff_ne.2 (by omega)
      clear hc0 hc1 hc2 hc3 hc4 h3 h20 k0_
      go_wp2
      go_ret
      exact ⟨⟨_,rfl⟩,HB.out⟩
    ·have hc1:=hc0
     by_cases hc2 : 48 ≤ c
     ·have hc4:=hc0
      by_cases hc3 : c ≤ 57
      ·skip
       have x0 : decide (97 ≤ c) = false:=decide_eq_false (by omega)
       have x1 : decide (c ≤ 122) = true:=decide_eq_true (by omega)
       have x2 : decide (48 ≤ c) = true:=decide_eq_true (by omega)
       have x3 : decide (c ≤ 57) = true:=decide_eq_true (by omega)
       have x4 : ((c) == (45)) = false:=beq_eq_false_iff_ne.2 (by omega)
       clear hc0 hc1 hc2 hc3 hc4 h3 h20 k0_
       go_wp2
       go_roundw
       case rel=>exact ⟨k + 1,by go_num,hlt,HB⟩
       case measure=>simp [intOf];omega
      ·skip
       have x0 : decide (97 ≤ c) = false:=decide_eq_false (by omega)
       have x1 : decide (c ≤ 122) = true:=decide_eq_true (by omega)
       have x2 : decide (48 ≤ c) = true:=decide_eq_true (by omega)
       have x3 : decide (c ≤ 57) = false:=decide_eq_false (by omega)
       have x4 : ((c) == (45)) = false:=beq_eq_false_iff_ne.2 (by omega)
       clear hc0 hc1 hc2 hc3 hc4 h3 h20 k0_
       go_wp2
       go_ret
       exact ⟨⟨_,rfl⟩,HB.out⟩
     ·have hc3:=hc0
      by_cases hc4 : c = 45
      ·skip
       have x0 : decide (97 ≤ c) = false:=decide_eq_false (by omega)
       have x1 : decide (c ≤ 122) = true:=decide_eq_true (by omega)
       have x2 : decide (48 ≤ c) = false:=decide_eq_false (by omega)
       have x3 : decide (c ≤ 57) = true:=decide_eq_true (by omega)
       have x4 : ((c) == (45)) = true:=beq_iff_eq.2 (by omega)
       clear hc0 hc1 hc2 hc3 hc4 h3 h20 k0_
       go_wp2
       go_ret
       exact ⟨⟨_,rfl⟩,HB.out⟩
      ·skip
       have x0 : decide (97 ≤ c) = false:=decide_eq_false (by omega)
       have x1 : decide (c ≤ 122) = true:=decide_eq_true (by omega)
       have x2 : decide (48 ≤ c) = false:=decide_eq_false (by omega)
       have x3 : decide (c ≤ 57) = true:=decide_eq_true (by omega)
       have x4 : ((c) == (45)) = false:=beq_eq_false_iff_ne.2 (by omega)
       clear hc0 hc1 hc2 hc3 hc4 h3 h20 k0_
       go_wp2
       go_ret
       exact ⟨⟨_,rfl⟩,HB.out⟩
   have y1 : ((k : Int) == (s.size : Int) - 1) = false:=beq_eq_false_iff_ne.2 (by omega)
   by_cases hc0 : 97 ≤ c
   ·by_cases hc1 : c ≤ 122
    ·have hc2:=hc0;have hc3:=hc0;have hc4:=hc0
     have x0 : decide (97 ≤ c) = true:=decide_eq_true (by omega)
     have x1 : decide (c ≤ 122) = true:=decide_eq_true (by omega)
     have x2 : decide (48 ≤ c) = true:=decide_eq_true (by omega)
     have x3 : decide (c ≤ 57) = false:=decide_eq_false (by omega)
     have x4 : ((c) == (45)) = false:=beq_eq_false_iff_ne.2 (by omega)
     clear hc0 hc1 hc2 hc3 hc4 h3 h20 k0_
     go_wp2
     go_roundw
     case rel=>exact ⟨k + 1,by go_num,hlt,HB⟩
     case measure=>simp [intOf];omega
    ·have hc2:=hc0;have hc3:=hc0;have hc4:=hc0
     have x0 : decide (97 ≤ c) = true:=decide_eq_true (by omega)
     have x1 : decide (c ≤ 122) = false:=decide_eq_false (by omega)
     have x2 : decide (48 ≤ c) = true:=decide_eq_true (by omega)
     have x3 : decide (c ≤ 57) = false:=decide_eq_false (by omega)
     have x4 : ((c) == (45)) = false:=beq_eq_false_iff_ne.2 (by omega)
     clear hc0 hc1 hc2 hc3 hc4 h3 h20 k0_
     go_wp2
     go_ret
     exact ⟨⟨_,rfl⟩,HB.out⟩
   ·have hc1:=hc0
    by_cases hc2 : 48 ≤ c
    ·have hc4:=hc0
     by_cases hc3 : c ≤ 57
     ·skip
      have x0 : decide (97 ≤ c) = false:=decide_eq_false (by omega)
      have x1 : decide (c ≤ 122) = true:=decide_eq_true (by omega)
      have x2 : decide (48 ≤ c) = true:=decide_eq_true (by omega)
      have x3 : decide (c ≤ 57) = true:=decide_eq_true (by omega)
      have x4 : ((c) == (45)) = false:=beq_eq_false_iff_ne.2 (by omega)
      clear hc0 hc1 hc2 hc3 hc4 h3 h20 k0_
      go_wp2
      go_roundw
      case rel=>exact ⟨k + 1,by go_num,hlt,HB⟩
      case measure=>simp [intOf];omega
     ·skip
      have x0 : decide (97 ≤ c) = false:=decide_eq_false (by omega)
      have x1 : decide (c ≤ 122) = true:=decide_eq_true (by omega)
      have x2 : decide (48 ≤ c) = true:=decide_eq_true (by omega)
      have x3 : decide (c ≤ 57) = false:=decide_eq_false (by omega)
      have x4 : ((c) == (45)) = false:=beq_eq_false_iff_ne.2 (by omega)
      clear hc0 hc1 hc2 hc3 hc4 h3 h20 k0_
      go_wp2
      go_ret
      exact ⟨⟨_,rfl⟩,HB.out⟩
    ·have hc3:=hc0
     by_cases hc4 : c = 45
     ·skip
      have x0 : decide (97 ≤ c) = false:=decide_eq_false (by omega)
      have x1 : decide (c ≤ 122) = true:=decide_eq_true (by omega)
      have x2 : decide (48 ≤ c) = false:=decide_eq_false (by omega)
      have x3 : decide (c ≤ 57) = true:=decide_eq_true (by omega)
      have x4 : ((c) == (45)) = true:=beq_iff_eq.2 (by omega)
      clear hc0 hc1 hc2 hc3 hc4 h3 h20 k0_
      go_wp2
      go_roundw
      case rel=>exact ⟨k + 1,by go_num,hlt,HB⟩
      case measure=>simp [intOf];omega
     ·skip
      have x0 : decide (97 ≤ c) = false:=decide_eq_false (by omega)
      have x1 : decide (c ≤ 122) = true:=decide_eq_true (by omega)
      have x2 : decide (48 ≤ c) = false:=decide_eq_false (by omega)
      have x3 : decide (c ≤ 57) = true:=decide_eq_true (by omega)
      have x4 : ((c) == (45)) = false:=beq_eq_false_iff_ne.2 (by omega)
      clear hc0 hc1 hc2 hc3 hc4 h3 h20 k0_
      go_wp2
      go_ret
      exact ⟨⟨_,rfl⟩,HB.out⟩
  ·have p1 : decide ((k : Int) < (s.size : Int)) = false:=decide_eq_false (by omega)
   go_wp2
   go_ret
   exact ⟨⟨_,rfl⟩,HB.out⟩
end
section
attribute [local go_sem] Oper.semAt_some
theorem rmay5 (x : S47) : ∃ m,cellarerref05_May.f x.f0 x.f1 x.f2 x.f3 = some m:=by
 unfold cellarerref05_May.f
 repeat' split
 all_goals exact ⟨_,rfl⟩
theorem rcheck.walk (A : Option Addr) (c : Nat) (l : List S47) (w : World) (hr : Kd.C k47 w A l.length l) :
  Calls Tryz.prog 112 #[.slice A l.length c] w fun e w'=>(∃ m : Bool,e = .returned (.bool m)) ∧ Below w.heap.size w w':=by
 have HR:=zh hr
 have hlen : (l.length : Int) ≤ 9223372036854775807:=by have:=hr.2.1;omega
 have HB:=zh (Below.refl w.heap.size w)
 clear hr
 go_enter Tryz.func112,Tryz.ntmps112
 go_wp2
 go_loopw [3] (fun i wr=>∃ (k : Nat),i = .int .i64 k ∧ k ≤ l.length ∧ Hid (Below w.heap.size w wr)) (fun i _=>l.length - (intOf i).toNat)
 case atStart=>exact ⟨0,rfl,Nat.zero_le _,HB⟩
 case round =>
  clear HB
  obtain ⟨k,rfl,hk,hb⟩:=hrel
  by_cases hlt : k < l.length
  ·have t0 : decide ((k : Int) < (l.length : Int)) = true:=decide_eq_true (by omega)
   have u2 : (0 : Int) ≤ (k : Int):=by omega
   have u3 : (k : Int) < (l.length : Int):=by omega
   obtain ⟨ad,e',c0,c1,c2,c3⟩:=atVersion HR.out hb.out k hlt
   subst e'
   obtain ⟨m,hm⟩:=rmay5 l[k]
   have HM:=zh hm
   clear hm
   generalize hx9 : l[k] = x at *
   cases m
   ·clear hx9
    go_wp2
    skip
    refine wp_region_held_drew (S:=fun W=>W.cell? (ad.add (k * 4)) = some (.int .u64 x.f0) ∧ W.cell? ⟨(ad.add (k * 4)).block,(ad.add (k * 4)).off + 1,none⟩ = some (.string x.f1) ∧ W.cell? ⟨(ad.add (k * 4)).block,(ad.add (k * 4)).off + 2,none⟩ = some (.bool x.f2) ∧ W.cell? ⟨(ad.add (k * 4)).block,(ad.add (k * 4)).off + 3,none⟩ = some (.int .i64 x.f3) ∧ Hid (Below wr.heap.size wr W)) (by kernel_rfl) ?_ (fun hHeld=>?_)
    ·exact ⟨keepc ((Below.refl wr.heap.size wr).drew) c0,keepc ((Below.refl wr.heap.size wr).drew) c1,keepc ((Below.refl wr.heap.size wr).drew) c2,keepc ((Below.refl wr.heap.size wr).drew) c3,((Below.refl wr.heap.size wr).drew)⟩
    refine zt 0 ?_;try simp only [zN];refine zt 1 ?_;try simp only [zN];refine zt 2 ?_;try simp only [zN];refine zt 3 ?_;try simp only [zN]
    refine wpAnyH_ready (rs:=[4]) (by kernel_rfl) (by simp) ?_
    refine AllReadyH.cons (o:=_) rfl (fun K hK=>?_) AllReadyH.nil
    rw [if_pos (by rfl)]
    go_simp
    obtain ⟨s0,s1,s2,s3,s4⟩:=hHeld
    refine (cellarerref05_May.calls x.f0 x.f1 x.f2 x.f3 false _ HM.out).mono ?_
    rintro e8 w8 ⟨rfl,hb8⟩
    refine hK.out _ _ ⟨keepc hb8 s0,keepc hb8 s1,keepc hb8 s2,keepc hb8 s3,keepB s4 hb8⟩ (fun hHeld=>?_)
    clear hK K hb8 s0 s1 s2 s3 s4
    try simp only [zN]
    refine zt 5 ?_;try simp only [zN];refine zt 6 ?_;try simp only [zN];refine zu 7 ?_;try simp only [zN];refine zu 8 ?_;try simp only [zN];refine zu 9 ?_;try simp only [zN];refine zu 10 ?_;try simp only [zN];refine zu 11 ?_;try simp only [zN];refine zu 12 ?_;try simp only [zN];refine zu 13 ?_;try simp only [zN];refine zu 14 ?_;try simp only [zN];refine zu 15 ?_;try simp only [zN];refine zu 16 ?_;try simp only [zN];refine zu 17 ?_;try simp only [zN];refine zu 18 ?_;try simp only [zN];refine zu 19 ?_;try simp only [zN];refine zu 20 ?_;try simp only [zN];refine zu 21 ?_;try simp only [zN];refine zu 22 ?_;try simp only [zN];refine zt 23 ?_;try simp only [zN]
    refine wpAnyH_done (by kernel_rfl) ?_ _
    have HW:=keepB hb hHeld.2.2.2.2
    clear hHeld
    go_wp2
    go_ret
    exact ⟨⟨_,rfl⟩,HW.out⟩
   ·by_cases h0 : 0 < k
    ·have jl : k - 1 < l.length:=by omega
     obtain ⟨ad3,e3,-,-,-,d3⟩:=atVersion HR.out hb.out (k - 1) jl
     injection e3 with e3
     subst e3
     have e1 : IntKind.i64.wrap ((k : Int) - 1) = ((k - 1 : Nat) : Int):=by rw [i64_w,wrap64_of (by omega) (by omega)];omega
     have h0d : decide (0 < (k : Int)) = true:=decide_eq_true (by omega)
     have h0e : decide (0 < k) = true:=decide_eq_true h0
     have u4 : (0 : Int) ≤ ((k - 1 : Nat) : Int):=by omega
     have u5 : ((k - 1 : Nat) : Int) < (l.length : Int):=by omega
     generalize hj9 : k - 1 = j at *
     generalize hq9 : l[j].f3 = q at *
     by_cases hup : q < x.f3
     ·have hup2 : decide (q < x.f3) = true:=decide_eq_true hup
      clear hx9 hq9 hj9
      go_wp2
      skip
      refine wp_region_held_drew (S:=fun W=>W.cell? ⟨(ad.add (j * 4)).block,(ad.add (j * 4)).off + 3,none⟩ = some (.int .i64 q) ∧ W.cell? (ad.add (k * 4)) = some (.int .u64 x.f0) ∧ W.cell? ⟨(ad.add (k * 4)).block,(ad.add (k * 4)).off + 1,none⟩ = some (.string x.f1) ∧ W.cell? ⟨(ad.add (k * 4)).block,(ad.add (k * 4)).off + 2,none⟩ = some (.bool x.f2) ∧ W.cell? ⟨(ad.add (k * 4)).block,(ad.add (k * 4)).off + 3,none⟩ = some (.int .i64 x.f3) ∧ Hid (Below wr.heap.size wr W)) (by kernel_rfl) ?_ (fun hHeld=>?_)
      ·exact ⟨keepc ((Below.refl wr.heap.size wr).drew) d3,keepc ((Below.refl wr.heap.size wr).drew) c0,keepc ((Below.refl wr.heap.size wr).drew) c1,keepc ((Below.refl wr.heap.size wr).drew) c2,keepc ((Below.refl wr.heap.size wr).drew) c3,((Below.refl wr.heap.size wr).drew)⟩
      refine zt 0 ?_;try simp only [zN];refine zt 1 ?_;try simp only [zN];refine zt 2 ?_;try simp only [zN];refine zt 3 ?_;try simp only [zN]
      refine wpAnyH_ready (rs:=[4]) (by kernel_rfl) (by simp) ?_
      refine AllReadyH.cons (o:=_) rfl (fun K hK=>?_) AllReadyH.nil
      rw [if_pos (by rfl)]
      go_simp
      obtain ⟨s0,s1,s2,s3,s4,s5⟩:=hHeld
      refine (cellarerref05_May.calls x.f0 x.f1 x.f2 x.f3 true _ HM.out).mono ?_
      rintro e8 w8 ⟨rfl,hb8⟩
      refine hK.out _ _ ⟨keepc hb8 s0,keepc hb8 s1,keepc hb8 s2,keepc hb8 s3,keepc hb8 s4,keepB s5 hb8⟩ (fun hHeld=>?_)
      clear hK K hb8 s0 s1 s2 s3 s4 s5
      try simp only [zN]
      refine zt 5 ?_;try simp only [zN];refine zt 6 ?_;try simp only [zN];refine zt 7 ?_;try simp only [zN];refine zt 8 ?_;try simp only [zN];refine zt 9 ?_;try simp only [zN];refine zt 10 ?_;try simp only [zN];refine zt 11 ?_;try simp only [zN];refine zt 12 ?_;try simp only [zN];refine zt 13 ?_;try simp only [zN];refine zt 14 ?_;try simp only [zN];refine zt 15 ?_;try simp only [zN];refine zt 16 ?_;try simp only [zN];refine zt 17 ?_;try simp only [zN];refine zt 18 ?_;try simp only [zN];refine zt 19 ?_;try simp only [zN];refine zt 20 ?_;try simp only [zN];refine zt 21 ?_;try simp only [zN];refine zt 22 ?_;try simp only [zN];refine zt 23 ?_;try simp only [zN]
      refine wpAnyH_done (by kernel_rfl) ?_ _
      have HW:=keepB hb hHeld.2.2.2.2.2
      clear hHeld
      go_wp2
      go_ret
      exact ⟨⟨_,rfl⟩,HW.out⟩
     ·have hup2 : decide (q < x.f3) = false:=decide_eq_false hup
      clear hq9 hj9
      go_wp2
      skip
      refine wp_region_held_drew (S:=fun W=>W.cell? ⟨(ad.add (j * 4)).block,(ad.add (j * 4)).off + 3,none⟩ = some (.int .i64 q) ∧ W.cell? (ad.add (k * 4)) = some (.int .u64 x.f0) ∧ W.cell? ⟨(ad.add (k * 4)).block,(ad.add (k * 4)).off + 1,none⟩ = some (.string x.f1) ∧ W.cell? ⟨(ad.add (k * 4)).block,(ad.add (k * 4)).off + 2,none⟩ = some (.bool x.f2) ∧ W.cell? ⟨(ad.add (k * 4)).block,(ad.add (k * 4)).off + 3,none⟩ = some (.int .i64 x.f3) ∧ Hid (Below wr.heap.size wr W)) (by kernel_rfl) ?_ (fun hHeld=>?_)
      ·exact ⟨keepc ((Below.refl wr.heap.size wr).drew) d3,keepc ((Below.refl wr.heap.size wr).drew) c0,keepc ((Below.refl wr.heap.size wr).drew) c1,keepc ((Below.refl wr.heap.size wr).drew) c2,keepc ((Below.refl wr.heap.size wr).drew) c3,((Below.refl wr.heap.size wr).drew)⟩
      refine zt 0 ?_;try simp only [zN];refine zt 1 ?_;try simp only [zN];refine zt 2 ?_;try simp only [zN];refine zt 3 ?_;try simp only [zN]
      refine wpAnyH_ready (rs:=[4]) (by kernel_rfl) (by simp) ?_
      refine AllReadyH.cons (o:=_) rfl (fun K hK=>?_) AllReadyH.nil
      rw [if_pos (by rfl)]
      go_simp
      obtain ⟨s0,s1,s2,s3,s4,s5⟩:=hHeld
      refine (cellarerref05_May.calls x.f0 x.f1 x.f2 x.f3 true _ HM.out).mono ?_
      rintro e8 w8 ⟨rfl,hb8⟩
      refine hK.out _ _ ⟨keepc hb8 s0,keepc hb8 s1,keepc hb8 s2,keepc hb8 s3,keepc hb8 s4,keepB s5 hb8⟩ (fun hHeld=>?_)
      clear hK K hb8 s0 s1 s2 s3 s4 s5
      try simp only [zN]
      refine zt 5 ?_;try simp only [zN];refine zt 6 ?_;try simp only [zN];refine zt 7 ?_;try simp only [zN];refine zt 8 ?_;try simp only [zN];refine zt 9 ?_;try simp only [zN];refine zt 10 ?_;try simp only [zN];refine zt 11 ?_;try simp only [zN];refine zt 12 ?_;try simp only [zN];refine zt 13 ?_;try simp only [zN];refine zt 14 ?_;try simp only [zN];refine zt 15 ?_;try simp only [zN];refine zt 16 ?_;try simp only [zN];refine zt 17 ?_;try simp only [zN];refine zt 18 ?_;try simp only [zN];refine zt 19 ?_;try simp only [zN];refine zt 20 ?_;try simp only [zN];refine zt 21 ?_;try simp only [zN];refine zt 22 ?_;try simp only [zN];refine zt 23 ?_;try simp only [zN]
      refine wpAnyH_done (by kernel_rfl) ?_ _
      clear u4 u5 e1 h0d h0e hup hup2 d3 jl h0
      subst hx9
      have HW0:=keepB hb hHeld.2.2.2.2.2
      clear hHeld
      go_wp2
      go_loopw [4] (fun i wr=>∃ (j : Nat),i = .int .i64 j ∧ j ≤ k ∧ Hid (Below w.heap.size w wr)) (fun i _=>k - (intOf i).toNat)
      case atStart=>exact ⟨0,rfl,Nat.zero_le _,HW0⟩
      case round =>
       clear hb c0 c1 c2 c3 HW0
       obtain ⟨j,rfl,hj,hb⟩:=hrel
       by_cases hjk : j < k
       ·have jl : j < l.length:=by omega
        obtain ⟨ad1,e1,c0,-,-,-⟩:=atVersion HR.out hb.out k hlt
        injection e1 with e1
        subst e1
        obtain ⟨ad2,e2,d0,-,-,-⟩:=atVersion HR.out hb.out j jl
        injection e2 with e2
        subst e2
        have t1 : decide ((j : Int) < (k : Int)) = true:=decide_eq_true (by omega)
        have u0 : (0 : Int) ≤ (j : Int):=by omega
        have u1 : (j : Int) < (l.length : Int):=by omega
        have u2 : (0 : Int) ≤ (k : Int):=by omega
        have u3 : (k : Int) < (l.length : Int):=by omega
        generalize hq9 : l[j].f0 = q at *
        generalize hp9 : l[k].f0 = p at *
        clear hq9 hp9
        by_cases h1 : p = 0
        ·have v1 : (p == 0) = true:=beq_iff_eq.2 (by omega);have v1n : (p != 0) = false:=by unfold bne;rw [v1];rfl
         have h3:=h1
         by_cases h2 : q = 0
         ·have v2 : (q == 0) = true:=beq_iff_eq.2 (by omega);have v2n : (q != 0) = false:=by unfold bne;rw [v2];rfl
          clear h1 h2 h3
          go_wp2
          skip
          refine wp_region_held_drew (S:=fun W=>W.cell? (ad.add (k * 4)) = some (.int .u64 p) ∧ W.cell? (ad.add (j * 4)) = some (.int .u64 q) ∧ Hid (Below wr.heap.size wr W)) (by kernel_rfl) ?_ (fun hHeld=>?_)
          ·exact ⟨keepc ((Below.refl wr.heap.size wr).drew) c0,keepc ((Below.refl wr.heap.size wr).drew) d0,((Below.refl wr.heap.size wr).drew)⟩
          refine zt 0 ?_;try simp only [zN];refine zt 1 ?_;try simp only [zN];refine zt 2 ?_;try simp only [zN];refine zt 3 ?_;try simp only [zN];refine zt 4 ?_;try simp only [zN];refine zt 5 ?_;try simp only [zN];refine zt 6 ?_;try simp only [zN];refine zt 7 ?_;try simp only [zN];refine zt 8 ?_;try simp only [zN];refine zt 9 ?_;try simp only [zN];refine zt 10 ?_;try simp only [zN];refine zt 11 ?_;try simp only [zN];refine zt 12 ?_;try simp only [zN];refine zt 13 ?_;try simp only [zN];refine zt 14 ?_;try simp only [zN];refine zu 15 ?_;try simp only [zN];refine zu 16 ?_;try simp only [zN];refine zu 17 ?_;try simp only [zN];refine zu 18 ?_;try simp only [zN];refine zu 19 ?_;try simp only [zN];refine zu 20 ?_;try simp only [zN];refine zu 21 ?_;try simp only [zN];refine zu 22 ?_;try simp only [zN];refine zu 23 ?_;try simp only [zN];refine zu 24 ?_;try simp only [zN];refine zu 25 ?_;try simp only [zN]
          refine zu 26 ?_;try simp only [zN];refine zu 27 ?_;try simp only [zN];refine zu 28 ?_;try simp only [zN];refine zu 29 ?_;try simp only [zN];refine zu 30 ?_;try simp only [zN];refine zu 31 ?_;try simp only [zN];refine zu 32 ?_;try simp only [zN];refine zu 33 ?_;try simp only [zN];refine zu 34 ?_;try simp only [zN];refine zu 35 ?_;try simp only [zN];refine zu 36 ?_;try simp only [zN];refine zu 37 ?_;try simp only [zN];refine zu 38 ?_;try simp only [zN];refine zu 39 ?_;try simp only [zN];refine zu 40 ?_;try simp only [zN];refine zu 41 ?_;try simp only [zN];refine zt 42 ?_;try simp only [zN]
          refine wpAnyH_done (by kernel_rfl) ?_ _
          have HW:=keepB hb hHeld.2.2
          clear hHeld
          go_wp2
          go_ret
          exact ⟨⟨_,rfl⟩,HW.out⟩
         ·have v2 : (q == 0) = false:=beq_eq_false_iff_ne.2 (by omega);have v2n : (q != 0) = true:=by unfold bne;rw [v2];rfl
          clear h1 h2 h3
          go_wp2
          skip
          refine wp_region_held_drew (S:=fun W=>W.cell? (ad.add (k * 4)) = some (.int .u64 p) ∧ W.cell? (ad.add (j * 4)) = some (.int .u64 q) ∧ Hid (Below wr.heap.size wr W)) (by kernel_rfl) ?_ (fun hHeld=>?_)
          ·exact ⟨keepc ((Below.refl wr.heap.size wr).drew) c0,keepc ((Below.refl wr.heap.size wr).drew) d0,((Below.refl wr.heap.size wr).drew)⟩
          refine zt 0 ?_;try simp only [zN];refine zt 1 ?_;try simp only [zN];refine zt 2 ?_;try simp only [zN];refine zt 3 ?_;try simp only [zN];refine zt 4 ?_;try simp only [zN];refine zt 5 ?_;try simp only [zN];refine zt 6 ?_;try simp only [zN];refine zt 7 ?_;try simp only [zN];refine zt 8 ?_;try simp only [zN];refine zt 9 ?_;try simp only [zN];refine zt 10 ?_;try simp only [zN];refine zt 11 ?_;try simp only [zN];refine zt 12 ?_;try simp only [zN];refine zt 13 ?_;try simp only [zN];refine zt 14 ?_;try simp only [zN];refine zt 15 ?_;try simp only [zN];refine zt 16 ?_;try simp only [zN];refine zt 17 ?_;try simp only [zN];refine zt 18 ?_;try simp only [zN];refine zt 19 ?_;try simp only [zN];refine zt 20 ?_;try simp only [zN];refine zt 21 ?_;try simp only [zN];refine zu 22 ?_;try simp only [zN];refine zu 23 ?_;try simp only [zN];refine zu 24 ?_;try simp only [zN];refine zu 25 ?_;try simp only [zN]
          refine zu 26 ?_;try simp only [zN];refine zu 27 ?_;try simp only [zN];refine zt 28 ?_;try simp only [zN];refine zt 29 ?_;try simp only [zN];refine zu 30 ?_;try simp only [zN];refine zu 31 ?_;try simp only [zN];refine zu 32 ?_;try simp only [zN];refine zu 33 ?_;try simp only [zN];refine zu 34 ?_;try simp only [zN];refine zu 35 ?_;try simp only [zN];refine zu 36 ?_;try simp only [zN];refine zu 37 ?_;try simp only [zN];refine zu 38 ?_;try simp only [zN];refine zu 39 ?_;try simp only [zN];refine zu 40 ?_;try simp only [zN];refine zt 41 ?_;try simp only [zN];refine zt 42 ?_;try simp only [zN]
          refine wpAnyH_done (by kernel_rfl) ?_ _
          have HW:=keepB hb hHeld.2.2
          clear hHeld
          go_wp2
          go_roundw
          case rel=>exact ⟨j + 1,by go_num,by omega,HW⟩
          case measure=>simp [intOf];omega
        ·have v1 : (p == 0) = false:=beq_eq_false_iff_ne.2 (by omega);have v1n : (p != 0) = true:=by unfold bne;rw [v1];rfl
         by_cases h2 : q = 0
         ·have v2 : (q == 0) = true:=beq_iff_eq.2 (by omega);have v2n : (q != 0) = false:=by unfold bne;rw [v2];rfl
          have h3:=h1
          clear h1 h2 h3
          go_wp2
          skip
          refine wp_region_held_drew (S:=fun W=>W.cell? (ad.add (k * 4)) = some (.int .u64 p) ∧ W.cell? (ad.add (j * 4)) = some (.int .u64 q) ∧ Hid (Below wr.heap.size wr W)) (by kernel_rfl) ?_ (fun hHeld=>?_)
          ·exact ⟨keepc ((Below.refl wr.heap.size wr).drew) c0,keepc ((Below.refl wr.heap.size wr).drew) d0,((Below.refl wr.heap.size wr).drew)⟩
          refine zt 0 ?_;try simp only [zN];refine zt 1 ?_;try simp only [zN];refine zt 2 ?_;try simp only [zN];refine zt 3 ?_;try simp only [zN];refine zt 4 ?_;try simp only [zN];refine zt 5 ?_;try simp only [zN];refine zt 6 ?_;try simp only [zN];refine zu 7 ?_;try simp only [zN];refine zu 8 ?_;try simp only [zN];refine zu 9 ?_;try simp only [zN];refine zu 10 ?_;try simp only [zN];refine zu 11 ?_;try simp only [zN];refine zu 12 ?_;try simp only [zN];refine zt 13 ?_;try simp only [zN];refine zt 14 ?_;try simp only [zN];refine zt 15 ?_;try simp only [zN];refine zt 16 ?_;try simp only [zN];refine zt 17 ?_;try simp only [zN];refine zt 18 ?_;try simp only [zN];refine zt 19 ?_;try simp only [zN];refine zt 20 ?_;try simp only [zN];refine zt 21 ?_;try simp only [zN];refine zt 22 ?_;try simp only [zN];refine zt 23 ?_;try simp only [zN];refine zt 24 ?_;try simp only [zN];refine zt 25 ?_;try simp only [zN]
          refine zt 26 ?_;try simp only [zN];refine zt 27 ?_;try simp only [zN];refine zt 28 ?_;try simp only [zN];refine zt 29 ?_;try simp only [zN];refine zu 30 ?_;try simp only [zN];refine zu 31 ?_;try simp only [zN];refine zu 32 ?_;try simp only [zN];refine zu 33 ?_;try simp only [zN];refine zu 34 ?_;try simp only [zN];refine zu 35 ?_;try simp only [zN];refine zu 36 ?_;try simp only [zN];refine zu 37 ?_;try simp only [zN];refine zu 38 ?_;try simp only [zN];refine zu 39 ?_;try simp only [zN];refine zu 40 ?_;try simp only [zN];refine zt 41 ?_;try simp only [zN];refine zt 42 ?_;try simp only [zN]
          refine wpAnyH_done (by kernel_rfl) ?_ _
          have HW:=keepB hb hHeld.2.2
          clear hHeld
          go_wp2
          go_roundw
          case rel=>exact ⟨j + 1,by go_num,by omega,HW⟩
          case measure=>simp [intOf];omega
         ·have v2 : (q == 0) = false:=beq_eq_false_iff_ne.2 (by omega);have v2n : (q != 0) = true:=by unfold bne;rw [v2];rfl
          by_cases h3 : q ≤ p
          ·have v3 : decide (q ≤ p) = true:=decide_eq_true h3
           clear h1 h2 h3
           go_wp2
           skip
           refine wp_region_held_drew (S:=fun W=>W.cell? (ad.add (k * 4)) = some (.int .u64 p) ∧ W.cell? (ad.add (j * 4)) = some (.int .u64 q) ∧ Hid (Below wr.heap.size wr W)) (by kernel_rfl) ?_ (fun hHeld=>?_)
           ·exact ⟨keepc ((Below.refl wr.heap.size wr).drew) c0,keepc ((Below.refl wr.heap.size wr).drew) d0,((Below.refl wr.heap.size wr).drew)⟩
           refine zt 0 ?_;try simp only [zN];refine zt 1 ?_;try simp only [zN];refine zt 2 ?_;try simp only [zN];refine zt 3 ?_;try simp only [zN];refine zt 4 ?_;try simp only [zN];refine zt 5 ?_;try simp only [zN];refine zt 6 ?_;try simp only [zN];refine zu 7 ?_;try simp only [zN];refine zu 8 ?_;try simp only [zN];refine zu 9 ?_;try simp only [zN];refine zu 10 ?_;try simp only [zN];refine zu 11 ?_;try simp only [zN];refine zu 12 ?_;try simp only [zN];refine zt 13 ?_;try simp only [zN];refine zt 14 ?_;try simp only [zN];refine zt 15 ?_;try simp only [zN];refine zt 16 ?_;try simp only [zN];refine zt 17 ?_;try simp only [zN];refine zt 18 ?_;try simp only [zN];refine zt 19 ?_;try simp only [zN];refine zt 20 ?_;try simp only [zN];refine zt 21 ?_;try simp only [zN];refine zt 22 ?_;try simp only [zN];refine zt 23 ?_;try simp only [zN];refine zt 24 ?_;try simp only [zN];refine zt 25 ?_;try simp only [zN]
           refine zt 26 ?_;try simp only [zN];refine zt 27 ?_;try simp only [zN];refine zt 28 ?_;try simp only [zN];refine zt 29 ?_;try simp only [zN];refine zt 30 ?_;try simp only [zN];refine zt 31 ?_;try simp only [zN];refine zt 32 ?_;try simp only [zN];refine zt 33 ?_;try simp only [zN];refine zt 34 ?_;try simp only [zN];refine zt 35 ?_;try simp only [zN];refine zt 36 ?_;try simp only [zN];refine zt 37 ?_;try simp only [zN];refine zt 38 ?_;try simp only [zN];refine zt 39 ?_;try simp only [zN];refine zt 40 ?_;try simp only [zN];refine zt 41 ?_;try simp only [zN];refine zt 42 ?_;try simp only [zN]
           refine wpAnyH_done (by kernel_rfl) ?_ _
           have HW:=keepB hb hHeld.2.2
           clear hHeld
           go_wp2
           go_ret
           exact ⟨⟨_,rfl⟩,HW.out⟩
          ·have v3 : decide (q ≤ p) = false:=decide_eq_false h3
           clear h1 h2 h3
           go_wp2
           skip
           refine wp_region_held_drew (S:=fun W=>W.cell? (ad.add (k * 4)) = some (.int .u64 p) ∧ W.cell? (ad.add (j * 4)) = some (.int .u64 q) ∧ Hid (Below wr.heap.size wr W)) (by kernel_rfl) ?_ (fun hHeld=>?_)
           ·exact ⟨keepc ((Below.refl wr.heap.size wr).drew) c0,keepc ((Below.refl wr.heap.size wr).drew) d0,((Below.refl wr.heap.size wr).drew)⟩
           refine zt 0 ?_;try simp only [zN];refine zt 1 ?_;try simp only [zN];refine zt 2 ?_;try simp only [zN];refine zt 3 ?_;try simp only [zN];refine zt 4 ?_;try simp only [zN];refine zt 5 ?_;try simp only [zN];refine zt 6 ?_;try simp only [zN];refine zu 7 ?_;try simp only [zN];refine zu 8 ?_;try simp only [zN];refine zu 9 ?_;try simp only [zN];refine zu 10 ?_;try simp only [zN];refine zu 11 ?_;try simp only [zN];refine zu 12 ?_;try simp only [zN];refine zt 13 ?_;try simp only [zN];refine zt 14 ?_;try simp only [zN];refine zt 15 ?_;try simp only [zN];refine zt 16 ?_;try simp only [zN];refine zt 17 ?_;try simp only [zN];refine zt 18 ?_;try simp only [zN];refine zt 19 ?_;try simp only [zN];refine zt 20 ?_;try simp only [zN];refine zt 21 ?_;try simp only [zN];refine zt 22 ?_;try simp only [zN];refine zt 23 ?_;try simp only [zN];refine zt 24 ?_;try simp only [zN];refine zt 25 ?_;try simp only [zN]
           refine zt 26 ?_;try simp only [zN];refine zt 27 ?_;try simp only [zN];refine zt 28 ?_;try simp only [zN];refine zt 29 ?_;try simp only [zN];refine zt 30 ?_;try simp only [zN];refine zt 31 ?_;try simp only [zN];refine zt 32 ?_;try simp only [zN];refine zt 33 ?_;try simp only [zN];refine zt 34 ?_;try simp only [zN];refine zt 35 ?_;try simp only [zN];refine zt 36 ?_;try simp only [zN];refine zt 37 ?_;try simp only [zN];refine zt 38 ?_;try simp only [zN];refine zt 39 ?_;try simp only [zN];refine zt 40 ?_;try simp only [zN];refine zt 41 ?_;try simp only [zN];refine zt 42 ?_;try simp only [zN]
           refine wpAnyH_done (by kernel_rfl) ?_ _
           have HW:=keepB hb hHeld.2.2
           clear hHeld
           go_wp2
           go_roundw
           case rel=>exact ⟨j + 1,by go_num,by omega,HW⟩
           case measure=>simp [intOf];omega
       ·have t1 : decide ((j : Int) < (k : Int)) = false:=decide_eq_false (by omega)
        go_wp2
        go_roundw
        case rel=>exact ⟨k + 1,by go_num,by omega,hb⟩
        case measure=>simp [intOf];omega
    ·have h0d : decide (0 < (k : Int)) = false:=decide_eq_false (by omega)
     have h0e : decide (0 < k) = false:=decide_eq_false h0
     go_wp2
     skip
     refine wp_region_held_drew (S:=fun W=>W.cell? (ad.add (k * 4)) = some (.int .u64 x.f0) ∧ W.cell? ⟨(ad.add (k * 4)).block,(ad.add (k * 4)).off + 1,none⟩ = some (.string x.f1) ∧ W.cell? ⟨(ad.add (k * 4)).block,(ad.add (k * 4)).off + 2,none⟩ = some (.bool x.f2) ∧ W.cell? ⟨(ad.add (k * 4)).block,(ad.add (k * 4)).off + 3,none⟩ = some (.int .i64 x.f3) ∧ Hid (Below wr.heap.size wr W)) (by kernel_rfl) ?_ (fun hHeld=>?_)
     ·exact ⟨keepc ((Below.refl wr.heap.size wr).drew) c0,keepc ((Below.refl wr.heap.size wr).drew) c1,keepc ((Below.refl wr.heap.size wr).drew) c2,keepc ((Below.refl wr.heap.size wr).drew) c3,((Below.refl wr.heap.size wr).drew)⟩
     refine zt 0 ?_;try simp only [zN];refine zt 1 ?_;try simp only [zN];refine zt 2 ?_;try simp only [zN];refine zt 3 ?_;try simp only [zN]
     refine wpAnyH_ready (rs:=[4]) (by kernel_rfl) (by simp) ?_
     refine AllReadyH.cons (o:=_) rfl (fun K hK=>?_) AllReadyH.nil
     rw [if_pos (by rfl)]
     go_simp
     obtain ⟨s0,s1,s2,s3,s4⟩:=hHeld
     refine (cellarerref05_May.calls x.f0 x.f1 x.f2 x.f3 true _ HM.out).mono ?_
     rintro e8 w8 ⟨rfl,hb8⟩
     refine hK.out _ _ ⟨keepc hb8 s0,keepc hb8 s1,keepc hb8 s2,keepc hb8 s3,keepB s4 hb8⟩ (fun hHeld=>?_)
     clear hK K hb8 s0 s1 s2 s3 s4
     try simp only [zN]
     refine zt 5 ?_;try simp only [zN];refine zt 6 ?_;try simp only [zN];refine zt 7 ?_;try simp only [zN];refine zt 8 ?_;try simp only [zN];refine zt 9 ?_;try simp only [zN];refine zu 10 ?_;try simp only [zN];refine zu 11 ?_;try simp only [zN];refine zu 12 ?_;try simp only [zN];refine zu 13 ?_;try simp only [zN];refine zu 14 ?_;try simp only [zN];refine zu 15 ?_;try simp only [zN];refine zu 16 ?_;try simp only [zN];refine zu 17 ?_;try simp only [zN];refine zu 18 ?_;try simp only [zN];refine zu 19 ?_;try simp only [zN];refine zu 20 ?_;try simp only [zN];refine zu 21 ?_;try simp only [zN];refine zt 22 ?_;try simp only [zN];refine zt 23 ?_;try simp only [zN]
     refine wpAnyH_done (by kernel_rfl) ?_ _
     clear h0d h0e h0
     subst hx9
     have HW0:=keepB hb hHeld.2.2.2.2
     clear hHeld
     go_wp2
     go_loopw [4] (fun i wr=>∃ (j : Nat),i = .int .i64 j ∧ j ≤ k ∧ Hid (Below w.heap.size w wr)) (fun i _=>k - (intOf i).toNat)
     case atStart=>exact ⟨0,rfl,Nat.zero_le _,HW0⟩
     case round =>
      clear hb c0 c1 c2 c3 HW0
      obtain ⟨j,rfl,hj,hb⟩:=hrel
      by_cases hjk : j < k
      ·have jl : j < l.length:=by omega
       obtain ⟨ad1,e1,c0,-,-,-⟩:=atVersion HR.out hb.out k hlt
       injection e1 with e1
       subst e1
       obtain ⟨ad2,e2,d0,-,-,-⟩:=atVersion HR.out hb.out j jl
       injection e2 with e2
       subst e2
       have t1 : decide ((j : Int) < (k : Int)) = true:=decide_eq_true (by omega)
       have u0 : (0 : Int) ≤ (j : Int):=by omega
       have u1 : (j : Int) < (l.length : Int):=by omega
       have u2 : (0 : Int) ≤ (k : Int):=by omega
       have u3 : (k : Int) < (l.length : Int):=by omega
       generalize hq9 : l[j].f0 = q at *
       generalize hp9 : l[k].f0 = p at *
       clear hq9 hp9
       by_cases h1 : p = 0
       ·have v1 : (p == 0) = true:=beq_iff_eq.2 (by omega);have v1n : (p != 0) = false:=by unfold bne;rw [v1];rfl
        have h3:=h1
        by_cases h2 : q = 0
        ·have v2 : (q == 0) = true:=beq_iff_eq.2 (by omega);have v2n : (q != 0) = false:=by unfold bne;rw [v2];rfl
         clear h1 h2 h3
         go_wp2
         skip
         refine wp_region_held_drew (S:=fun W=>W.cell? (ad.add (k * 4)) = some (.int .u64 p) ∧ W.cell? (ad.add (j * 4)) = some (.int .u64 q) ∧ Hid (Below wr.heap.size wr W)) (by kernel_rfl) ?_ (fun hHeld=>?_)
         ·exact ⟨keepc ((Below.refl wr.heap.size wr).drew) c0,keepc ((Below.refl wr.heap.size wr).drew) d0,((Below.refl wr.heap.size wr).drew)⟩
         refine zt 0 ?_;try simp only [zN];refine zt 1 ?_;try simp only [zN];refine zt 2 ?_;try simp only [zN];refine zt 3 ?_;try simp only [zN];refine zt 4 ?_;try simp only [zN];refine zt 5 ?_;try simp only [zN];refine zt 6 ?_;try simp only [zN];refine zt 7 ?_;try simp only [zN];refine zt 8 ?_;try simp only [zN];refine zt 9 ?_;try simp only [zN];refine zt 10 ?_;try simp only [zN];refine zt 11 ?_;try simp only [zN];refine zt 12 ?_;try simp only [zN];refine zt 13 ?_;try simp only [zN];refine zt 14 ?_;try simp only [zN];refine zu 15 ?_;try simp only [zN];refine zu 16 ?_;try simp only [zN];refine zu 17 ?_;try simp only [zN];refine zu 18 ?_;try simp only [zN];refine zu 19 ?_;try simp only [zN];refine zu 20 ?_;try simp only [zN];refine zu 21 ?_;try simp only [zN];refine zu 22 ?_;try simp only [zN];refine zu 23 ?_;try simp only [zN];refine zu 24 ?_;try simp only [zN];refine zu 25 ?_;try simp only [zN]
         refine zu 26 ?_;try simp only [zN];refine zu 27 ?_;try simp only [zN];refine zu 28 ?_;try simp only [zN];refine zu 29 ?_;try simp only [zN];refine zu 30 ?_;try simp only [zN];refine zu 31 ?_;try simp only [zN];refine zu 32 ?_;try simp only [zN];refine zu 33 ?_;try simp only [zN];refine zu 34 ?_;try simp only [zN];refine zu 35 ?_;try simp only [zN];refine zu 36 ?_;try simp only [zN];refine zu 37 ?_;try simp only [zN];refine zu 38 ?_;try simp only [zN];refine zu 39 ?_;try simp only [zN];refine zu 40 ?_;try simp only [zN];refine zu 41 ?_;try simp only [zN];refine zt 42 ?_;try simp only [zN]
         refine wpAnyH_done (by kernel_rfl) ?_ _
         have HW:=keepB hb hHeld.2.2
         clear hHeld
         go_wp2
         go_ret
         exact ⟨⟨_,rfl⟩,HW.out⟩
        ·have v2 : (q == 0) = false:=beq_eq_false_iff_ne.2 (by omega);have v2n : (q != 0) = true:=by unfold bne;rw [v2];rfl
         clear h1 h2 h3
         go_wp2
         skip
         refine wp_region_held_drew (S:=fun W=>W.cell? (ad.add (k * 4)) = some (.int .u64 p) ∧ W.cell? (ad.add (j * 4)) = some (.int .u64 q) ∧ Hid (Below wr.heap.size wr W)) (by kernel_rfl) ?_ (fun hHeld=>?_)
         ·exact ⟨keepc ((Below.refl wr.heap.size wr).drew) c0,keepc ((Below.refl wr.heap.size wr).drew) d0,((Below.refl wr.heap.size wr).drew)⟩
         refine zt 0 ?_;try simp only [zN];refine zt 1 ?_;try simp only [zN];refine zt 2 ?_;try simp only [zN];refine zt 3 ?_;try simp only [zN];refine zt 4 ?_;try simp only [zN];refine zt 5 ?_;try simp only [zN];refine zt 6 ?_;try simp only [zN];refine zt 7 ?_;try simp only [zN];refine zt 8 ?_;try simp only [zN];refine zt 9 ?_;try simp only [zN];refine zt 10 ?_;try simp only [zN];refine zt 11 ?_;try simp only [zN];refine zt 12 ?_;try simp only [zN];refine zt 13 ?_;try simp only [zN];refine zt 14 ?_;try simp only [zN];refine zt 15 ?_;try simp only [zN];refine zt 16 ?_;try simp only [zN];refine zt 17 ?_;try simp only [zN];refine zt 18 ?_;try simp only [zN];refine zt 19 ?_;try simp only [zN];refine zt 20 ?_;try simp only [zN];refine zt 21 ?_;try simp only [zN];refine zu 22 ?_;try simp only [zN];refine zu 23 ?_;try simp only [zN];refine zu 24 ?_;try simp only [zN];refine zu 25 ?_;try simp only [zN]
         refine zu 26 ?_;try simp only [zN];refine zu 27 ?_;try simp only [zN];refine zt 28 ?_;try simp only [zN];refine zt 29 ?_;try simp only [zN];refine zu 30 ?_;try simp only [zN];refine zu 31 ?_;try simp only [zN];refine zu 32 ?_;try simp only [zN];refine zu 33 ?_;try simp only [zN];refine zu 34 ?_;try simp only [zN];refine zu 35 ?_;try simp only [zN];refine zu 36 ?_;try simp only [zN];refine zu 37 ?_;try simp only [zN];refine zu 38 ?_;try simp only [zN];refine zu 39 ?_;try simp only [zN];refine zu 40 ?_;try simp only [zN];refine zt 41 ?_;try simp only [zN];refine zt 42 ?_;try simp only [zN]
         refine wpAnyH_done (by kernel_rfl) ?_ _
         have HW:=keepB hb hHeld.2.2
         clear hHeld
         go_wp2
         go_roundw
         case rel=>exact ⟨j + 1,by go_num,by omega,HW⟩
         case measure=>simp [intOf];omega
       ·have v1 : (p == 0) = false:=beq_eq_false_iff_ne.2 (by omega);have v1n : (p != 0) = true:=by unfold bne;rw [v1];rfl
        by_cases h2 : q = 0
        ·have v2 : (q == 0) = true:=beq_iff_eq.2 (by omega);have v2n : (q != 0) = false:=by unfold bne;rw [v2];rfl
         have h3:=h1
         clear h1 h2 h3
         go_wp2
         skip
         refine wp_region_held_drew (S:=fun W=>W.cell? (ad.add (k * 4)) = some (.int .u64 p) ∧ W.cell? (ad.add (j * 4)) = some (.int .u64 q) ∧ Hid (Below wr.heap.size wr W)) (by kernel_rfl) ?_ (fun hHeld=>?_)
         ·exact ⟨keepc ((Below.refl wr.heap.size wr).drew) c0,keepc ((Below.refl wr.heap.size wr).drew) d0,((Below.refl wr.heap.size wr).drew)⟩
         refine zt 0 ?_;try simp only [zN];refine zt 1 ?_;try simp only [zN];refine zt 2 ?_;try simp only [zN];refine zt 3 ?_;try simp only [zN];refine zt 4 ?_;try simp only [zN];refine zt 5 ?_;try simp only [zN];refine zt 6 ?_;try simp only [zN];refine zu 7 ?_;try simp only [zN];refine zu 8 ?_;try simp only [zN];refine zu 9 ?_;try simp only [zN];refine zu 10 ?_;try simp only [zN];refine zu 11 ?_;try simp only [zN];refine zu 12 ?_;try simp only [zN];refine zt 13 ?_;try simp only [zN];refine zt 14 ?_;try simp only [zN];refine zt 15 ?_;try simp only [zN];refine zt 16 ?_;try simp only [zN];refine zt 17 ?_;try simp only [zN];refine zt 18 ?_;try simp only [zN];refine zt 19 ?_;try simp only [zN];refine zt 20 ?_;try simp only [zN];refine zt 21 ?_;try simp only [zN];refine zt 22 ?_;try simp only [zN];refine zt 23 ?_;try simp only [zN];refine zt 24 ?_;try simp only [zN];refine zt 25 ?_;try simp only [zN]
         refine zt 26 ?_;try simp only [zN];refine zt 27 ?_;try simp only [zN];refine zt 28 ?_;try simp only [zN];refine zt 29 ?_;try simp only [zN];refine zu 30 ?_;try simp only [zN];refine zu 31 ?_;try simp only [zN];refine zu 32 ?_;try simp only [zN];refine zu 33 ?_;try simp only [zN];refine zu 34 ?_;try simp only [zN];refine zu 35 ?_;try simp only [zN];refine zu 36 ?_;try simp only [zN];refine zu 37 ?_;try simp only [zN];refine zu 38 ?_;try simp only [zN];refine zu 39 ?_;try simp only [zN];refine zu 40 ?_;try simp only [zN];refine zt 41 ?_;try simp only [zN];refine zt 42 ?_;try simp only [zN]
         refine wpAnyH_done (by kernel_rfl) ?_ _
         have HW:=keepB hb hHeld.2.2
         clear hHeld
         go_wp2
         go_roundw
         case rel=>exact ⟨j + 1,by go_num,by omega,HW⟩
         case measure=>simp [intOf];omega
        ·have v2 : (q == 0) = false:=beq_eq_false_iff_ne.2 (by omega);have v2n : (q != 0) = true:=by unfold bne;rw [v2];rfl
         by_cases h3 : q ≤ p
         ·have v3 : decide (q ≤ p) = true:=decide_eq_true h3
          clear h1 h2 h3
          go_wp2
          skip
          refine wp_region_held_drew (S:=fun W=>W.cell? (ad.add (k * 4)) = some (.int .u64 p) ∧ W.cell? (ad.add (j * 4)) = some (.int .u64 q) ∧ Hid (Below wr.heap.size wr W)) (by kernel_rfl) ?_ (fun hHeld=>?_)
          ·exact ⟨keepc ((Below.refl wr.heap.size wr).drew) c0,keepc ((Below.refl wr.heap.size wr).drew) d0,((Below.refl wr.heap.size wr).drew)⟩
          refine zt 0 ?_;try simp only [zN];refine zt 1 ?_;try simp only [zN];refine zt 2 ?_;try simp only [zN];refine zt 3 ?_;try simp only [zN];refine zt 4 ?_;try simp only [zN];refine zt 5 ?_;try simp only [zN];refine zt 6 ?_;try simp only [zN];refine zu 7 ?_;try simp only [zN];refine zu 8 ?_;try simp only [zN];refine zu 9 ?_;try simp only [zN];refine zu 10 ?_;try simp only [zN];refine zu 11 ?_;try simp only [zN];refine zu 12 ?_;try simp only [zN];refine zt 13 ?_;try simp only [zN];refine zt 14 ?_;try simp only [zN];refine zt 15 ?_;try simp only [zN];refine zt 16 ?_;try simp only [zN];refine zt 17 ?_;try simp only [zN];refine zt 18 ?_;try simp only [zN];refine zt 19 ?_;try simp only [zN];refine zt 20 ?_;try simp only [zN];refine zt 21 ?_;try simp only [zN];refine zt 22 ?_;try simp only [zN];refine zt 23 ?_;try simp only [zN];refine zt 24 ?_;try simp only [zN];refine zt 25 ?_;try simp only [zN]
          refine zt 26 ?_;try simp only [zN];refine zt 27 ?_;try simp only [zN];refine zt 28 ?_;try simp only [zN];refine zt 29 ?_;try simp only [zN];refine zt 30 ?_;try simp only [zN];refine zt 31 ?_;try simp only [zN];refine zt 32 ?_;try simp only [zN];refine zt 33 ?_;try simp only [zN];refine zt 34 ?_;try simp only [zN];refine zt 35 ?_;try simp only [zN];refine zt 36 ?_;try simp only [zN];refine zt 37 ?_;try simp only [zN];refine zt 38 ?_;try simp only [zN];refine zt 39 ?_;try simp only [zN];refine zt 40 ?_;try simp only [zN];refine zt 41 ?_;try simp only [zN];refine zt 42 ?_;try simp only [zN]
          refine wpAnyH_done (by kernel_rfl) ?_ _
          have HW:=keepB hb hHeld.2.2
          clear hHeld
          go_wp2
          go_ret
          exact ⟨⟨_,rfl⟩,HW.out⟩
         ·have v3 : decide (q ≤ p) = false:=decide_eq_false h3
          clear h1 h2 h3
          go_wp2
          skip
          refine wp_region_held_drew (S:=fun W=>W.cell? (ad.add (k * 4)) = some (.int .u64 p) ∧ W.cell? (ad.add (j * 4)) = some (.int .u64 q) ∧ Hid (Below wr.heap.size wr W)) (by kernel_rfl) ?_ (fun hHeld=>?_)
          ·exact ⟨keepc ((Below.refl wr.heap.size wr).drew) c0,keepc ((Below.refl wr.heap.size wr).drew) d0,((Below.refl wr.heap.size wr).drew)⟩
          refine zt 0 ?_;try simp only [zN];refine zt 1 ?_;try simp only [zN];refine zt 2 ?_;try simp only [zN];refine zt 3 ?_;try simp only [zN];refine zt 4 ?_;try simp only [zN];refine zt 5 ?_;try simp only [zN];refine zt 6 ?_;try simp only [zN];refine zu 7 ?_;try simp only [zN];refine zu 8 ?_;try simp only [zN];refine zu 9 ?_;try simp only [zN];refine zu 10 ?_;try simp only [zN];refine zu 11 ?_;try simp only [zN];refine zu 12 ?_;try simp only [zN];refine zt 13 ?_;try simp only [zN];refine zt 14 ?_;try simp only [zN];refine zt 15 ?_;try simp only [zN];refine zt 16 ?_;try simp only [zN];refine zt 17 ?_;try simp only [zN];refine zt 18 ?_;try simp only [zN];refine zt 19 ?_;try simp only [zN];refine zt 20 ?_;try simp only [zN];refine zt 21 ?_;try simp only [zN];refine zt 22 ?_;try simp only [zN];refine zt 23 ?_;try simp only [zN];refine zt 24 ?_;try simp only [zN];refine zt 25 ?_;try simp only [zN]
          refine zt 26 ?_;try simp only [zN];refine zt 27 ?_;try simp only [zN];refine zt 28 ?_;try simp only [zN];refine zt 29 ?_;try simp only [zN];refine zt 30 ?_;try simp only [zN];refine zt 31 ?_;try simp only [zN];refine zt 32 ?_;try simp only [zN];refine zt 33 ?_;try simp only [zN];refine zt 34 ?_;try simp only [zN];refine zt 35 ?_;try simp only [zN];refine zt 36 ?_;try simp only [zN];refine zt 37 ?_;try simp only [zN];refine zt 38 ?_;try simp only [zN];refine zt 39 ?_;try simp only [zN];refine zt 40 ?_;try simp only [zN];refine zt 41 ?_;try simp only [zN];refine zt 42 ?_;try simp only [zN]
          refine wpAnyH_done (by kernel_rfl) ?_ _
          have HW:=keepB hb hHeld.2.2
          clear hHeld
          go_wp2
          go_roundw
          case rel=>exact ⟨j + 1,by go_num,by omega,HW⟩
          case measure=>simp [intOf];omega
      ·have t1 : decide ((j : Int) < (k : Int)) = false:=decide_eq_false (by omega)
       go_wp2
       go_roundw
       case rel=>exact ⟨k + 1,by go_num,by omega,hb⟩
       case measure=>simp [intOf];omega
  ·have t0 : decide ((k : Int) < (l.length : Int)) = false:=decide_eq_false (by omega)
   go_wp2
   go_ret
   exact ⟨⟨_,rfl⟩,hb.out⟩
end
section
attribute [local go_sem] Oper.semAt_some binOp_string_geq2
theorem rmay6.walk (A : Option Addr) (c : Nat) (l : List S56) (w : World) (hr : Kd.C k56 w A l.length l) :
  Calls Tryz.prog 56 #[.slice A l.length c] w fun e w'=>(∃ m : Bool,e = .returned (.bool m)) ∧ Below w.heap.size w w':=by
 have HR:=zh hr
 have hlen : (l.length : Int) ≤ 9223372036854775807:=by have:=hr.2.1;omega
 have HB:=zh (Below.refl w.heap.size w)
 clear hr
 go_enter Tryz.func56,Tryz.ntmps56
 go_wp2
 go_loopw [3] (fun i wr=>∃ (k : Nat),i = .int .i64 k ∧ k ≤ l.length ∧ Hid (Below w.heap.size w wr)) (fun i _=>l.length - (intOf i).toNat)
 case atStart=>exact ⟨0,rfl,Nat.zero_le _,HB⟩
 case round =>
  clear HB
  obtain ⟨k,rfl,hk,hb⟩:=hrel
  by_cases hlt : k < l.length
  ·have t0 : decide ((k : Int) < (l.length : Int)) = true:=decide_eq_true (by omega)
   have u2 : (0 : Int) ≤ (k : Int):=by omega
   have u3 : (k : Int) < (l.length : Int):=by omega
   obtain ⟨ad,A1,g1,e',c0,c1,hl1,hC1⟩:=atEntry HR.out hb.out k hlt
   subst e'
   have HC1:=zh hC1
   clear hC1 hl1
   have h0x : 0 < k → ∃ j,k = j + 1 ∧ j < l.length:=fun h=>⟨k - 1,by omega,by omega⟩
   generalize hx9 : l[k] = x at *
   clear hx9
   have HKY0:=fun (W : World)=>(cellarerref01_Key.calls 61 x.f0 _ W (ref_key x.f0 61 (by decide))).mono (fun e w' hz=>(⟨hz.1,outD hz.2⟩ : _ ∧ Below W.heap.size W w'))
   cases hky : keyB x.f0
   ·rw [hky] at HKY0
    have HKY:=zh HKY0
    clear hky HKY0 h0x
    go_wp2
    skip
    refine wp_region_held_drew (S:=fun W=>W.cell? (ad.add (k * 2)) = some (.string x.f0) ∧ W.cell? ⟨(ad.add (k * 2)).block,(ad.add (k * 2)).off + 1,none⟩ = some (.slice A1 x.f1.length g1) ∧ Hid (Below wr.heap.size wr W)) (by kernel_rfl) ?_ (fun hHeld=>?_)
    ·exact ⟨keepc ((Below.refl wr.heap.size wr).drew) c0,keepc ((Below.refl wr.heap.size wr).drew) c1,((Below.refl wr.heap.size wr).drew)⟩
    refine zt 0 ?_;try simp only [zN];refine zt 1 ?_;try simp only [zN];refine zt 2 ?_;try simp only [zN];refine zt 3 ?_;try simp only [zN];refine zt 4 ?_;try simp only [zN]
    refine wpAnyH_ready (rs:=[5]) (by kernel_rfl) (by simp) ?_
    refine AllReadyH.cons (o:=_) rfl (fun K hK=>?_) AllReadyH.nil
    rw [if_pos (by rfl)]
    go_simp
    obtain ⟨s0,s1,s2⟩:=hHeld
    refine (HKY.out _).mono ?_
    rintro e8 w8 ⟨rfl,hb8⟩
    refine hK.out _ _ ⟨keepc hb8 s0,keepc hb8 s1,keepB s2 hb8⟩ (fun hHeld=>?_)
    clear hK K hb8 s0 s1 s2
    try simp only [zN]
    refine zt 6 ?_;try simp only [zN];refine zt 7 ?_;try simp only [zN];refine zu 8 ?_;try simp only [zN];refine zu 9 ?_;try simp only [zN];refine zu 10 ?_;try simp only [zN];refine zu 11 ?_;try simp only [zN];refine zu 12 ?_;try simp only [zN];refine zu 13 ?_;try simp only [zN];refine zu 14 ?_;try simp only [zN];refine zt 15 ?_;try simp only [zN];refine zt 16 ?_;try simp only [zN];refine zu 17 ?_;try simp only [zN];refine zu 18 ?_;try simp only [zN];refine zu 19 ?_;try simp only [zN];refine zu 20 ?_;try simp only [zN];refine zu 21 ?_;try simp only [zN];refine zu 22 ?_;try simp only [zN];refine zu 23 ?_;try simp only [zN];refine zt 24 ?_;try simp only [zN];refine zt 25 ?_;try simp only [zN];refine zu 26 ?_;try simp only [zN];refine zu 27 ?_;try simp only [zN];refine zu 28 ?_;try simp only [zN];refine zu 29 ?_;try simp only [zN];refine zu 30 ?_;try simp only [zN];refine zu 31 ?_;try simp only [zN]
    refine zu 32 ?_;try simp only [zN];refine zu 33 ?_;try simp only [zN];refine zu 34 ?_;try simp only [zN];refine zu 35 ?_;try simp only [zN];refine zu 36 ?_;try simp only [zN];refine zu 37 ?_;try simp only [zN];refine zu 38 ?_;try simp only [zN];refine zu 39 ?_;try simp only [zN];refine zu 40 ?_;try simp only [zN];refine zu 41 ?_;try simp only [zN];refine zt 42 ?_;try simp only [zN]
    refine wpAnyH_done (by kernel_rfl) ?_ _
    have HW:=keepB hb hHeld.2.2
    clear hHeld
    go_wp2
    go_ret
    exact ⟨⟨_,rfl⟩,HW.out⟩
   ·rw [hky] at HKY0
    have HKY:=zh HKY0
    clear hky HKY0
    by_cases hz : x.f1.length = 0
    ·have hz0 : ((x.f1.length : Int) == 0) = true:=beq_iff_eq.2 (by omega)
     clear h0x
     go_wp2
     skip
     refine wp_region_held_drew (S:=fun W=>W.cell? (ad.add (k * 2)) = some (.string x.f0) ∧ W.cell? ⟨(ad.add (k * 2)).block,(ad.add (k * 2)).off + 1,none⟩ = some (.slice A1 x.f1.length g1) ∧ Hid (Below wr.heap.size wr W)) (by kernel_rfl) ?_ (fun hHeld=>?_)
     ·exact ⟨keepc ((Below.refl wr.heap.size wr).drew) c0,keepc ((Below.refl wr.heap.size wr).drew) c1,((Below.refl wr.heap.size wr).drew)⟩
     refine zt 0 ?_;try simp only [zN];refine zt 1 ?_;try simp only [zN];refine zt 2 ?_;try simp only [zN];refine zt 3 ?_;try simp only [zN];refine zt 4 ?_;try simp only [zN]
     refine wpAnyH_ready (rs:=[5]) (by kernel_rfl) (by simp) ?_
     refine AllReadyH.cons (o:=_) rfl (fun K hK=>?_) AllReadyH.nil
     rw [if_pos (by rfl)]
     go_simp
     obtain ⟨s0,s1,s2⟩:=hHeld
     refine (HKY.out _).mono ?_
     rintro e8 w8 ⟨rfl,hb8⟩
     refine hK.out _ _ ⟨keepc hb8 s0,keepc hb8 s1,keepB s2 hb8⟩ (fun hHeld=>?_)
     clear hK K hb8 s0 s1 s2
     try simp only [zN]
     refine zt 6 ?_;try simp only [zN];refine zt 7 ?_;try simp only [zN];refine zt 8 ?_;try simp only [zN];refine zt 9 ?_;try simp only [zN];refine zt 10 ?_;try simp only [zN];refine zt 11 ?_;try simp only [zN];refine zt 12 ?_;try simp only [zN];refine zt 13 ?_;try simp only [zN];refine zt 14 ?_;try simp only [zN];refine zt 15 ?_;try simp only [zN];refine zt 16 ?_;try simp only [zN];refine zu 17 ?_;try simp only [zN];refine zu 18 ?_;try simp only [zN];refine zu 19 ?_;try simp only [zN];refine zu 20 ?_;try simp only [zN];refine zu 21 ?_;try simp only [zN];refine zu 22 ?_;try simp only [zN];refine zu 23 ?_;try simp only [zN];refine zt 24 ?_;try simp only [zN];refine zt 25 ?_;try simp only [zN];refine zu 26 ?_;try simp only [zN];refine zu 27 ?_;try simp only [zN];refine zu 28 ?_;try simp only [zN];refine zu 29 ?_;try simp only [zN];refine zu 30 ?_;try simp only [zN];refine zu 31 ?_;try simp only [zN]
     refine zu 32 ?_;try simp only [zN];refine zu 33 ?_;try simp only [zN];refine zu 34 ?_;try simp only [zN];refine zu 35 ?_;try simp only [zN];refine zu 36 ?_;try simp only [zN];refine zu 37 ?_;try simp only [zN];refine zu 38 ?_;try simp only [zN];refine zu 39 ?_;try simp only [zN];refine zu 40 ?_;try simp only [zN];refine zu 41 ?_;try simp only [zN];refine zt 42 ?_;try simp only [zN]
     refine wpAnyH_done (by kernel_rfl) ?_ _
     have HW:=keepB hb hHeld.2.2
     clear hHeld
     go_wp2
     go_ret
     exact ⟨⟨_,rfl⟩,HW.out⟩
    ·have hz0 : ((x.f1.length : Int) == 0) = false:=beq_eq_false_iff_ne.2 (by omega)
     have hz1 : (x.f1.length == 0) = false:=beq_eq_false_iff_ne.2 hz
     clear hz
     have HCK : Hid (∀ W,Below wr.heap.size wr W → Calls Tryz.prog 112 #[.slice A1 x.f1.length g1] W fun e w'=>(∃ m : Bool,e = .returned (.bool m)) ∧ Below W.heap.size W w'):=fun W h=>rcheck.walk A1 g1 x.f1 W (Kd.C_below HC1.out h)
     by_cases h0 : 0 < k
     ·obtain ⟨j,hkj,hj⟩:=h0x h0
      obtain ⟨ad',A3,g3,e3,d0,-,-,-⟩:=atEntry HR.out hb.out j hj
      injection e3 with e3
      subst e3
      have e1 : IntKind.i64.wrap ((k : Int) - 1) = (j : Int):=by rw [i64_w,wrap64_of (by omega) (by omega)];omega
      have h0d : decide (0 < (k : Int)) = true:=decide_eq_true (by omega)
      have h0e : decide (0 < k) = true:=decide_eq_true h0
      have u4 : (0 : Int) ≤ (j : Int):=by omega
      have u5 : (j : Int) < (l.length : Int):=by omega
      generalize l[j].f0 = q at *
      clear hkj
      cases hup : Op.bytesLess q.toList x.f0.toList
      ·skip
       go_wp2
       skip
       refine wp_region_held_drew (S:=fun W=>W.cell? (ad.add (j * 2)) = some (.string q) ∧ W.cell? (ad.add (k * 2)) = some (.string x.f0) ∧ W.cell? ⟨(ad.add (k * 2)).block,(ad.add (k * 2)).off + 1,none⟩ = some (.slice A1 x.f1.length g1) ∧ Hid (Below wr.heap.size wr W)) (by kernel_rfl) ?_ (fun hHeld=>?_)
       ·exact ⟨keepc ((Below.refl wr.heap.size wr).drew) d0,keepc ((Below.refl wr.heap.size wr).drew) c0,keepc ((Below.refl wr.heap.size wr).drew) c1,((Below.refl wr.heap.size wr).drew)⟩
       refine zt 0 ?_;try simp only [zN];refine zt 1 ?_;try simp only [zN];refine zt 2 ?_;try simp only [zN];refine zt 3 ?_;try simp only [zN];refine zt 4 ?_;try simp only [zN]
       refine wpAnyH_ready (rs:=[5]) (by kernel_rfl) (by simp) ?_
       refine AllReadyH.cons (o:=_) rfl (fun K hK=>?_) AllReadyH.nil
       rw [if_pos (by rfl)]
       go_simp
       obtain ⟨s0,s1,s2,s3⟩:=hHeld
       refine (HKY.out _).mono ?_
       rintro e8 w8 ⟨rfl,hb8⟩
       refine hK.out _ _ ⟨keepc hb8 s0,keepc hb8 s1,keepc hb8 s2,keepB s3 hb8⟩ (fun hHeld=>?_)
       clear hK K hb8 s0 s1 s2 s3
       try simp only [zN]
       refine zt 6 ?_;try simp only [zN];refine zt 7 ?_;try simp only [zN];refine zt 8 ?_;try simp only [zN];refine zt 9 ?_;try simp only [zN];refine zt 10 ?_;try simp only [zN];refine zt 11 ?_;try simp only [zN];refine zt 12 ?_;try simp only [zN];refine zt 13 ?_;try simp only [zN];refine zt 14 ?_;try simp only [zN];refine zt 15 ?_;try simp only [zN];refine zt 16 ?_;try simp only [zN];refine zt 17 ?_;try simp only [zN];refine zt 18 ?_;try simp only [zN];refine zt 19 ?_;try simp only [zN];refine zt 20 ?_;try simp only [zN];refine zt 21 ?_;try simp only [zN]
       refine wpAnyH_ready (rs:=[22]) (by kernel_rfl) (by simp) ?_
       refine AllReadyH.cons (o:=_) rfl (fun K hK=>?_) AllReadyH.nil
       rw [if_pos (by rfl)]
       go_simp
       obtain ⟨s0,s1,s2,s3⟩:=hHeld
       refine (HCK.out _ s3.out).mono ?_
       rintro e8 w8 ⟨⟨m,rfl⟩,hb8⟩
       refine hK.out _ _ ⟨keepc hb8 s0,keepc hb8 s1,keepc hb8 s2,keepB s3 hb8⟩ (fun hHeld=>?_)
       clear hK K hb8 s0 s1 s2 s3
       try simp only [zN]
       cases m
       ·skip
        refine zt 23 ?_;try simp only [zN];refine zt 24 ?_;try simp only [zN];refine zt 25 ?_;try simp only [zN];refine zu 26 ?_;try simp only [zN];refine zu 27 ?_;try simp only [zN];refine zu 28 ?_;try simp only [zN];refine zu 29 ?_;try simp only [zN];refine zu 30 ?_;try simp only [zN];refine zu 31 ?_;try simp only [zN];refine zu 32 ?_;try simp only [zN];refine zu 33 ?_;try simp only [zN];refine zu 34 ?_;try simp only [zN];refine zu 35 ?_;try simp only [zN];refine zu 36 ?_;try simp only [zN];refine zu 37 ?_;try simp only [zN];refine zu 38 ?_;try simp only [zN];refine zu 39 ?_;try simp only [zN];refine zu 40 ?_;try simp only [zN];refine zu 41 ?_;try simp only [zN];refine zt 42 ?_;try simp only [zN]
        refine wpAnyH_done (by kernel_rfl) ?_ _
        have HW:=keepB hb hHeld.2.2.2
        clear hHeld
        go_wp2
        go_ret
        exact ⟨⟨_,rfl⟩,HW.out⟩
       ·skip
        refine zt 23 ?_;try simp only [zN];refine zt 24 ?_;try simp only [zN];refine zt 25 ?_;try simp only [zN];refine zt 26 ?_;try simp only [zN];refine zt 27 ?_;try simp only [zN];refine zt 28 ?_;try simp only [zN];refine zt 29 ?_;try simp only [zN];refine zt 30 ?_;try simp only [zN];refine zt 31 ?_;try simp only [zN];refine zt 32 ?_;try simp only [zN];refine zt 33 ?_;try simp only [zN];refine zt 34 ?_;try simp only [zN];refine zt 35 ?_;try simp only [zN];refine zt 36 ?_;try simp only [zN];refine zt 37 ?_;try simp only [zN];refine zt 38 ?_;try simp only [zN];refine zt 39 ?_;try simp only [zN];refine zt 40 ?_;try simp only [zN];refine zt 41 ?_;try simp only [zN];refine zt 42 ?_;try simp only [zN]
        refine wpAnyH_done (by kernel_rfl) ?_ _
        have HW:=keepB hb hHeld.2.2.2
        clear hHeld
        go_wp2
        go_ret
        exact ⟨⟨_,rfl⟩,HW.out⟩
      ·skip
       go_wp2
       skip
       refine wp_region_held_drew (S:=fun W=>W.cell? (ad.add (j * 2)) = some (.string q) ∧ W.cell? (ad.add (k * 2)) = some (.string x.f0) ∧ W.cell? ⟨(ad.add (k * 2)).block,(ad.add (k * 2)).off + 1,none⟩ = some (.slice A1 x.f1.length g1) ∧ Hid (Below wr.heap.size wr W)) (by kernel_rfl) ?_ (fun hHeld=>?_)
       ·exact ⟨keepc ((Below.refl wr.heap.size wr).drew) d0,keepc ((Below.refl wr.heap.size wr).drew) c0,keepc ((Below.refl wr.heap.size wr).drew) c1,((Below.refl wr.heap.size wr).drew)⟩
       refine zt 0 ?_;try simp only [zN];refine zt 1 ?_;try simp only [zN];refine zt 2 ?_;try simp only [zN];refine zt 3 ?_;try simp only [zN];refine zt 4 ?_;try simp only [zN]
       refine wpAnyH_ready (rs:=[5]) (by kernel_rfl) (by simp) ?_
       refine AllReadyH.cons (o:=_) rfl (fun K hK=>?_) AllReadyH.nil
       rw [if_pos (by rfl)]
       go_simp
       obtain ⟨s0,s1,s2,s3⟩:=hHeld
       refine (HKY.out _).mono ?_
       rintro e8 w8 ⟨rfl,hb8⟩
       refine hK.out _ _ ⟨keepc hb8 s0,keepc hb8 s1,keepc hb8 s2,keepB s3 hb8⟩ (fun hHeld=>?_)
       clear hK K hb8 s0 s1 s2 s3
       try simp only [zN]
       refine zt 6 ?_;try simp only [zN];refine zt 7 ?_;try simp only [zN];refine zt 8 ?_;try simp only [zN];refine zt 9 ?_;try simp only [zN];refine zt 10 ?_;try simp only [zN];refine zt 11 ?_;try simp only [zN];refine zt 12 ?_;try simp only [zN];refine zt 13 ?_;try simp only [zN];refine zt 14 ?_;try simp only [zN];refine zt 15 ?_;try simp only [zN];refine zt 16 ?_;try simp only [zN];refine zt 17 ?_;try simp only [zN];refine zt 18 ?_;try simp only [zN];refine zt 19 ?_;try simp only [zN];refine zt 20 ?_;try simp only [zN];refine zt 21 ?_;try simp only [zN]
       refine wpAnyH_ready (rs:=[22]) (by kernel_rfl) (by simp) ?_
       refine AllReadyH.cons (o:=_) rfl (fun K hK=>?_) AllReadyH.nil
       rw [if_pos (by rfl)]
       go_simp
       obtain ⟨s0,s1,s2,s3⟩:=hHeld
       refine (HCK.out _ s3.out).mono ?_
       rintro e8 w8 ⟨⟨m,rfl⟩,hb8⟩
       refine hK.out _ _ ⟨keepc hb8 s0,keepc hb8 s1,keepc hb8 s2,keepB s3 hb8⟩ (fun hHeld=>?_)
       clear hK K hb8 s0 s1 s2 s3
       try simp only [zN]
       cases m
       ·skip
        refine zt 23 ?_;try simp only [zN];refine zt 24 ?_;try simp only [zN];refine zt 25 ?_;try simp only [zN];refine zu 26 ?_;try simp only [zN];refine zu 27 ?_;try simp only [zN];refine zu 28 ?_;try simp only [zN];refine zu 29 ?_;try simp only [zN];refine zu 30 ?_;try simp only [zN];refine zu 31 ?_;try simp only [zN];refine zu 32 ?_;try simp only [zN];refine zu 33 ?_;try simp only [zN];refine zu 34 ?_;try simp only [zN];refine zu 35 ?_;try simp only [zN];refine zu 36 ?_;try simp only [zN];refine zu 37 ?_;try simp only [zN];refine zu 38 ?_;try simp only [zN];refine zu 39 ?_;try simp only [zN];refine zu 40 ?_;try simp only [zN];refine zu 41 ?_;try simp only [zN];refine zt 42 ?_;try simp only [zN]
        refine wpAnyH_done (by kernel_rfl) ?_ _
        have HW:=keepB hb hHeld.2.2.2
        clear hHeld
        go_wp2
        go_ret
        exact ⟨⟨_,rfl⟩,HW.out⟩
       ·skip
        refine zt 23 ?_;try simp only [zN];refine zt 24 ?_;try simp only [zN];refine zt 25 ?_;try simp only [zN];refine zt 26 ?_;try simp only [zN];refine zt 27 ?_;try simp only [zN];refine zt 28 ?_;try simp only [zN];refine zt 29 ?_;try simp only [zN];refine zt 30 ?_;try simp only [zN];refine zt 31 ?_;try simp only [zN];refine zt 32 ?_;try simp only [zN];refine zt 33 ?_;try simp only [zN];refine zt 34 ?_;try simp only [zN];refine zt 35 ?_;try simp only [zN];refine zt 36 ?_;try simp only [zN];refine zt 37 ?_;try simp only [zN];refine zt 38 ?_;try simp only [zN];refine zt 39 ?_;try simp only [zN];refine zt 40 ?_;try simp only [zN];refine zt 41 ?_;try simp only [zN];refine zt 42 ?_;try simp only [zN]
        refine wpAnyH_done (by kernel_rfl) ?_ _
        have HW:=keepB hb hHeld.2.2.2
        clear hHeld
        go_wp2
        go_roundw
        case rel=>exact ⟨k + 1,by go_num,by omega,HW⟩
        case measure=>simp [intOf];omega
     ·have h0d : decide (0 < (k : Int)) = false:=decide_eq_false (by omega)
      have h0e : decide (0 < k) = false:=decide_eq_false h0
      clear h0x
      go_wp2
      skip
      refine wp_region_held_drew (S:=fun W=>W.cell? (ad.add (k * 2)) = some (.string x.f0) ∧ W.cell? ⟨(ad.add (k * 2)).block,(ad.add (k * 2)).off + 1,none⟩ = some (.slice A1 x.f1.length g1) ∧ Hid (Below wr.heap.size wr W)) (by kernel_rfl) ?_ (fun hHeld=>?_)
      ·exact ⟨keepc ((Below.refl wr.heap.size wr).drew) c0,keepc ((Below.refl wr.heap.size wr).drew) c1,((Below.refl wr.heap.size wr).drew)⟩
      refine zt 0 ?_;try simp only [zN];refine zt 1 ?_;try simp only [zN];refine zt 2 ?_;try simp only [zN];refine zt 3 ?_;try simp only [zN];refine zt 4 ?_;try simp only [zN]
      refine wpAnyH_ready (rs:=[5]) (by kernel_rfl) (by simp) ?_
      refine AllReadyH.cons (o:=_) rfl (fun K hK=>?_) AllReadyH.nil
      rw [if_pos (by rfl)]
      go_simp
      obtain ⟨s0,s1,s2⟩:=hHeld
      refine (HKY.out _).mono ?_
      rintro e8 w8 ⟨rfl,hb8⟩
      refine hK.out _ _ ⟨keepc hb8 s0,keepc hb8 s1,keepB s2 hb8⟩ (fun hHeld=>?_)
      clear hK K hb8 s0 s1 s2
      try simp only [zN]
      refine zt 6 ?_;try simp only [zN];refine zt 7 ?_;try simp only [zN];refine zt 8 ?_;try simp only [zN];refine zt 9 ?_;try simp only [zN];refine zt 10 ?_;try simp only [zN];refine zt 11 ?_;try simp only [zN];refine zt 12 ?_;try simp only [zN];refine zt 13 ?_;try simp only [zN];refine zt 14 ?_;try simp only [zN];refine zt 15 ?_;try simp only [zN];refine zt 16 ?_;try simp only [zN];refine zt 17 ?_;try simp only [zN];refine zt 18 ?_;try simp only [zN];refine zt 19 ?_;try simp only [zN];refine zt 20 ?_;try simp only [zN];refine zt 21 ?_;try simp only [zN]
      refine wpAnyH_ready (rs:=[22]) (by kernel_rfl) (by simp) ?_
      refine AllReadyH.cons (o:=_) rfl (fun K hK=>?_) AllReadyH.nil
      rw [if_pos (by rfl)]
      go_simp
      obtain ⟨s0,s1,s2⟩:=hHeld
      refine (HCK.out _ s2.out).mono ?_
      rintro e8 w8 ⟨⟨m,rfl⟩,hb8⟩
      refine hK.out _ _ ⟨keepc hb8 s0,keepc hb8 s1,keepB s2 hb8⟩ (fun hHeld=>?_)
      clear hK K hb8 s0 s1 s2
      try simp only [zN]
      cases m
      ·skip
       refine zt 23 ?_;try simp only [zN];refine zt 24 ?_;try simp only [zN];refine zt 25 ?_;try simp only [zN];refine zu 26 ?_;try simp only [zN];refine zu 27 ?_;try simp only [zN];refine zu 28 ?_;try simp only [zN];refine zu 29 ?_;try simp only [zN];refine zu 30 ?_;try simp only [zN];refine zu 31 ?_;try simp only [zN];refine zu 32 ?_;try simp only [zN];refine zu 33 ?_;try simp only [zN];refine zu 34 ?_;try simp only [zN];refine zu 35 ?_;try simp only [zN];refine zu 36 ?_;try simp only [zN];refine zu 37 ?_;try simp only [zN];refine zu 38 ?_;try simp only [zN];refine zu 39 ?_;try simp only [zN];refine zu 40 ?_;try simp only [zN];refine zu 41 ?_;try simp only [zN];refine zt 42 ?_;try simp only [zN]
       refine wpAnyH_done (by kernel_rfl) ?_ _
       have HW:=keepB hb hHeld.2.2
       clear hHeld
       go_wp2
       go_ret
       exact ⟨⟨_,rfl⟩,HW.out⟩
      ·skip
       refine zt 23 ?_;try simp only [zN];refine zt 24 ?_;try simp only [zN];refine zt 25 ?_;try simp only [zN];refine zt 26 ?_;try simp only [zN];refine zt 27 ?_;try simp only [zN];refine zt 28 ?_;try simp only [zN];refine zu 29 ?_;try simp only [zN];refine zu 30 ?_;try simp only [zN];refine zu 31 ?_;try simp only [zN];refine zu 32 ?_;try simp only [zN];refine zu 33 ?_;try simp only [zN];refine zu 34 ?_;try simp only [zN];refine zu 35 ?_;try simp only [zN];refine zu 36 ?_;try simp only [zN];refine zu 37 ?_;try simp only [zN];refine zu 38 ?_;try simp only [zN];refine zu 39 ?_;try simp only [zN];refine zu 40 ?_;try simp only [zN];refine zt 41 ?_;try simp only [zN];refine zt 42 ?_;try simp only [zN]
       refine wpAnyH_done (by kernel_rfl) ?_ _
       have HW:=keepB hb hHeld.2.2
       clear hHeld
       go_wp2
       go_roundw
       case rel=>exact ⟨k + 1,by go_num,by omega,HW⟩
       case measure=>simp [intOf];omega
  ·have t0 : decide ((k : Int) < (l.length : Int)) = false:=decide_eq_false (by omega)
   go_wp2
   go_ret
   exact ⟨⟨_,rfl⟩,hb.out⟩
end
section
theorem ro6_l1 (L : List S56) (hL : (L.length : Int) ≤ bigN) (i : Nat) (k : Nat) (hi : i < L.length) (vs : List S47) (he : L[i].f1 = vs) (hv : (vs.length : Int) ≤ bigN) : ∀ (d j acc : Nat),j + d = vs.length → ((acc + octV (vs.drop j) : Nat) : Int) ≤ bigN →
  cellarerref06_Octets.l1 (k + d + 1) L acc (i : Int) (j : Int) = cellarerref06_Octets.l0 k L ((acc + octV (vs.drop j) : Nat) : Int) ((i + 1 : Nat) : Int):=by
 intro d
 induction d with
 | zero =>
  intro j acc hj hb
  rw [show k + 0 + 1 = k + 1 from rfl]
  simp only [cellarerref06_Octets.l1]
  rw [if_pos (by omega),if_pos (by omega),rdE' L i hi,he,if_neg (by omega),succ_w i (by omega),List.drop_eq_nil_of_le (by omega)]
  rfl
 | succ d ih =>
  intro j acc hj hb
  have hj' : j < vs.length:=by omega
  rw [List.drop_eq_getElem_cons hj'] at hb ⊢
  have e : octV (vs[j] :: vs.drop (j + 1)) = vs[j].f1.size + octV (vs.drop (j + 1)):=by unfold octV;rw [List.map_cons,List.sum_cons]
  rw [e] at hb ⊢
  rw [show k + (d + 1) + 1 = (k + d + 1) + 1 from rfl]
  generalize hK : k + d + 1 = K
  simp only [cellarerref06_Octets.l1]
  subst hK
  rw [if_pos (by omega),if_pos (by omega),rdE' L i hi,he,if_pos (by omega),if_pos (by omega),rdV' vs j hj',succ_w j (by omega),sum_w acc _ (by omega),ih (j + 1) (acc + vs[j].f1.size) (by omega) (by omega),Nat.add_assoc]
def needO6 : List S56 → Nat
 | []=>1
 | x :: xs=>needO6 xs + x.f1.length + 2
theorem ro6_l0 (L : List S56) (hL : (L.length : Int) ≤ bigN) (hV : ∀ x ∈ L,(x.f1.length : Int) ≤ bigN) : ∀ (xs : List S56) (i acc : Nat),xs = L.drop i → i ≤ L.length → ((acc + octE xs : Nat) : Int) ≤ bigN →
  cellarerref06_Octets.l0 (needO6 xs) L acc (i : Int) = some ((acc + octE xs : Nat) : Int):=by
 intro xs
 induction xs with
 | nil =>
  intro i acc hx hi ha
  have : L.length ≤ i:=by
   have:=congrArg List.length hx
   rw [List.length_drop] at this;simp at this;omega
  simp only [needO6,cellarerref06_Octets.l0]
  rw [if_neg (by omega)]
  rfl
 | cons x xs ih =>
  intro i acc hx hi ha
  have hlen : i < L.length:=by
   have:=congrArg List.length hx
   rw [List.length_drop] at this;simp only [List.length_cons] at this;omega
  rw [List.drop_eq_getElem_cons hlen] at hx
  injection hx with hx1 hx2
  have e2 : octE (x :: xs) = octV x.f1 + octE xs:=by unfold octE;rw [List.map_cons,List.sum_cons]
  rw [e2] at ha ⊢
  show cellarerref06_Octets.l0 (needO6 xs + x.f1.length + 1 + 1) _ _ _ = _
  generalize hK : needO6 xs + x.f1.length + 1 = K
  simp only [cellarerref06_Octets.l0]
  subst hK
  rw [if_pos (by omega)]
  have:=ro6_l1 L hL i (needO6 xs) hlen x.f1 (by rw [hx1]) (by rw [hx1];exact hV _ (List.getElem_mem hlen)) x.f1.length 0 acc (by omega) (by rw [List.drop_zero];omega)
  rw [show ((0 : Nat) : Int) = 0 from rfl,List.drop_zero] at this
  rw [this,ih (i + 1) _ hx2 (by omega) (by omega),Nat.add_assoc]
theorem ro6_f (L : List S56) (hL : (L.length : Int) ≤ bigN) (hV : ∀ x ∈ L,(x.f1.length : Int) ≤ bigN) (ho : (octE L : Int) ≤ bigN) : cellarerref06_Octets.f (needO6 L) L = some (octE L : Int):=by
 unfold cellarerref06_Octets.f
 have:=ro6_l0 L hL hV L 0 0 rfl (Nat.zero_le _) (by simpa using ho)
 simpa using this
theorem ro8_l1 (L : List S101) (hL : (L.length : Int) ≤ bigN) (i : Nat) (k : Nat) (hi : i < L.length) (vs : List S40) (he : L[i].f2 = vs) (hv : (vs.length : Int) ≤ bigN) : ∀ (d j acc : Nat),j + d = vs.length → ((acc + octP (vs.drop j) : Nat) : Int) ≤ bigN →
  cellarerref08_Octets.l1 (k + d + 1) L acc (i : Int) (j : Int) = cellarerref08_Octets.l0 k L ((acc + octP (vs.drop j) : Nat) : Int) ((i + 1 : Nat) : Int):=by
 intro d
 induction d with
 | zero =>
  intro j acc hj hb
  rw [show k + 0 + 1 = k + 1 from rfl]
  simp only [cellarerref08_Octets.l1]
  rw [if_pos (by omega),if_pos (by omega),rdU' L i hi,he,if_neg (by omega),succ_w i (by omega),List.drop_eq_nil_of_le (by omega)]
  rfl
 | succ d ih =>
  intro j acc hj hb
  have hj' : j < vs.length:=by omega
  rw [List.drop_eq_getElem_cons hj'] at hb ⊢
  have e : octP (vs[j] :: vs.drop (j + 1)) = vs[j].f1.size + octP (vs.drop (j + 1)):=by unfold octP;rw [List.map_cons,List.sum_cons]
  rw [e] at hb ⊢
  rw [show k + (d + 1) + 1 = (k + d + 1) + 1 from rfl]
  generalize hK : k + d + 1 = K
  simp only [cellarerref08_Octets.l1]
  subst hK
  rw [if_pos (by omega),if_pos (by omega),rdU' L i hi,he,if_pos (by omega),if_pos (by omega),rdP' vs j hj',succ_w j (by omega),sum_w acc _ (by omega),ih (j + 1) (acc + vs[j].f1.size) (by omega) (by omega),Nat.add_assoc]
def needO8 : List S101 → Nat
 | []=>1
 | x :: xs=>needO8 xs + x.f2.length + 2
theorem ro8_l0 (L : List S101) (hL : (L.length : Int) ≤ bigN) (hV : ∀ x ∈ L,(x.f2.length : Int) ≤ bigN) : ∀ (xs : List S101) (i acc : Nat),xs = L.drop i → i ≤ L.length → ((acc + octU xs : Nat) : Int) ≤ bigN →
  cellarerref08_Octets.l0 (needO8 xs) L acc (i : Int) = some ((acc + octU xs : Nat) : Int):=by
 intro xs
 induction xs with
 | nil =>
  intro i acc hx hi ha
  have : L.length ≤ i:=by
   have:=congrArg List.length hx
   rw [List.length_drop] at this;simp at this;omega
  simp only [needO8,cellarerref08_Octets.l0]
  rw [if_neg (by omega)]
  rfl
 | cons x xs ih =>
  intro i acc hx hi ha
  have hlen : i < L.length:=by
   have:=congrArg List.length hx
   rw [List.length_drop] at this;simp only [List.length_cons] at this;omega
  rw [List.drop_eq_getElem_cons hlen] at hx
  injection hx with hx1 hx2
  have e2 : octU (x :: xs) = octP x.f2 + octU xs:=by unfold octU;rw [List.map_cons,List.sum_cons]
  rw [e2] at ha ⊢
  show cellarerref08_Octets.l0 (needO8 xs + x.f2.length + 1 + 1) _ _ _ = _
  generalize hK : needO8 xs + x.f2.length + 1 = K
  simp only [cellarerref08_Octets.l0]
  subst hK
  rw [if_pos (by omega)]
  have:=ro8_l1 L hL i (needO8 xs) hlen x.f2 (by rw [hx1]) (by rw [hx1];exact hV _ (List.getElem_mem hlen)) x.f2.length 0 acc (by omega) (by rw [List.drop_zero];omega)
  rw [show ((0 : Nat) : Int) = 0 from rfl,List.drop_zero] at this
  rw [this,ih (i + 1) _ hx2 (by omega) (by omega),Nat.add_assoc]
theorem ro8_f (L : List S101) (hL : (L.length : Int) ≤ bigN) (hV : ∀ x ∈ L,(x.f2.length : Int) ≤ bigN) (ho : (octU L : Int) ≤ bigN) : cellarerref08_Octets.f (needO8 L) L = some (octU L : Int):=by
 unfold cellarerref08_Octets.f
 have:=ro8_l0 L hL hV L 0 0 rfl (Nat.zero_le _) (by simpa using ho)
 simpa using this
theorem up6 {L : List S56} {r : Int} {k : Nat} (h : cellarerref06_Octets.f k L = some r) : ∀ d,cellarerref06_Octets.f (k + d) L = some r
 | 0=>h
 | d + 1=>cellarerref06_Octets.mono L (k + d) _ (up6 h d)
theorem up8 {L : List S101} {r : Int} {k : Nat} (h : cellarerref08_Octets.f k L = some r) : ∀ d,cellarerref08_Octets.f (k + d) L = some r
 | 0=>h
 | d + 1=>cellarerref08_Octets.mono L (k + d) _ (up8 h d)
theorem ro9_f (nm : ByteArray) (st la : Int) (L : List S56) (U : List S101) (hL : (L.length : Int) ≤ bigN) (hV : ∀ x ∈ L,(x.f1.length : Int) ≤ bigN) (hU : (U.length : Int) ≤ bigN) (hP : ∀ x ∈ U,(x.f2.length : Int) ≤ bigN) (ho : ((octE L + octU U : Nat) : Int) ≤ bigN) :
  cellarerref09_Octets.f (needO6 L + needO8 U) nm st L U la = some (octB L U):=by
 unfold cellarerref09_Octets.f
 have h8:=up8 (ro8_f U hU hP (by omega)) (needO6 L)
 rw [Nat.add_comm] at h8
 rw [up6 (ro6_f L hL hV (by omega)) (needO8 U),Option.bind_some,h8,Option.bind_some,sum_w _ _ ho]
 unfold octB
 congr 1
end
section
open Go.WideMaps Go.Maps
attribute [local go_sem] Oper.semAt_some
theorem rmay9.walk (b : S26) (A2 A3 : Option Addr) (c2 c3 : Nat) (w : World) (h2 : Kd.C k56 w A2 b.f2.length b.f2) (g2 : b.f2.length ≤ c2) (h3 : Kd.C k101 w A3 b.f3.length b.f3) (g3 : b.f3.length ≤ c3) (hs : Small b) (ho : ((octE b.f2 + octU b.f3 : Nat) : Int) ≤ bigN) :
  Calls Tryz.prog 21 #[.agg #[.string b.f0,.int .i64 b.f1,.slice A2 b.f2.length c2,.slice A3 b.f3.length c3,.int .u64 b.f4]] w fun e w'=>(∃ m : Bool,e = .returned (.bool m)) ∧ Below w.heap.size w w':=by
 have H6:=zh (fun (W : World) (h : Below w.heap.size w W)=>rmay6.walk A2 c2 b.f2 W (Kd.C_below h2 h))
 obtain ⟨K8,hK8⟩:=ref_may b.f3 (by have:=hs.2.2.1;omega) (fun u hu=>by have:=hs.2.2.2 u hu;omega)
 have H8:=zh (fun (W : World) (h : Below w.heap.size w W)=>cellarerref08_May.calls (K8 + 1) A3 c3 b.f3 _ W (Kd.C_below h3 h) g3 (hK8 (K8 + 1) (by omega)))
 have H9:=zh (fun (W : World) (h : Below w.heap.size w W)=>cellarerref09_Octets.calls _ b.f0 b.f1 A2 c2 b.f2 A3 c3 b.f3 b.f4 _ W (Kd.C_below h2 h) g2 (Kd.C_below h3 h) g3 (ro9_f b.f0 b.f1 b.f4 b.f2 b.f3 (by unfold bigN;have:=hs.1;omega) (fun x hx=>by unfold bigN;have:=hs.2.1 x hx;omega) (by unfold bigN;have:=hs.2.2.1;omega) (fun x hx=>by unfold bigN;have:=hs.2.2.2 x hx;omega) ho))
 have HB:=zh (Below.refl w.heap.size w)
 generalize octB b.f2 b.f3 = oc at *
 generalize checkB b.f3 = ck at *
 have HR3:=zh h3
 clear hK8 h3
 have HR2:=zh h2
 clear h2
 by_cases q : b.f1 < 0
 ·have v0 : decide (b.f1 < 0) = true:=decide_eq_true (by omega)
  go_enter Tryz.func21,Tryz.ntmps21
  go_wp2_with (first
   | ((with_reducible refine gate_dst (N:=1) rfl ?_);go_must (refine zx HB (N:=1) (cs:=#[.string b.f0,.int .i64 b.f1,.slice A2 b.f2.length c2,.slice A3 b.f3.length c3,.int .u64 b.f4]) (t:=26) ?hr ?_;(case hr=>first | (go_simp;done) | (go_simp;rfl));intro gB w1 KgB LgB HB hbelgB hqgB;obtain ⟨a0,a1,a2,a3,a4⟩:=zz5 KgB.out;clear hbelgB hqgB))
   | (go_at_call 55;go_must (refine (rbucket.walk _ _).mono ?_;rintro e w2 ⟨⟨m1,rfl⟩,hb⟩;have HB:=keepB HB hb;have KgB:=zk KgB hb;clear hb a0 a1 a2 a3 a4;obtain ⟨a0,a1,a2,a3,a4⟩:=zz5 KgB.out;cases m1)))
  all_goals go_ret
  all_goals exact ⟨⟨_,rfl⟩,HB.out⟩
 have v0 : decide (b.f1 < 0) = false:=decide_eq_false q
 clear q
 by_cases q : 2 < b.f1
 ·have v1 : decide (2 < b.f1) = true:=decide_eq_true (by omega)
  go_enter Tryz.func21,Tryz.ntmps21
  go_wp2_with (first
   | ((with_reducible refine gate_dst (N:=1) rfl ?_);go_must (refine zx HB (N:=1) (cs:=#[.string b.f0,.int .i64 b.f1,.slice A2 b.f2.length c2,.slice A3 b.f3.length c3,.int .u64 b.f4]) (t:=26) ?hr ?_;(case hr=>first | (go_simp;done) | (go_simp;rfl));intro gB w1 KgB LgB HB hbelgB hqgB;obtain ⟨a0,a1,a2,a3,a4⟩:=zz5 KgB.out;clear hbelgB hqgB))
   | (go_at_call 55;go_must (refine (rbucket.walk _ _).mono ?_;rintro e w2 ⟨⟨m1,rfl⟩,hb⟩;have HB:=keepB HB hb;have KgB:=zk KgB hb;clear hb a0 a1 a2 a3 a4;obtain ⟨a0,a1,a2,a3,a4⟩:=zz5 KgB.out;cases m1)))
  all_goals go_ret
  all_goals exact ⟨⟨_,rfl⟩,HB.out⟩
 have v1 : decide (2 < b.f1) = false:=decide_eq_false q
 clear q
 by_cases q : 281474976710655 < b.f4
 ·have v2 : decide (281474976710655 < b.f4) = true:=decide_eq_true (by omega)
  go_enter Tryz.func21,Tryz.ntmps21
  go_wp2_with (first
   | ((with_reducible refine gate_dst (N:=1) rfl ?_);go_must (refine zx HB (N:=1) (cs:=#[.string b.f0,.int .i64 b.f1,.slice A2 b.f2.length c2,.slice A3 b.f3.length c3,.int .u64 b.f4]) (t:=26) ?hr ?_;(case hr=>first | (go_simp;done) | (go_simp;rfl));intro gB w1 KgB LgB HB hbelgB hqgB;obtain ⟨a0,a1,a2,a3,a4⟩:=zz5 KgB.out;clear hbelgB hqgB))
   | (go_at_call 55;go_must (refine (rbucket.walk _ _).mono ?_;rintro e w2 ⟨⟨m1,rfl⟩,hb⟩;have HB:=keepB HB hb;have KgB:=zk KgB hb;clear hb a0 a1 a2 a3 a4;obtain ⟨a0,a1,a2,a3,a4⟩:=zz5 KgB.out;cases m1)))
  all_goals go_ret
  all_goals exact ⟨⟨_,rfl⟩,HB.out⟩
 have v2 : decide (281474976710655 < b.f4) = false:=decide_eq_false q
 clear q
 cases ck
 ·skip
  go_enter Tryz.func21,Tryz.ntmps21
  go_wp2_with (first
   | ((with_reducible refine gate_dst (N:=1) rfl ?_);go_must (refine zx HB (N:=1) (cs:=#[.string b.f0,.int .i64 b.f1,.slice A2 b.f2.length c2,.slice A3 b.f3.length c3,.int .u64 b.f4]) (t:=26) ?hr ?_;(case hr=>first | (go_simp;done) | (go_simp;rfl));intro gB w1 KgB LgB HB hbelgB hqgB;obtain ⟨a0,a1,a2,a3,a4⟩:=zz5 KgB.out;clear hbelgB hqgB))
   | (go_at_call 55;go_must (refine (rbucket.walk _ _).mono ?_;rintro e w2 ⟨⟨m1,rfl⟩,hb⟩;have HB:=keepB HB hb;have KgB:=zk KgB hb;clear hb a0 a1 a2 a3 a4;obtain ⟨a0,a1,a2,a3,a4⟩:=zz5 KgB.out;cases m1))
   | (go_at_call 56;go_must (refine (H6.out _ HB.out).mono ?_;rintro e w2 ⟨⟨m2,rfl⟩,hb⟩;have HB:=keepB HB hb;have KgB:=zk KgB hb;clear hb a0 a1 a2 a3 a4;obtain ⟨a0,a1,a2,a3,a4⟩:=zz5 KgB.out;cases m2))
   | (go_at_call 57;go_must (refine (H8.out _ HB.out).mono ?_;rintro e w2 ⟨rfl,hb⟩;have HB:=keepB HB hb;have KgB:=zk KgB hb;clear hb a0 a1 a2 a3 a4;obtain ⟨a0,a1,a2,a3,a4⟩:=zz5 KgB.out;)))
  all_goals go_ret
  all_goals exact ⟨⟨_,rfl⟩,HB.out⟩
 by_cases q : 20000 < oc
 ·have v4 : decide (20000 < oc) = true:=decide_eq_true (by omega)
  go_enter Tryz.func21,Tryz.ntmps21
  go_wp2_with (first
   | ((with_reducible refine gate_dst (N:=1) rfl ?_);go_must (refine zx HB (N:=1) (cs:=#[.string b.f0,.int .i64 b.f1,.slice A2 b.f2.length c2,.slice A3 b.f3.length c3,.int .u64 b.f4]) (t:=26) ?hr ?_;(case hr=>first | (go_simp;done) | (go_simp;rfl));intro gB w1 KgB LgB HB hbelgB hqgB;obtain ⟨a0,a1,a2,a3,a4⟩:=zz5 KgB.out;clear hbelgB hqgB))
   | (go_at_call 55;go_must (refine (rbucket.walk _ _).mono ?_;rintro e w2 ⟨⟨m1,rfl⟩,hb⟩;have HB:=keepB HB hb;have KgB:=zk KgB hb;clear hb a0 a1 a2 a3 a4;obtain ⟨a0,a1,a2,a3,a4⟩:=zz5 KgB.out;cases m1))
   | (go_at_call 56;go_must (refine (H6.out _ HB.out).mono ?_;rintro e w2 ⟨⟨m2,rfl⟩,hb⟩;have HB:=keepB HB hb;have KgB:=zk KgB hb;clear hb a0 a1 a2 a3 a4;obtain ⟨a0,a1,a2,a3,a4⟩:=zz5 KgB.out;cases m2))
   | (go_at_call 57;go_must (refine (H8.out _ HB.out).mono ?_;rintro e w2 ⟨rfl,hb⟩;have HB:=keepB HB hb;have KgB:=zk KgB hb;clear hb a0 a1 a2 a3 a4;obtain ⟨a0,a1,a2,a3,a4⟩:=zz5 KgB.out;))
   | (go_at_call 20;go_must (refine (H9.out _ HB.out).mono ?_;rintro e w2 ⟨rfl,hb⟩;have HB:=keepB HB hb;have KgB:=zk KgB hb;clear hb a0 a1 a2 a3 a4;obtain ⟨a0,a1,a2,a3,a4⟩:=zz5 KgB.out;)))
  all_goals go_ret
  all_goals exact ⟨⟨_,rfl⟩,HB.out⟩
 have v4 : decide (20000 < oc) = false:=decide_eq_false q
 clear q
 go_enter Tryz.func21,Tryz.ntmps21
 go_wp2_with (first
  | ((with_reducible refine gate_dst (N:=1) rfl ?_);go_must (refine zx HB (N:=1) (cs:=#[.string b.f0,.int .i64 b.f1,.slice A2 b.f2.length c2,.slice A3 b.f3.length c3,.int .u64 b.f4]) (t:=26) ?hr ?_;(case hr=>first | (go_simp;done) | (go_simp;rfl));intro gB w1 KgB LgB HB hbelgB hqgB;obtain ⟨a0,a1,a2,a3,a4⟩:=zz5 KgB.out;clear hbelgB hqgB))
  | (go_at_call 55;go_must (refine (rbucket.walk _ _).mono ?_;rintro e w2 ⟨⟨m1,rfl⟩,hb⟩;have HB:=keepB HB hb;have KgB:=zk KgB hb;clear hb a0 a1 a2 a3 a4;obtain ⟨a0,a1,a2,a3,a4⟩:=zz5 KgB.out;cases m1))
  | (go_at_call 56;go_must (refine (H6.out _ HB.out).mono ?_;rintro e w2 ⟨⟨m2,rfl⟩,hb⟩;have HB:=keepB HB hb;have KgB:=zk KgB hb;clear hb a0 a1 a2 a3 a4;obtain ⟨a0,a1,a2,a3,a4⟩:=zz5 KgB.out;cases m2))
  | (go_at_call 57;go_must (refine (H8.out _ HB.out).mono ?_;rintro e w2 ⟨rfl,hb⟩;have HB:=keepB HB hb;have KgB:=zk KgB hb;clear hb a0 a1 a2 a3 a4;obtain ⟨a0,a1,a2,a3,a4⟩:=zz5 KgB.out;))
  | (go_at_call 20;go_must (refine (H9.out _ HB.out).mono ?_;rintro e w2 ⟨rfl,hb⟩;have HB:=keepB HB hb;have KgB:=zk KgB hb;clear hb a0 a1 a2 a3 a4;obtain ⟨a0,a1,a2,a3,a4⟩:=zz5 KgB.out;)))
 all_goals (try (go_ret;exact ⟨⟨_,rfl⟩,HB.out⟩))
 clear H6 H8 H9
 go_loopw [3] (fun i wr=>∃ (k : Nat),i = .int .i64 k ∧ k ≤ b.f2.length ∧ Hid (wr.heap[gB]? = some (.cells #[.string b.f0,.int .i64 b.f1,.slice A2 b.f2.length c2,.slice A3 b.f3.length c3,.int .u64 b.f4] 26 (0,0))) ∧ Hid (Below w.heap.size w wr)) (fun i _=>b.f2.length - (intOf i).toNat)
 case atStart=>exact ⟨0,rfl,Nat.zero_le _,KgB,HB⟩
 case round =>
  clear KgB HB a0 a1 a2 a3 a4
  obtain ⟨k,rfl,hk,KgB,HB⟩:=hrel
  obtain ⟨a0,a1,a2,a3,a4⟩:=zz5 KgB.out;
  by_cases hlt : k < b.f2.length
  ·have t0 : decide ((k : Int) < (b.f2.length : Int)) = true:=decide_eq_true (by omega)
   have u2 : (0 : Int) ≤ (k : Int):=by omega
   have u3 : (k : Int) < (b.f2.length : Int):=by omega
   have hln : (b.f2.length : Int) ≤ 9223372036854775807:=by have:=HR2.out.2.1;omega
   go_wp2
   go_loopw [4] (fun i wr=>∃ (j : Nat),i = .int .i64 j ∧ Hid (wr.heap[gB]? = some (.cells #[.string b.f0,.int .i64 b.f1,.slice A2 b.f2.length c2,.slice A3 b.f3.length c3,.int .u64 b.f4] 26 (0,0))) ∧ Hid (Below w.heap.size w wr) ∧ j ≤ (b.f2[k]'hlt).f1.length) (fun i _=>(b.f2[k]'hlt).f1.length - (intOf i).toNat)
   case atStart=>exact ⟨0,rfl,KgB,HB,Nat.zero_le _⟩
   case round =>
    clear KgB HB a0 a1 a2 a3 a4
    obtain ⟨j,rfl,KgB,HB,hj⟩:=hrel
    obtain ⟨a0,a1,a2,a3,a4⟩:=zz5 KgB.out;
    obtain ⟨ad,A1,g1,e1,-,c1,hl1,hC1⟩:=atEntry HR2.out HB.out k hlt
    subst e1
    by_cases hjl : j < (b.f2[k]'hlt).f1.length
    ·obtain ⟨ad2,e2,d0,-,-,-⟩:=atVersion hC1 (Below.refl _ _) j hjl
     subst e2
     have hjb : ((b.f2[k]'hlt).f1.length : Int) ≤ 9223372036854775807:=by have:=hC1.2.1;omega
     clear hC1
     generalize hv9 : ((b.f2[k]'hlt).f1[j]'hjl).f0 = v at *
     clear hv9
     have t1 : decide ((j : Int) < ((b.f2[k]).f1.length : Int)) = true:=decide_eq_true (by omega)
     have u4 : (0 : Int) ≤ (j : Int):=by omega
     have u5 : (j : Int) < ((b.f2[k]'hlt).f1.length : Int):=by omega
     by_cases q : b.f4 < v
     ·have x0 : decide (b.f4 < v) = true:=decide_eq_true (by omega)
      go_wp2
      go_ret
      exact ⟨by first | exact ⟨_,rfl⟩ | exact Or.inl rfl | exact Or.inr rfl,HB.out⟩
     have x0 : decide (b.f4 < v) = false:=decide_eq_false (by omega)
     by_cases q9 : b.f1 = 0
     ·have x1 : (b.f1 == 0) = true:=beq_iff_eq.2 q9
      by_cases q8 : 0 < v
      ·have x2 : decide (0 < v) = true:=decide_eq_true (by omega)
       clear q9
       go_wp2
       go_ret
       exact ⟨by first | exact ⟨_,rfl⟩ | exact Or.inl rfl | exact Or.inr rfl,HB.out⟩
      ·have x2 : decide (0 < v) = false:=decide_eq_false (by omega)
       clear q9
       go_wp2
       go_roundw
       case rel=>exact ⟨j + 1,by go_num,KgB,HB,hjl⟩
       case measure=>simp [intOf];omega
     ·have x1 : (b.f1 == 0) = false:=beq_eq_false_iff_ne.2 q9
      clear q9
      go_wp2
      go_roundw
      case rel=>exact ⟨j + 1,by go_num,KgB,HB,hjl⟩
      case measure=>simp [intOf];omega
    ·have t1 : decide ((j : Int) < ((b.f2[k]).f1.length : Int)) = false:=decide_eq_false (by omega)
     go_wp2
     go_roundw
     case rel=>exact ⟨k + 1,by go_num,by omega,KgB,HB⟩
     case measure=>simp [intOf];omega
  ·have t0 : decide ((k : Int) < (b.f2.length : Int)) = false:=decide_eq_false (by omega)
   go_wp2
   go_loopw [6] (fun i wr=>∃ (k : Nat),i = .int .i64 k ∧ k ≤ b.f3.length ∧ Hid (wr.heap[gB]? = some (.cells #[.string b.f0,.int .i64 b.f1,.slice A2 b.f2.length c2,.slice A3 b.f3.length c3,.int .u64 b.f4] 26 (0,0))) ∧ Hid (Below w.heap.size w wr)) (fun i _=>b.f3.length - (intOf i).toNat)
   case atStart=>exact ⟨0,rfl,Nat.zero_le _,KgB,HB⟩
   case round =>
    clear KgB HB a0 a1 a2 a3 a4 t0 hlt hk
    obtain ⟨k,rfl,hk,KgB,hb⟩:=hrel
    obtain ⟨a0,a1,a2,a3,a4⟩:=zz5 KgB.out;
    by_cases hlt : k < b.f3.length
    ·have t0 : decide ((k : Int) < (b.f3.length : Int)) = true:=decide_eq_true (by omega)
     have u2 : (0 : Int) ≤ (k : Int):=by omega
     have u3 : (k : Int) < (b.f3.length : Int):=by omega
     have hln : (b.f3.length : Int) ≤ 9223372036854775807:=by have:=HR3.out.2.1;omega
     obtain ⟨ad,A1,g1,e1,c0,-,-,-⟩:=atUpload HR3.out hb.out k hlt
     subst e1
     generalize (b.f3[k]'hlt).f0 = v at *
     by_cases q : b.f4 < v
     ·have x0 : decide (b.f4 < v) = true:=decide_eq_true (by omega)
      go_wp2
      skip
      refine wp_region_held_drew (S:=fun W=>W.cell? ⟨gB,3,none⟩ = some (.slice (some ad) b.f3.length c3) ∧ W.cell? ⟨gB,4,none⟩ = some (.int .u64 b.f4) ∧ W.cell? (ad.add (k * 3)) = some (.int .u64 v) ∧ Hid (Below wr.heap.size wr W)) (by kernel_rfl) ?_ (fun hHeld=>?_)
      ·exact ⟨keepc ((Below.refl wr.heap.size wr).drew) a3,keepc ((Below.refl wr.heap.size wr).drew) a4,keepc ((Below.refl wr.heap.size wr).drew) c0,((Below.refl wr.heap.size wr).drew)⟩
      refine zt 0 ?_;try simp only [zN];refine zt 1 ?_;try simp only [zN];refine zt 2 ?_;try simp only [zN];refine zt 3 ?_;try simp only [zN];refine zt 4 ?_;try simp only [zN];refine zt 5 ?_;try simp only [zN];refine zt 6 ?_;try simp only [zN];refine zt 7 ?_;try simp only [zN];refine zt 8 ?_;try simp only [zN]
      refine wpAnyH_done (by kernel_rfl) ?_ _
      have HW:=keepB hb hHeld.2.2.2
      clear hHeld
      go_wp2
      go_ret
      exact ⟨by first | exact ⟨_,rfl⟩ | exact Or.inl rfl | exact Or.inr rfl,HW.out⟩
     ·have x0 : decide (b.f4 < v) = false:=decide_eq_false (by omega)
      go_wp2
      skip
      refine wp_region_held_drew (S:=fun W=>W.cell? ⟨gB,3,none⟩ = some (.slice (some ad) b.f3.length c3) ∧ W.cell? ⟨gB,4,none⟩ = some (.int .u64 b.f4) ∧ W.cell? (ad.add (k * 3)) = some (.int .u64 v) ∧ Hid (Below wr.heap.size wr W)) (by kernel_rfl) ?_ (fun hHeld=>?_)
      ·exact ⟨keepc ((Below.refl wr.heap.size wr).drew) a3,keepc ((Below.refl wr.heap.size wr).drew) a4,keepc ((Below.refl wr.heap.size wr).drew) c0,((Below.refl wr.heap.size wr).drew)⟩
      refine zt 0 ?_;try simp only [zN];refine zt 1 ?_;try simp only [zN];refine zt 2 ?_;try simp only [zN];refine zt 3 ?_;try simp only [zN];refine zt 4 ?_;try simp only [zN];refine zt 5 ?_;try simp only [zN];refine zt 6 ?_;try simp only [zN];refine zt 7 ?_;try simp only [zN];refine zt 8 ?_;try simp only [zN]
      refine wpAnyH_done (by kernel_rfl) ?_ _
      have HW:=keepB hb hHeld.2.2.2
      have KgB:=zk KgB (outB hHeld.2.2.2)
      clear hHeld
      go_wp2
      go_roundw
      case rel=>exact ⟨k + 1,by go_num,hlt,KgB,HW⟩
      case measure=>simp [intOf];omega
    ·have t0 : decide ((k : Int) < (b.f3.length : Int)) = false:=decide_eq_false (by omega)
     go_wp2
     go_ret
     exact ⟨by first | exact ⟨_,rfl⟩ | exact Or.inl rfl | exact Or.inr rfl,hb.out⟩
end
section
open Go.WideMaps Go.Maps
def kB : Kd S26:=Kd.iso (Kd.pair Kd.string (Kd.pair (Kd.int .i64) (Kd.pair (Kd.slice 56 k56) (Kd.pair (Kd.slice 101 k101) (Kd.int .u64))))) (fun x : S26=>(x.f0,x.f1,x.f2,x.f3,x.f4))
theorem kB_open {w : World} {x : S26} {cs : List Value} (h : kB.K w x cs) : ∃ A2 c2 A3 c3,cs = [.string x.f0,.int .i64 x.f1,.slice A2 x.f2.length c2,.slice A3 x.f3.length c3,.int .u64 x.f4] ∧ x.f2.length ≤ c2 ∧ k56.C w A2 x.f2.length x.f2 ∧ x.f3.length ≤ c3 ∧ k101.C w A3 x.f3.length x.f3:=by
 obtain ⟨_,_,rfl,rfl,⟨_,_,rfl,rfl,⟨_,_,rfl,⟨A2,c2,rfl,l2,g2⟩,⟨_,_,rfl,⟨A3,c3,rfl,l3,g3⟩,rfl⟩⟩⟩⟩:=h
 exact ⟨A2,c2,A3,c3,rfl,l2,g2,l3,g3⟩
theorem kB_mk (w : World) (x : S26) {A2 : Option Addr} {c2 : Nat} (l2 : x.f2.length ≤ c2) (g2 : k56.C w A2 x.f2.length x.f2) {A3 : Option Addr} {c3 : Nat} (l3 : x.f3.length ≤ c3) (g3 : k101.C w A3 x.f3.length x.f3) : kB.K w x [.string x.f0,.int .i64 x.f1,.slice A2 x.f2.length c2,.slice A3 x.f3.length c3,.int .u64 x.f4]:=⟨[.string x.f0],[.int .i64 x.f1,.slice A2 x.f2.length c2,.slice A3 x.f3.length c3,.int .u64 x.f4],rfl,rfl,⟨[.int .i64 x.f1],[.slice A2 x.f2.length c2,.slice A3 x.f3.length c3,.int .u64 x.f4],rfl,rfl,⟨[.slice A2 x.f2.length c2],[.slice A3 x.f3.length c3,.int .u64 x.f4],rfl,⟨A2,c2,rfl,l2,g2⟩,⟨[.slice A3 x.f3.length c3],[.int .u64 x.f4],rfl,⟨A3,c3,rfl,l3,g3⟩,rfl⟩⟩⟩⟩
end
section
open Go.WideMaps Go.Maps
def wfu (n : Int) : Prop:=0 ≤ n ∧ n ≤ 18446744073709551615
def wfi (n : Int) : Prop:=-9223372036854775808 ≤ n ∧ n ≤ 9223372036854775807
theorem wfu_of {n : Int} (h : (Lit.int .u64 n).wf = true) : wfu n:=by
 have h2 : (decide ((IntKind.u64).min ≤ n) && decide (n ≤ (IntKind.u64).max)) = true:=h
 rw [Bool.and_eq_true,decide_eq_true_eq,decide_eq_true_eq,show (IntKind.u64).min = 0 from rfl,show (IntKind.u64).max = 18446744073709551615 from rfl] at h2
 exact h2
theorem wfi_of {n : Int} (h : (Lit.int .i64 n).wf = true) : wfi n:=by
 have h2 : (decide ((IntKind.i64).min ≤ n) && decide (n ≤ (IntKind.i64).max)) = true:=h
 rw [Bool.and_eq_true,decide_eq_true_eq,decide_eq_true_eq,show (IntKind.i64).min = -9223372036854775808 from rfl,show (IntKind.i64).max = 9223372036854775807 from rfl] at h2
 exact h2
theorem tstruct5 {H : Type} {enc : TypeId × Value → H} {P : Program} {w : World} {base : Nat} {spare : Nat → Bool} {held : Bool} {t : TypeId} {f0 f1 f2 f3 f4 : Field} {fuel : Nat} {cs : List Value} {x : DataW H × List MemPlace} (ht : P.underlying t = some (.struct #[f0,f1,f2,f3,f4])) (h : DataW.trod enc P w base spare held fuel t cs = some x) :
  ∃ y0 y1 y2 y3 y4 n,cs.length = P.cellsOf t ∧ DataW.trod enc P w base spare held n f0.type ((cs.drop f0.offset).take (P.cellsOf f0.type)) = some y0 ∧ DataW.trod enc P w base spare held n f1.type ((cs.drop f1.offset).take (P.cellsOf f1.type)) = some y1 ∧
   DataW.trod enc P w base spare held n f2.type ((cs.drop f2.offset).take (P.cellsOf f2.type)) = some y2 ∧ DataW.trod enc P w base spare held n f3.type ((cs.drop f3.offset).take (P.cellsOf f3.type)) = some y3 ∧ DataW.trod enc P w base spare held n f4.type ((cs.drop f4.offset).take (P.cellsOf f4.type)) = some y4:=by
 obtain ⟨xs,n,_,_,hl,hlen,hf⟩:=DataW.trod_struct ht h
 match xs,hlen with
 | [y0,y1,y2,y3,y4],_=>exact ⟨y0,y1,y2,y3,y4,n,hl,hf 0 f0 rfl,hf 1 f1 rfl,hf 2 f2 rfl,hf 3 f3 rfl,hf 4 f4 rfl⟩
theorem tstruct4 {H : Type} {enc : TypeId × Value → H} {P : Program} {w : World} {base : Nat} {spare : Nat → Bool} {held : Bool} {t : TypeId} {f0 f1 f2 f3 : Field} {fuel : Nat} {cs : List Value} {x : DataW H × List MemPlace} (ht : P.underlying t = some (.struct #[f0,f1,f2,f3])) (h : DataW.trod enc P w base spare held fuel t cs = some x) :
  ∃ y0 y1 y2 y3 n,cs.length = P.cellsOf t ∧ DataW.trod enc P w base spare held n f0.type ((cs.drop f0.offset).take (P.cellsOf f0.type)) = some y0 ∧ DataW.trod enc P w base spare held n f1.type ((cs.drop f1.offset).take (P.cellsOf f1.type)) = some y1 ∧
   DataW.trod enc P w base spare held n f2.type ((cs.drop f2.offset).take (P.cellsOf f2.type)) = some y2 ∧ DataW.trod enc P w base spare held n f3.type ((cs.drop f3.offset).take (P.cellsOf f3.type)) = some y3:=by
 obtain ⟨xs,n,_,_,hl,hlen,hf⟩:=DataW.trod_struct ht h
 match xs,hlen with
 | [y0,y1,y2,y3],_=>exact ⟨y0,y1,y2,y3,n,hl,hf 0 f0 rfl,hf 1 f1 rfl,hf 2 f2 rfl,hf 3 f3 rfl⟩
theorem tstruct3 {H : Type} {enc : TypeId × Value → H} {P : Program} {w : World} {base : Nat} {spare : Nat → Bool} {held : Bool} {t : TypeId} {f0 f1 f2 : Field} {fuel : Nat} {cs : List Value} {x : DataW H × List MemPlace} (ht : P.underlying t = some (.struct #[f0,f1,f2])) (h : DataW.trod enc P w base spare held fuel t cs = some x) :
  ∃ y0 y1 y2 n,cs.length = P.cellsOf t ∧ DataW.trod enc P w base spare held n f0.type ((cs.drop f0.offset).take (P.cellsOf f0.type)) = some y0 ∧ DataW.trod enc P w base spare held n f1.type ((cs.drop f1.offset).take (P.cellsOf f1.type)) = some y1 ∧
   DataW.trod enc P w base spare held n f2.type ((cs.drop f2.offset).take (P.cellsOf f2.type)) = some y2:=by
 obtain ⟨xs,n,_,_,hl,hlen,hf⟩:=DataW.trod_struct ht h
 match xs,hlen with
 | [y0,y1,y2],_=>exact ⟨y0,y1,y2,n,hl,hf 0 f0 rfl,hf 1 f1 rfl,hf 2 f2 rfl⟩
theorem tstruct2 {H : Type} {enc : TypeId × Value → H} {P : Program} {w : World} {base : Nat} {spare : Nat → Bool} {held : Bool} {t : TypeId} {f0 f1 : Field} {fuel : Nat} {cs : List Value} {x : DataW H × List MemPlace} (ht : P.underlying t = some (.struct #[f0,f1])) (h : DataW.trod enc P w base spare held fuel t cs = some x) :
  ∃ y0 y1 n,cs.length = P.cellsOf t ∧ DataW.trod enc P w base spare held n f0.type ((cs.drop f0.offset).take (P.cellsOf f0.type)) = some y0 ∧ DataW.trod enc P w base spare held n f1.type ((cs.drop f1.offset).take (P.cellsOf f1.type)) = some y1:=by
 obtain ⟨xs,n,_,_,hl,hlen,hf⟩:=DataW.trod_struct ht h
 match xs,hlen with
 | [y0,y1],_=>exact ⟨y0,y1,n,hl,hf 0 f0 rfl,hf 1 f1 rfl⟩
def OpensQ {α : Type} (P : Program) (d : Kd α) (t : TypeId) (Q : α → Prop) : Prop :=
 ∀ (H : Type) (enc : TypeId × Value → H) (W : World) (n : Nat) (cs : List Value) (x : DataW H × List MemPlace),DataW.trod enc P W 0 (fun _=>true) true n t cs = some x → ∃ y : α,d.K W y cs ∧ Q y
theorem opensQ_C {α : Type} {P : Program} {d : Kd α} {t e : TypeId} (ht : P.underlying t = some (.slice e)) (hs : P.cellsOf e = d.sz) {Q : α → Prop} (he : OpensQ P d e Q) (z : α) (H : Type) (enc : TypeId × Value → H) (W : World) (n : Nat) (cs : List Value) (x : DataW H × List MemPlace)
  (h : DataW.trod enc P W 0 (fun _=>true) true n t cs = some x) : ∃ (l : List α) (A : Option Addr) (c : Nat),cs = [.slice A l.length c] ∧ l.length ≤ c ∧ d.C W A l.length l ∧ ∀ x ∈ l,Q x:=by
 rcases DataW.trod_slice ht h with ⟨rfl,_⟩ | ⟨a,len,cap,elems,rest,m,_,rfl,_,_,hl,hm,hlen,hel,_,_⟩
 ·exact ⟨[],none,0,rfl,Nat.le_refl _,⟨rfl,by simp,fun h0=>by simp at h0⟩,fun x hx=>by cases hx⟩
 have each : ∀ i : Nat,∃ p : α,i < len → Q p ∧ ∃ c : List Value,c.length = d.sz ∧ d.K W p c ∧ ∀ j u,c[j]? = some u → W.cell? (a.add (i * d.sz + j)) = some u:=by
  intro i
  by_cases hi : i < len
  ·have h1:=hel i hi
   rw [List.getElem?_eq_getElem (by omega),Option.bind_eq_some_iff] at h1
   obtain ⟨c,hc,ht'⟩:=h1
   obtain ⟨y,hy,hq⟩:=he H enc W m c _ ht'
   refine ⟨y,fun _=>⟨hq,c,d.K_len hy,hy,fun j u hu=>?_⟩⟩
   obtain ⟨_,hcl,hcell⟩:=World.cells?_some hc
   have:=hcell j (by have:=(List.getElem?_eq_some_iff.1 hu).1;omega)
   rw [hs,add_add] at this
   rw [this,hu]
  ·exact ⟨z,fun h=>absurd h hi⟩
 obtain ⟨f,hf⟩:=Classical.skolem.1 each
 refine ⟨(List.range len).map f,some a,cap,by simp,by simpa using hl,⟨by simp,by simp [maxLen] at hm ⊢;omega,fun _=>⟨a,rfl,fun j p hj=>?_⟩⟩,fun x hx=>by
  obtain ⟨j,hj,rfl⟩:=List.mem_map.1 hx
  exact (hf j (List.mem_range.1 hj)).1⟩
 rw [List.getElem?_map] at hj
 have hjl : j < len:=by
  rcases Nat.lt_or_ge j len with h | h
  ·exact h
  ·rw [List.getElem?_eq_none (by simpa using h)] at hj;cases hj
 rw [List.getElem?_range hjl] at hj
 injection hj with hj
 subst hj
 exact (hf j hjl).2
theorem cellsT_uint64 : Tryz.prog.cellsOf 24 = 1:=by kernel_rfl
theorem cellsT_3 : Tryz.prog.cellsOf 3 = 1:=by kernel_rfl
theorem cellsT_9 : Tryz.prog.cellsOf 9 = 1:=by kernel_rfl
theorem cellsT_4 : Tryz.prog.cellsOf 4 = 1:=by kernel_rfl
theorem cellsT_Version : Tryz.prog.cellsOf 54 = 1:=by kernel_rfl
theorem cellsT_Entry : Tryz.prog.cellsOf 22 = 1:=by kernel_rfl
theorem cellsT_Part : Tryz.prog.cellsOf 99 = 1:=by kernel_rfl
theorem cellsT_Upload : Tryz.prog.cellsOf 23 = 1:=by kernel_rfl
theorem cellsS_Version : Tryz.prog.cellsOf 47 = 4:=by kernel_rfl
def wfVersion (x : S47) : Prop:=wfu x.f0 ∧ wfi x.f3
theorem opensQVersion : OpensQ Tryz.prog k47 47 wfVersion:=by
 intro H enc W n cs x h
 obtain ⟨y0,y1,y2,y3,m,hl,t0,t1,t2,t3⟩:=tstruct4 Tryz.underlying47 h
 rw [cellsS_Version] at hl
 match cs,hl with
 | [a,b,c,d],_ =>
  simp only [cellsT_3,cellsT_4,cellsT_9,cellsT_uint64,List.drop,List.take] at t0 t1 t2 t3
  obtain ⟨s0,e0,_,w0⟩:=DataW.trod_int Tryz.underlying24 t0
  obtain ⟨s1,e1,_,_⟩:=DataW.trod_string Tryz.underlying9 t1
  obtain ⟨s2,e2,_⟩:=DataW.trod_bool Tryz.underlying4 t2
  obtain ⟨s3,e3,_,w3⟩:=DataW.trod_int Tryz.underlying3 t3
  injection e0 with e0;injection e1 with e1;injection e2 with e2;injection e3 with e3
  subst e0 e1 e2 e3
  exact ⟨⟨s0,s1,s2,s3⟩,k47_mk W ⟨s0,s1,s2,s3⟩ ,wfu_of w0,wfi_of w3⟩
theorem cellsS_Entry : Tryz.prog.cellsOf 56 = 2:=by kernel_rfl
def wfEntry (x : S56) : Prop:=(∀ y ∈ x.f1,wfVersion y)
theorem opensQEntry : OpensQ Tryz.prog k56 56 wfEntry:=by
 intro H enc W n cs x h
 obtain ⟨y0,y1,m,hl,t0,t1⟩:=tstruct2 Tryz.underlying56 h
 rw [cellsS_Entry] at hl
 match cs,hl with
 | [a,b],_ =>
  simp only [cellsT_9,cellsT_Version,List.drop,List.take] at t0 t1
  obtain ⟨s0,e0,_,_⟩:=DataW.trod_string Tryz.underlying9 t0
  obtain ⟨s1,A1,c1,e1,hle1,hC1,w1⟩:=opensQ_C Tryz.underlying54 cellsS_Version opensQVersion z47 _ _ _ _ _ _ t1
  injection e0 with e0;injection e1 with e1
  subst e0 e1
  exact ⟨⟨s0,s1⟩,k56_mk W ⟨s0,s1⟩ hle1 hC1,w1⟩
theorem cellsS_Part : Tryz.prog.cellsOf 40 = 2:=by kernel_rfl
def wfPart (x : S40) : Prop:=wfi x.f0
theorem opensQPart : OpensQ Tryz.prog k40 40 wfPart:=by
 intro H enc W n cs x h
 obtain ⟨y0,y1,m,hl,t0,t1⟩:=tstruct2 Tryz.underlying40 h
 rw [cellsS_Part] at hl
 match cs,hl with
 | [a,b],_ =>
  simp only [cellsT_3,cellsT_9,List.drop,List.take] at t0 t1
  obtain ⟨s0,e0,_,w0⟩:=DataW.trod_int Tryz.underlying3 t0
  obtain ⟨s1,e1,_,_⟩:=DataW.trod_string Tryz.underlying9 t1
  injection e0 with e0;injection e1 with e1
  subst e0 e1
  exact ⟨⟨s0,s1⟩,k40_mk W ⟨s0,s1⟩ ,wfi_of w0⟩
theorem cellsS_Upload : Tryz.prog.cellsOf 101 = 3:=by kernel_rfl
def wfUpload (x : S101) : Prop:=wfu x.f0 ∧ (∀ y ∈ x.f2,wfPart y)
theorem opensQUpload : OpensQ Tryz.prog k101 101 wfUpload:=by
 intro H enc W n cs x h
 obtain ⟨y0,y1,y2,m,hl,t0,t1,t2⟩:=tstruct3 Tryz.underlying101 h
 rw [cellsS_Upload] at hl
 match cs,hl with
 | [a,b,c],_ =>
  simp only [cellsT_9,cellsT_Part,cellsT_uint64,List.drop,List.take] at t0 t1 t2
  obtain ⟨s0,e0,_,w0⟩:=DataW.trod_int Tryz.underlying24 t0
  obtain ⟨s1,e1,_,_⟩:=DataW.trod_string Tryz.underlying9 t1
  obtain ⟨s2,A2,c2,e2,hle2,hC2,w2⟩:=opensQ_C Tryz.underlying99 cellsS_Part opensQPart z40 _ _ _ _ _ _ t2
  injection e0 with e0;injection e1 with e1;injection e2 with e2
  subst e0 e1 e2
  exact ⟨⟨s0,s1,s2⟩,k101_mk W ⟨s0,s1,s2⟩ hle2 hC2,wfu_of w0,w2⟩
theorem cellsS_Bucket : Tryz.prog.cellsOf 26 = 5:=by kernel_rfl
def wfBucket (x : S26) : Prop:=wfi x.f1 ∧ (∀ y ∈ x.f2,wfEntry y) ∧ (∀ y ∈ x.f3,wfUpload y) ∧ wfu x.f4
theorem opensQBucket : OpensQ Tryz.prog kB 26 wfBucket:=by
 intro H enc W n cs x h
 obtain ⟨y0,y1,y2,y3,y4,m,hl,t0,t1,t2,t3,t4⟩:=tstruct5 Tryz.underlying26 h
 rw [cellsS_Bucket] at hl
 match cs,hl with
 | [a,b,c,d,e],_ =>
  simp only [cellsT_3,cellsT_9,cellsT_Entry,cellsT_Upload,cellsT_uint64,List.drop,List.take] at t0 t1 t2 t3 t4
  obtain ⟨s0,e0,_,_⟩:=DataW.trod_string Tryz.underlying9 t0
  obtain ⟨s1,e1,_,w1⟩:=DataW.trod_int Tryz.underlying3 t1
  obtain ⟨s2,A2,c2,e2,hle2,hC2,w2⟩:=opensQ_C Tryz.underlying22 cellsS_Entry opensQEntry z56 _ _ _ _ _ _ t2
  obtain ⟨s3,A3,c3,e3,hle3,hC3,w3⟩:=opensQ_C Tryz.underlying23 cellsS_Upload opensQUpload z101 _ _ _ _ _ _ t3
  obtain ⟨s4,e4,_,w4⟩:=DataW.trod_int Tryz.underlying24 t4
  injection e0 with e0;injection e1 with e1;injection e2 with e2;injection e3 with e3;injection e4 with e4
  subst e0 e1 e2 e3 e4
  exact ⟨⟨s0,s1,s2,s3,s4⟩,kB_mk W ⟨s0,s1,s2,s3,s4⟩ hle2 hC2 hle3 hC3,wfi_of w1,w2,w3,wfu_of w4⟩
theorem open_bucket {H : Type} {enc : TypeId × Value → H} {W : World} {base : Nat} {v : Value} {d : DataW H} {p : List MemPlace} (hv : Value.okWide Tryz.prog W .any base 26 v) (h : DataW.Trod enc Tryz.prog W 0 (fun _=>true) true 26 v d p) :
  ∃ (x : S26) (A2 : Option Addr) (c2 : Nat) (A3 : Option Addr) (c3 : Nat),v = .agg #[.string x.f0,.int .i64 x.f1,.slice A2 x.f2.length c2,.slice A3 x.f3.length c3,.int .u64 x.f4] ∧ x.f2.length ≤ c2 ∧ Kd.C k56 W A2 x.f2.length x.f2 ∧ x.f3.length ≤ c3 ∧ Kd.C k101 W A3 x.f3.length x.f3 ∧ wfBucket x:=by
 obtain ⟨cs,rfl,hsz⟩:=Go.WideShapes.okWide_struct Tryz.underlying26 hv
 obtain ⟨n,hn⟩:=h
 obtain ⟨y,hy,hq⟩:=opensQBucket _ _ _ _ _ _ hn
 obtain ⟨A2,c2,A3,c3,hk,h2,g2,h3,g3⟩:=kB_open hy
 refine ⟨y,A2,c2,A3,c3,?_,h2,g2,h3,g3,hq⟩
 have e2 : cs.toList = [.string y.f0,.int .i64 y.f1,.slice A2 y.f2.length c2,.slice A3 y.f3.length c3,.int .u64 y.f4]:=by simpa [Value.cells] using hk
 rw [← Array.toArray_toList (xs:=cs),e2]
end
section
open Go.WideMaps Go.Maps
attribute [local go_sem] Oper.semAt_some
theorem room.walk (b : S26) (A2 A3 : Option Addr) (c2 c3 : Nat) (key data : ByteArray) (w : World) (h2 : Kd.C k56 w A2 b.f2.length b.f2) (g2 : b.f2.length ≤ c2) (h3 : Kd.C k101 w A3 b.f3.length b.f3) (g3 : b.f3.length ≤ c3) (hb4 : 0 ≤ b.f4) :
  Calls Tryz.prog 4 #[.agg #[.string b.f0,.int .i64 b.f1,.slice A2 b.f2.length c2,.slice A3 b.f3.length c3,.int .u64 b.f4],.string key,.string data] w fun e w'=>e = .returned (.bool true) ∧ Below w.heap.size w w':=by
 have HFW:=zh (fun (W : World) (h : Below w.heap.size w W)=>few.walk b A2 A3 c2 c3 W (Kd.C_below h2 h) g2 (Kd.C_below h3 h) g3)
 have HZ:=zh (fun (W : World)=>awake.walk W)
 have HLK : Hid (∀ (W : World),Calls Tryz.prog 11 #[.string key] W (fun e w'=>e = .returned (.string (fewKey key)) ∧ Below W.heap.size W w')):=fun W=>(cellarerlaw01_Few.calls key _ W (few_key key)).mono (fun e w' hz=>⟨hz.1,outD hz.2⟩)
 have H4b : Hid (0 ≤ (cutB b).f4):=hb4
 have HSM:=zh (cut_small b)
 have HOB:=zh (cut_oct b)
 have HOL:=zh (cut_octn b)
 generalize fewKey key = kk at *
 generalize cutB b = cb at *
 have HMY:=zh (fun (A D : Option Addr) (c d : Nat) (W : World) h2 g2 h3 g3=>rmay9.walk cb A D c d W h2 g2 h3 g3 HSM.out HOB.out)
 have HG:=zh (Below.refl w.heap.size w)
 clear h2 g2 h3 g3 hb4
 by_cases hz : 2000 < data.size
 ·have vz : decide (2000 < (data.size : Int)) = true:=decide_eq_true (by omega)
  have pz : (2000 : Int) ≤ (data.size : Int):=by omega
  obtain ⟨dd,hdd⟩ : ∃ s,data.extract 0 2000 = s:=⟨_,rfl⟩
  have HDD : Hid (dd.size ≤ 2000):=by unfold Hid;rw [← hdd,ByteArray.size_extract];omega
  have HPT:=zh (fun (A D : Option Addr) (c d : Nat) (W : World) h2 g2 h3 g3=>putB.walk cb A D c d kk dd 1099511627775 W h2 g2 h3 g3)
  have hok:=room_ok (b:=cb) (key:=kk) (f:=fun l id=>putV l cb.f1 ⟨id,dd,false,1099511627775⟩)
  have hst:=room_step (b:=cb) (key:=kk) (data:=dd) H4b.out
  have hno:=room_no (b:=cb) (key:=kk) (data:=dd) H4b.out HDD.out
  generalize laidR cb kk (fun l id=>putV l cb.f1 ⟨id,dd,false,1099511627775⟩) = r at *
  obtain ⟨x0,bid,be⟩:=r
  change be = 0 → _ at hok
  change be = 0 → _ at hst
  change be = 6 → _ at hno
  by_cases hbe : be = 0
  ·subst hbe
   have q1:=hok rfl
   have q2:=small_bucket (hst rfl)
   clear hok hst hno HMY
   change octB x0.f2 x0.f3 ≤ 20000 at q1
   change Small x0 at q2
   have HOC : Hid (∀ (A D : Option Addr) (c d : Nat) (W : World),Kd.C k56 W A x0.f2.length x0.f2 → x0.f2.length ≤ c → Kd.C k101 W D x0.f3.length x0.f3 → x0.f3.length ≤ d → Calls Tryz.prog 20 #[.agg #[.string x0.f0,.int .i64 x0.f1,.slice A x0.f2.length c,.slice D x0.f3.length d,.int .u64 x0.f4]] W (fun e w'=>e = .returned (.int .i64 (octB x0.f2 x0.f3)) ∧ Below W.heap.size W w')):=fun A D c d W h2 g2 h3 g3=>cellarerref09_Octets.calls _ x0.f0 x0.f1 A c x0.f2 D d x0.f3 x0.f4 _ W h2 g2 h3 g3 (ro9_f x0.f0 x0.f1 x0.f4 x0.f2 x0.f3 (by unfold bigN;have:=q2.1;omega) (fun x hx=>by unfold bigN;have:=q2.2.1 x hx;omega) (by unfold bigN;have:=q2.2.2.1;omega) (fun x hx=>by unfold bigN;have:=q2.2.2.2 x hx;omega) (by unfold octB at q1;unfold bigN;omega))
   clear q2
   generalize octB x0.f2 x0.f3 = oc at *
   have v9 : decide (oc ≤ 20000) = true:=decide_eq_true q1
   clear q1 HSM
   go_enter Tryz.func4,Tryz.ntmps4
   go_wp2_with (first
    | ((with_reducible refine gate_dst (N:=3) rfl ?_);go_must (refine zx HG (N:=3) (cs:=#[.string b.f0,.int .i64 b.f1,.slice A2 b.f2.length c2,.slice A3 b.f3.length c3,.int .u64 b.f4]) (t:=26) ?hr ?_;(case hr=>first | (go_simp;done) | (go_simp;rfl));intro gB w1 KgB LgB HG hbelgB hqgB;obtain ⟨a0,a1,a2,a3,a4⟩:=zz5 KgB.out;clear hbelgB hqgB))
    | (go_at_call 10;go_must (refine (HFW.out _ HG.out).mono ?_;rintro e w2 ⟨A7,c7,D7,d7,rfl,x7,y7,z3,z4,hb⟩;have E7:=zh z3;have U7:=zh z4;have HG:=keepB HG hb;have KgB:=zk KgB hb;clear hb z3 z4 a0 a1 a2 a3 a4))
    | (go_at_call 11;go_must (refine (HLK.out _).mono ?_;rintro e w3 ⟨rfl,hb⟩;have HG:=keepB HG hb;have KgB:=zk KgB hb;have E7:=zc E7 hb;have U7:=zc U7 hb;clear hb))
    | ((with_reducible refine gate_store (t:=26) (p:=3) (v:=.tmp 12) rfl ?_);go_must (refine zs 26 (.tmp 3) (.tmp 12) gB 0 26 [.string cb.f0,.int .i64 cb.f1,.slice A7 cb.f2.length c7,.slice D7 cb.f3.length d7,.int .u64 cb.f4] KgB isz_bucket ?_;intro w4 hk ho;have E7:=zh (keepE E7.out KgB.out (bk_like _ _ _ _ _ _ _ _ _) ho.out);have U7:=zh (keepU U7.out KgB.out (bk_like _ _ _ _ _ _ _ _ _) ho.out);have KgB : Hid (w4.heap[gB]? = some (.cells #[.string cb.f0,.int .i64 cb.f1,.slice A7 cb.f2.length c7,.slice D7 cb.f3.length d7,.int .u64 cb.f4] 26 (0,0))):=hk;have HG:=zo ho HG LgB;obtain ⟨a0,a1,a2,a3,a4⟩:=zz5 KgB.out;clear hk ho))
    | (go_at_call 19;go_must (refine (HPT.out A7 D7 c7 d7 _ E7.out x7 U7.out y7).mono ?_;rintro e w5 ⟨vt,rfl,⟨A4,c4,D4,d4,rfl,X4,Y4_,z3,z4⟩,hb⟩;have E4:=zh z3;have U4:=zh z4;have HG:=keepB HG hb;have E7:=zc E7 hb;have U7:=zc U7 hb;have KgB:=zk KgB hb;clear hb z3 z4 a0 a1 a2 a3 a4))
    | ((with_reducible refine gate_dst (N:=7) rfl ?_);go_must (refine zx HG (N:=7) (cs:=#[.string ⟨#[]⟩,.int .i64 0,.slice none 0 0,.slice none 0 0,.int .u64 0]) (t:=26) ?hr ?_;(case hr=>first | (go_simp;done) | (go_simp;rfl));intro g7 w6 Kg7 Lg7 HG hbelg7 hqg7;have N7:=zh (show gB < g7 by rw [hqg7];exact blk_lt KgB.out);have E7:=zc E7 hbelg7;have U7:=zc U7 hbelg7;have E4:=zc E4 hbelg7;have U4:=zc U4 hbelg7;have KgB:=zk KgB hbelg7;clear hbelg7 hqg7))
    | ((with_reducible refine gate_store (t:=26) (p:=7) (v:=.tmp 25) rfl ?_);go_must (refine zs 26 (.tmp 7) (.tmp 25) g7 0 26 [.string x0.f0,.int .i64 x0.f1,.slice A4 x0.f2.length c4,.slice D4 x0.f3.length d4,.int .u64 x0.f4] Kg7 isz_bucket ?_;intro w7 hk ho;have E7:=zh (keepE E7.out Kg7.out (bk_like _ _ _ _ _ _ _ _ _) ho.out);have U7:=zh (keepU U7.out Kg7.out (bk_like _ _ _ _ _ _ _ _ _) ho.out);have E4:=zh (keepE E4.out Kg7.out (bk_like _ _ _ _ _ _ _ _ _) ho.out);have U4:=zh (keepU U4.out Kg7.out (bk_like _ _ _ _ _ _ _ _ _) ho.out);have KgB:=zl ho KgB (by have:=N7.out;omega);have Kg7 : Hid (w7.heap[g7]? = some (.cells #[.string x0.f0,.int .i64 x0.f1,.slice A4 x0.f2.length c4,.slice D4 x0.f3.length d4,.int .u64 x0.f4] 26 (0,0))):=hk;have HG:=zo ho HG Lg7;obtain ⟨f0,f1,f2,f3,f4⟩:=zz5 Kg7.out;clear hk ho))
    | (go_at_call 20;go_must (refine (HOC.out A4 D4 c4 d4 _ E4.out X4 U4.out Y4_).mono ?_;rintro e w8 ⟨rfl,hb⟩;have HG:=keepB HG hb;clear hb))
    | (go_at_call 14;go_must (refine (HZ.out _).mono ?_;rintro e w20 ⟨rfl,hb⟩;have HG:=keepB HG hb;clear hb)))
   go_ret
   exact ⟨rfl,HG.out⟩
  by_cases hb6 : be = 6
  rotate_left
  ·have e0 : (be == 0) = false:=beq_eq_false_iff_ne.2 hbe
   have e6 : (be == 6) = false:=beq_eq_false_iff_ne.2 hb6
   have e7 : (be != 6) = true:=by unfold bne;rw [e6];rfl
   clear hok hst hno
   go_enter Tryz.func4,Tryz.ntmps4
   go_wp2_with (first
    | ((with_reducible refine gate_dst (N:=3) rfl ?_);go_must (refine zx HG (N:=3) (cs:=#[.string b.f0,.int .i64 b.f1,.slice A2 b.f2.length c2,.slice A3 b.f3.length c3,.int .u64 b.f4]) (t:=26) ?hr ?_;(case hr=>first | (go_simp;done) | (go_simp;rfl));intro gB w1 KgB LgB HG hbelgB hqgB;obtain ⟨a0,a1,a2,a3,a4⟩:=zz5 KgB.out;clear hbelgB hqgB))
    | (go_at_call 10;go_must (refine (HFW.out _ HG.out).mono ?_;rintro e w2 ⟨A7,c7,D7,d7,rfl,x7,y7,z3,z4,hb⟩;have E7:=zh z3;have U7:=zh z4;have HG:=keepB HG hb;have KgB:=zk KgB hb;clear hb z3 z4 a0 a1 a2 a3 a4))
    | (go_at_call 11;go_must (refine (HLK.out _).mono ?_;rintro e w3 ⟨rfl,hb⟩;have HG:=keepB HG hb;have KgB:=zk KgB hb;have E7:=zc E7 hb;have U7:=zc U7 hb;clear hb))
    | ((with_reducible refine gate_store (t:=26) (p:=3) (v:=.tmp 12) rfl ?_);go_must (refine zs 26 (.tmp 3) (.tmp 12) gB 0 26 [.string cb.f0,.int .i64 cb.f1,.slice A7 cb.f2.length c7,.slice D7 cb.f3.length d7,.int .u64 cb.f4] KgB isz_bucket ?_;intro w4 hk ho;have E7:=zh (keepE E7.out KgB.out (bk_like _ _ _ _ _ _ _ _ _) ho.out);have U7:=zh (keepU U7.out KgB.out (bk_like _ _ _ _ _ _ _ _ _) ho.out);have KgB : Hid (w4.heap[gB]? = some (.cells #[.string cb.f0,.int .i64 cb.f1,.slice A7 cb.f2.length c7,.slice D7 cb.f3.length d7,.int .u64 cb.f4] 26 (0,0))):=hk;have HG:=zo ho HG LgB;obtain ⟨a0,a1,a2,a3,a4⟩:=zz5 KgB.out;clear hk ho))
    | (go_at_call 19;go_must (refine (HPT.out A7 D7 c7 d7 _ E7.out x7 U7.out y7).mono ?_;rintro e w5 ⟨vt,rfl,⟨A4,c4,D4,d4,rfl,X4,Y4_,z3,z4⟩,hb⟩;have E4:=zh z3;have U4:=zh z4;have HG:=keepB HG hb;have E7:=zc E7 hb;have U7:=zc U7 hb;have KgB:=zk KgB hb;clear hb z3 z4 a0 a1 a2 a3 a4))
    | ((with_reducible refine gate_dst (N:=7) rfl ?_);go_must (refine zx HG (N:=7) (cs:=#[.string ⟨#[]⟩,.int .i64 0,.slice none 0 0,.slice none 0 0,.int .u64 0]) (t:=26) ?hr ?_;(case hr=>first | (go_simp;done) | (go_simp;rfl));intro g7 w6 Kg7 Lg7 HG hbelg7 hqg7;have N7:=zh (show gB < g7 by rw [hqg7];exact blk_lt KgB.out);have E7:=zc E7 hbelg7;have U7:=zc U7 hbelg7;have E4:=zc E4 hbelg7;have U4:=zc U4 hbelg7;have KgB:=zk KgB hbelg7;clear hbelg7 hqg7))
    | ((with_reducible refine gate_store (t:=26) (p:=7) (v:=.tmp 25) rfl ?_);go_must (refine zs 26 (.tmp 7) (.tmp 25) g7 0 26 [.string x0.f0,.int .i64 x0.f1,.slice A4 x0.f2.length c4,.slice D4 x0.f3.length d4,.int .u64 x0.f4] Kg7 isz_bucket ?_;intro w7 hk ho;have E7:=zh (keepE E7.out Kg7.out (bk_like _ _ _ _ _ _ _ _ _) ho.out);have U7:=zh (keepU U7.out Kg7.out (bk_like _ _ _ _ _ _ _ _ _) ho.out);have E4:=zh (keepE E4.out Kg7.out (bk_like _ _ _ _ _ _ _ _ _) ho.out);have U4:=zh (keepU U4.out Kg7.out (bk_like _ _ _ _ _ _ _ _ _) ho.out);have KgB:=zl ho KgB (by have:=N7.out;omega);have Kg7 : Hid (w7.heap[g7]? = some (.cells #[.string x0.f0,.int .i64 x0.f1,.slice A4 x0.f2.length c4,.slice D4 x0.f3.length d4,.int .u64 x0.f4] 26 (0,0))):=hk;have HG:=zo ho HG Lg7;obtain ⟨a0,a1,a2,a3,a4⟩:=zz5 KgB.out;clear hk ho))
    | (go_at_call 21;go_must (refine (HMY.out A7 D7 c7 d7 _ E7.out x7 U7.out y7).mono ?_;rintro e w8 ⟨⟨m,rfl⟩,hb⟩;have HG:=keepB HG hb;have E7:=zc E7 hb;have U7:=zc U7 hb;have KgB:=zk KgB hb;clear hb a0 a1 a2 a3 a4;obtain ⟨a0,a1,a2,a3,a4⟩:=zz5 KgB.out;cases m))
    | (go_at_call 14;go_must (refine (HZ.out _).mono ?_;rintro e w20 ⟨rfl,hb⟩;have HG:=keepB HG hb;clear hb)))
   all_goals go_ret
   all_goals exact ⟨rfl,HG.out⟩
  subst hb6
  have HNO : Hid ((∀ x ∈ cb.f2,x.f0 ≠ kk) → cb.f2.length < 60 → cb.f4 < 281474976710655 → 20000 < octB cb.f2 cb.f3 + (dd.size : Int)):=fun h1 h2 h3=>(hno rfl h1 h2 h3).2
  clear hok hst hno hbe
  go_enter Tryz.func4,Tryz.ntmps4
  go_wp2_with (first
   | ((with_reducible refine gate_dst (N:=3) rfl ?_);go_must (refine zx HG (N:=3) (cs:=#[.string b.f0,.int .i64 b.f1,.slice A2 b.f2.length c2,.slice A3 b.f3.length c3,.int .u64 b.f4]) (t:=26) ?hr ?_;(case hr=>first | (go_simp;done) | (go_simp;rfl));intro gB w1 KgB LgB HG hbelgB hqgB;obtain ⟨a0,a1,a2,a3,a4⟩:=zz5 KgB.out;clear hbelgB hqgB))
   | (go_at_call 10;go_must (refine (HFW.out _ HG.out).mono ?_;rintro e w2 ⟨A7,c7,D7,d7,rfl,x7,y7,z3,z4,hb⟩;have E7:=zh z3;have U7:=zh z4;have HG:=keepB HG hb;have KgB:=zk KgB hb;clear hb z3 z4 a0 a1 a2 a3 a4))
   | (go_at_call 11;go_must (refine (HLK.out _).mono ?_;rintro e w3 ⟨rfl,hb⟩;have HG:=keepB HG hb;have KgB:=zk KgB hb;have E7:=zc E7 hb;have U7:=zc U7 hb;clear hb))
   | ((with_reducible refine gate_store (t:=26) (p:=3) (v:=.tmp 12) rfl ?_);go_must (refine zs 26 (.tmp 3) (.tmp 12) gB 0 26 [.string cb.f0,.int .i64 cb.f1,.slice A7 cb.f2.length c7,.slice D7 cb.f3.length d7,.int .u64 cb.f4] KgB isz_bucket ?_;intro w4 hk ho;have E7:=zh (keepE E7.out KgB.out (bk_like _ _ _ _ _ _ _ _ _) ho.out);have U7:=zh (keepU U7.out KgB.out (bk_like _ _ _ _ _ _ _ _ _) ho.out);have KgB : Hid (w4.heap[gB]? = some (.cells #[.string cb.f0,.int .i64 cb.f1,.slice A7 cb.f2.length c7,.slice D7 cb.f3.length d7,.int .u64 cb.f4] 26 (0,0))):=hk;have HG:=zo ho HG LgB;obtain ⟨a0,a1,a2,a3,a4⟩:=zz5 KgB.out;clear hk ho))
   | (go_at_call 19;go_must (refine (HPT.out A7 D7 c7 d7 _ E7.out x7 U7.out y7).mono ?_;rintro e w5 ⟨vt,rfl,⟨A4,c4,D4,d4,rfl,X4,Y4_,z3,z4⟩,hb⟩;have E4:=zh z3;have U4:=zh z4;have HG:=keepB HG hb;have E7:=zc E7 hb;have U7:=zc U7 hb;have KgB:=zk KgB hb;clear hb z3 z4 a0 a1 a2 a3 a4))
   | ((with_reducible refine gate_dst (N:=7) rfl ?_);go_must (refine zx HG (N:=7) (cs:=#[.string ⟨#[]⟩,.int .i64 0,.slice none 0 0,.slice none 0 0,.int .u64 0]) (t:=26) ?hr ?_;(case hr=>first | (go_simp;done) | (go_simp;rfl));intro g7 w6 Kg7 Lg7 HG hbelg7 hqg7;have N7:=zh (show gB < g7 by rw [hqg7];exact blk_lt KgB.out);have E7:=zc E7 hbelg7;have U7:=zc U7 hbelg7;have E4:=zc E4 hbelg7;have U4:=zc U4 hbelg7;have KgB:=zk KgB hbelg7;clear hbelg7 hqg7))
   | ((with_reducible refine gate_store (t:=26) (p:=7) (v:=.tmp 25) rfl ?_);go_must (refine zs 26 (.tmp 7) (.tmp 25) g7 0 26 [.string x0.f0,.int .i64 x0.f1,.slice A4 x0.f2.length c4,.slice D4 x0.f3.length d4,.int .u64 x0.f4] Kg7 isz_bucket ?_;intro w7 hk ho;have E7:=zh (keepE E7.out Kg7.out (bk_like _ _ _ _ _ _ _ _ _) ho.out);have U7:=zh (keepU U7.out Kg7.out (bk_like _ _ _ _ _ _ _ _ _) ho.out);have E4:=zh (keepE E4.out Kg7.out (bk_like _ _ _ _ _ _ _ _ _) ho.out);have U4:=zh (keepU U4.out Kg7.out (bk_like _ _ _ _ _ _ _ _ _) ho.out);have KgB:=zl ho KgB (by have:=N7.out;omega);have Kg7 : Hid (w7.heap[g7]? = some (.cells #[.string x0.f0,.int .i64 x0.f1,.slice A4 x0.f2.length c4,.slice D4 x0.f3.length d4,.int .u64 x0.f4] 26 (0,0))):=hk;have HG:=zo ho HG Lg7;obtain ⟨a0,a1,a2,a3,a4⟩:=zz5 KgB.out;clear hk ho))
   | (go_at_call 21;go_must (refine (HMY.out A7 D7 c7 d7 _ E7.out x7 U7.out y7).mono ?_;rintro e w8 ⟨⟨m,rfl⟩,hb⟩;have HG:=keepB HG hb;have E7:=zc E7 hb;have U7:=zc U7 hb;have KgB:=zk KgB hb;clear hb a0 a1 a2 a3 a4;obtain ⟨a0,a1,a2,a3,a4⟩:=zz5 KgB.out;cases m))
   | (go_at_call 14;go_must (refine (HZ.out _).mono ?_;rintro e w20 ⟨rfl,hb⟩;have HG:=keepB HG hb;clear hb)))
  all_goals (try (go_ret;exact ⟨rfl,HG.out⟩))
  go_loopw [10] (fun i wr=>∃ (k : Nat),i = .int .i64 k ∧ k ≤ cb.f2.length ∧ Hid (∀ j (hj : j < cb.f2.length),j < k → cb.f2[j].f0 ≠ kk) ∧ Hid (wr.heap[gB]? = some (.cells #[.string cb.f0,.int .i64 cb.f1,.slice A7 cb.f2.length c7,.slice D7 cb.f3.length d7,.int .u64 cb.f4] 26 (0,0))) ∧ Hid (Kd.C k56 wr A7 cb.f2.length cb.f2) ∧ Hid (Kd.C k101 wr D7 cb.f3.length cb.f3) ∧ Hid (Below w.heap.size w wr)) (fun i _=>cb.f2.length - (intOf i).toNat)
  case atStart=>exact ⟨0,rfl,Nat.zero_le _,(fun j _ h=>absurd h (Nat.not_lt_zero _)),KgB,E7,U7,HG⟩
  case round =>
   clear KgB HG a0 a1 a2 a3 a4 E7 U7 E4 U4
   try clear Kg7
   obtain ⟨k,rfl,hk,HNE,KgB,E7,U7,HG⟩:=hrel
   obtain ⟨a0,a1,a2,a3,a4⟩:=zz5 KgB.out;
   by_cases hlt : k < cb.f2.length
   ·have t0 : decide ((k : Int) < (cb.f2.length : Int)) = true:=decide_eq_true (by omega)
    have u2 : (0 : Int) ≤ (k : Int):=by omega
    have u3 : (k : Int) < (cb.f2.length : Int):=by omega
    have hln : (cb.f2.length : Int) ≤ 9223372036854775807:=by have:=E7.out.2.1;omega
    obtain ⟨ad,A1,g1,e1,c0,-,-,-⟩:=atEntry E7.out (Below.refl _ _) k hlt
    subst e1
    by_cases hkk : (cb.f2[k]'hlt).f0 = kk
    ·have hq : ((cb.f2[k]'hlt).f0.toList == kk.toList) = true:=by rw [hkk];exact beq_self_eq_true _
     clear hkk HNE HNO
     generalize (cb.f2[k]'hlt).f0 = z at *
     go_wp2_with (first
      | (go_at_call 14;go_must (refine (HZ.out _).mono ?_;rintro e w20 ⟨rfl,hb⟩;have HG:=keepB HG hb;clear hb)))
     go_ret
     exact ⟨rfl,HG.out⟩
    ·have hq : ((cb.f2[k]'hlt).f0.toList == kk.toList) = false:=by
      rw [beq_eq_false_iff_ne];exact fun h=>hkk (bytes_eq h)
     have HNE2 : Hid (∀ j (hj : j < cb.f2.length),j < k + 1 → cb.f2[j].f0 ≠ kk):=by
      intro j hj h
      rcases Nat.eq_or_lt_of_le (Nat.le_of_lt_succ h) with rfl | h2
      ·exact hkk
      ·exact HNE.out j hj h2
     clear hkk HNE HNO
     generalize (cb.f2[k]'hlt).f0 = z at *
     go_wp2
     go_roundw
     case rel=>exact ⟨k + 1,by go_num,hlt,HNE2,KgB,E7,U7,HG⟩
     case measure=>simp [intOf];omega
   ·obtain rfl : k = cb.f2.length:=by omega
    have t0 : decide ((cb.f2.length : Int) < (cb.f2.length : Int)) = false:=decide_eq_false (by omega)
    have hln : (cb.f2.length : Int) ≤ 9223372036854775807:=by have:=E7.out.2.1;omega
    have HN2 : Hid (cb.f2.length < 60 → cb.f4 < 281474976710655 → 20000 < octB cb.f2 cb.f3 + (dd.size : Int)):=fun h1 h2=>HNO.out (fun x hx=>by
     obtain ⟨j,hj,rfl⟩:=List.getElem_of_mem hx
     exact HNE.out j hj hj) h1 h2
    clear HNO HNE
    have HOC : Hid (∀ (A D : Option Addr) (c d : Nat) (W : World),Kd.C k56 W A cb.f2.length cb.f2 → cb.f2.length ≤ c → Kd.C k101 W D cb.f3.length cb.f3 → cb.f3.length ≤ d → Calls Tryz.prog 20 #[.agg #[.string cb.f0,.int .i64 cb.f1,.slice A cb.f2.length c,.slice D cb.f3.length d,.int .u64 cb.f4]] W (fun e w'=>e = .returned (.int .i64 (octB cb.f2 cb.f3)) ∧ Below W.heap.size W w')):=fun A D c d W h2 g2 h3 g3=>cellarerref09_Octets.calls _ cb.f0 cb.f1 A c cb.f2 D d cb.f3 cb.f4 _ W h2 g2 h3 g3 (ro9_f cb.f0 cb.f1 cb.f4 cb.f2 cb.f3 (by unfold bigN;have:=HSM.out.1;omega) (fun x hx=>by unfold bigN;have:=HSM.out.2.1 x hx;omega) (by unfold bigN;have:=HSM.out.2.2.1;omega) (fun x hx=>by unfold bigN;have:=HSM.out.2.2.2 x hx;omega) HOB.out)
    have hoc : 0 ≤ octB cb.f2 cb.f3 ∧ octB cb.f2 cb.f3 ≤ 10000000:=by have:=HOL.out;unfold octB;omega
    generalize octB cb.f2 cb.f3 = oc at *
    have hds : (dd.size : Int) ≤ 2000:=by have:=HDD.out;omega
    have hw1 : wrap64 (oc + (dd.size : Int)) = oc + (dd.size : Int):=wrap64_of (by omega) (by omega)
    have hw2 : IntKind.i64.wrap (oc + (dd.size : Int)) = oc + (dd.size : Int):=by rw [IntWalk.i64_in];exact ⟨by omega,by omega⟩
    by_cases h6 : cb.f2.length < 60
    ·have t6 : decide ((cb.f2.length : Int) < 60) = true:=decide_eq_true (by omega)
     by_cases hL : cb.f4 < 281474976710655
     ·have t7 : decide (cb.f4 < 281474976710655) = true:=decide_eq_true hL
      have t8 : decide (20000 < oc + (dd.size : Int)) = true:=decide_eq_true (HN2.out h6 hL)
      clear HN2 h6 hL
      go_wp2_with (first
       | (go_at_call 20;go_must (refine (HOC.out A7 D7 c7 d7 _ E7.out x7 U7.out y7).mono ?_;rintro e w8 ⟨rfl,hb⟩;have HG:=keepB HG hb;clear hb))
       | (go_at_call 14;go_must (refine (HZ.out _).mono ?_;rintro e w20 ⟨rfl,hb⟩;have HG:=keepB HG hb;clear hb)))
      go_ret
      exact ⟨rfl,HG.out⟩
     ·have t7 : decide (cb.f4 < 281474976710655) = false:=decide_eq_false hL
      clear HN2 h6 hL HOC
      go_wp2_with (first
       | (go_at_call 14;go_must (refine (HZ.out _).mono ?_;rintro e w20 ⟨rfl,hb⟩;have HG:=keepB HG hb;clear hb)))
      go_ret
      exact ⟨rfl,HG.out⟩
    ·have t6 : decide ((cb.f2.length : Int) < 60) = false:=decide_eq_false (by omega)
     clear HN2 h6 HOC
     go_wp2_with (first
      | (go_at_call 14;go_must (refine (HZ.out _).mono ?_;rintro e w20 ⟨rfl,hb⟩;have HG:=keepB HG hb;clear hb)))
     go_ret
     exact ⟨rfl,HG.out⟩
 ·have vz : decide (2000 < (data.size : Int)) = false:=decide_eq_false (by omega)
  have HDD : Hid (data.size ≤ 2000):=by unfold Hid;omega
  have HPT:=zh (fun (A D : Option Addr) (c d : Nat) (W : World) h2 g2 h3 g3=>putB.walk cb A D c d kk data 1099511627775 W h2 g2 h3 g3)
  have hok:=room_ok (b:=cb) (key:=kk) (f:=fun l id=>putV l cb.f1 ⟨id,data,false,1099511627775⟩)
  have hst:=room_step (b:=cb) (key:=kk) (data:=data) H4b.out
  have hno:=room_no (b:=cb) (key:=kk) (data:=data) H4b.out HDD.out
  generalize laidR cb kk (fun l id=>putV l cb.f1 ⟨id,data,false,1099511627775⟩) = r at *
  obtain ⟨x0,bid,be⟩:=r
  change be = 0 → _ at hok
  change be = 0 → _ at hst
  change be = 6 → _ at hno
  by_cases hbe : be = 0
  ·subst hbe
   have q1:=hok rfl
   have q2:=small_bucket (hst rfl)
   clear hok hst hno HMY
   change octB x0.f2 x0.f3 ≤ 20000 at q1
   change Small x0 at q2
   have HOC : Hid (∀ (A D : Option Addr) (c d : Nat) (W : World),Kd.C k56 W A x0.f2.length x0.f2 → x0.f2.length ≤ c → Kd.C k101 W D x0.f3.length x0.f3 → x0.f3.length ≤ d → Calls Tryz.prog 20 #[.agg #[.string x0.f0,.int .i64 x0.f1,.slice A x0.f2.length c,.slice D x0.f3.length d,.int .u64 x0.f4]] W (fun e w'=>e = .returned (.int .i64 (octB x0.f2 x0.f3)) ∧ Below W.heap.size W w')):=fun A D c d W h2 g2 h3 g3=>cellarerref09_Octets.calls _ x0.f0 x0.f1 A c x0.f2 D d x0.f3 x0.f4 _ W h2 g2 h3 g3 (ro9_f x0.f0 x0.f1 x0.f4 x0.f2 x0.f3 (by unfold bigN;have:=q2.1;omega) (fun x hx=>by unfold bigN;have:=q2.2.1 x hx;omega) (by unfold bigN;have:=q2.2.2.1;omega) (fun x hx=>by unfold bigN;have:=q2.2.2.2 x hx;omega) (by unfold octB at q1;unfold bigN;omega))
   clear q2
   generalize octB x0.f2 x0.f3 = oc at *
   have v9 : decide (oc ≤ 20000) = true:=decide_eq_true q1
   clear q1 HSM
   go_enter Tryz.func4,Tryz.ntmps4
   go_wp2_with (first
    | ((with_reducible refine gate_dst (N:=3) rfl ?_);go_must (refine zx HG (N:=3) (cs:=#[.string b.f0,.int .i64 b.f1,.slice A2 b.f2.length c2,.slice A3 b.f3.length c3,.int .u64 b.f4]) (t:=26) ?hr ?_;(case hr=>first | (go_simp;done) | (go_simp;rfl));intro gB w1 KgB LgB HG hbelgB hqgB;obtain ⟨a0,a1,a2,a3,a4⟩:=zz5 KgB.out;clear hbelgB hqgB))
    | (go_at_call 10;go_must (refine (HFW.out _ HG.out).mono ?_;rintro e w2 ⟨A7,c7,D7,d7,rfl,x7,y7,z3,z4,hb⟩;have E7:=zh z3;have U7:=zh z4;have HG:=keepB HG hb;have KgB:=zk KgB hb;clear hb z3 z4 a0 a1 a2 a3 a4))
    | (go_at_call 11;go_must (refine (HLK.out _).mono ?_;rintro e w3 ⟨rfl,hb⟩;have HG:=keepB HG hb;have KgB:=zk KgB hb;have E7:=zc E7 hb;have U7:=zc U7 hb;clear hb))
    | ((with_reducible refine gate_store (t:=26) (p:=3) (v:=.tmp 12) rfl ?_);go_must (refine zs 26 (.tmp 3) (.tmp 12) gB 0 26 [.string cb.f0,.int .i64 cb.f1,.slice A7 cb.f2.length c7,.slice D7 cb.f3.length d7,.int .u64 cb.f4] KgB isz_bucket ?_;intro w4 hk ho;have E7:=zh (keepE E7.out KgB.out (bk_like _ _ _ _ _ _ _ _ _) ho.out);have U7:=zh (keepU U7.out KgB.out (bk_like _ _ _ _ _ _ _ _ _) ho.out);have KgB : Hid (w4.heap[gB]? = some (.cells #[.string cb.f0,.int .i64 cb.f1,.slice A7 cb.f2.length c7,.slice D7 cb.f3.length d7,.int .u64 cb.f4] 26 (0,0))):=hk;have HG:=zo ho HG LgB;obtain ⟨a0,a1,a2,a3,a4⟩:=zz5 KgB.out;clear hk ho))
    | (go_at_call 19;go_must (refine (HPT.out A7 D7 c7 d7 _ E7.out x7 U7.out y7).mono ?_;rintro e w5 ⟨vt,rfl,⟨A4,c4,D4,d4,rfl,X4,Y4_,z3,z4⟩,hb⟩;have E4:=zh z3;have U4:=zh z4;have HG:=keepB HG hb;have E7:=zc E7 hb;have U7:=zc U7 hb;have KgB:=zk KgB hb;clear hb z3 z4 a0 a1 a2 a3 a4))
    | ((with_reducible refine gate_dst (N:=7) rfl ?_);go_must (refine zx HG (N:=7) (cs:=#[.string ⟨#[]⟩,.int .i64 0,.slice none 0 0,.slice none 0 0,.int .u64 0]) (t:=26) ?hr ?_;(case hr=>first | (go_simp;done) | (go_simp;rfl));intro g7 w6 Kg7 Lg7 HG hbelg7 hqg7;have N7:=zh (show gB < g7 by rw [hqg7];exact blk_lt KgB.out);have E7:=zc E7 hbelg7;have U7:=zc U7 hbelg7;have E4:=zc E4 hbelg7;have U4:=zc U4 hbelg7;have KgB:=zk KgB hbelg7;clear hbelg7 hqg7))
    | ((with_reducible refine gate_store (t:=26) (p:=7) (v:=.tmp 25) rfl ?_);go_must (refine zs 26 (.tmp 7) (.tmp 25) g7 0 26 [.string x0.f0,.int .i64 x0.f1,.slice A4 x0.f2.length c4,.slice D4 x0.f3.length d4,.int .u64 x0.f4] Kg7 isz_bucket ?_;intro w7 hk ho;have E7:=zh (keepE E7.out Kg7.out (bk_like _ _ _ _ _ _ _ _ _) ho.out);have U7:=zh (keepU U7.out Kg7.out (bk_like _ _ _ _ _ _ _ _ _) ho.out);have E4:=zh (keepE E4.out Kg7.out (bk_like _ _ _ _ _ _ _ _ _) ho.out);have U4:=zh (keepU U4.out Kg7.out (bk_like _ _ _ _ _ _ _ _ _) ho.out);have KgB:=zl ho KgB (by have:=N7.out;omega);have Kg7 : Hid (w7.heap[g7]? = some (.cells #[.string x0.f0,.int .i64 x0.f1,.slice A4 x0.f2.length c4,.slice D4 x0.f3.length d4,.int .u64 x0.f4] 26 (0,0))):=hk;have HG:=zo ho HG Lg7;obtain ⟨f0,f1,f2,f3,f4⟩:=zz5 Kg7.out;clear hk ho))
    | (go_at_call 20;go_must (refine (HOC.out A4 D4 c4 d4 _ E4.out X4 U4.out Y4_).mono ?_;rintro e w8 ⟨rfl,hb⟩;have HG:=keepB HG hb;clear hb))
    | (go_at_call 14;go_must (refine (HZ.out _).mono ?_;rintro e w20 ⟨rfl,hb⟩;have HG:=keepB HG hb;clear hb)))
   go_ret
   exact ⟨rfl,HG.out⟩
  by_cases hb6 : be = 6
  rotate_left
  ·have e0 : (be == 0) = false:=beq_eq_false_iff_ne.2 hbe
   have e6 : (be == 6) = false:=beq_eq_false_iff_ne.2 hb6
   have e7 : (be != 6) = true:=by unfold bne;rw [e6];rfl
   clear hok hst hno
   go_enter Tryz.func4,Tryz.ntmps4
   go_wp2_with (first
    | ((with_reducible refine gate_dst (N:=3) rfl ?_);go_must (refine zx HG (N:=3) (cs:=#[.string b.f0,.int .i64 b.f1,.slice A2 b.f2.length c2,.slice A3 b.f3.length c3,.int .u64 b.f4]) (t:=26) ?hr ?_;(case hr=>first | (go_simp;done) | (go_simp;rfl));intro gB w1 KgB LgB HG hbelgB hqgB;obtain ⟨a0,a1,a2,a3,a4⟩:=zz5 KgB.out;clear hbelgB hqgB))
    | (go_at_call 10;go_must (refine (HFW.out _ HG.out).mono ?_;rintro e w2 ⟨A7,c7,D7,d7,rfl,x7,y7,z3,z4,hb⟩;have E7:=zh z3;have U7:=zh z4;have HG:=keepB HG hb;have KgB:=zk KgB hb;clear hb z3 z4 a0 a1 a2 a3 a4))
    | (go_at_call 11;go_must (refine (HLK.out _).mono ?_;rintro e w3 ⟨rfl,hb⟩;have HG:=keepB HG hb;have KgB:=zk KgB hb;have E7:=zc E7 hb;have U7:=zc U7 hb;clear hb))
    | ((with_reducible refine gate_store (t:=26) (p:=3) (v:=.tmp 12) rfl ?_);go_must (refine zs 26 (.tmp 3) (.tmp 12) gB 0 26 [.string cb.f0,.int .i64 cb.f1,.slice A7 cb.f2.length c7,.slice D7 cb.f3.length d7,.int .u64 cb.f4] KgB isz_bucket ?_;intro w4 hk ho;have E7:=zh (keepE E7.out KgB.out (bk_like _ _ _ _ _ _ _ _ _) ho.out);have U7:=zh (keepU U7.out KgB.out (bk_like _ _ _ _ _ _ _ _ _) ho.out);have KgB : Hid (w4.heap[gB]? = some (.cells #[.string cb.f0,.int .i64 cb.f1,.slice A7 cb.f2.length c7,.slice D7 cb.f3.length d7,.int .u64 cb.f4] 26 (0,0))):=hk;have HG:=zo ho HG LgB;obtain ⟨a0,a1,a2,a3,a4⟩:=zz5 KgB.out;clear hk ho))
    | (go_at_call 19;go_must (refine (HPT.out A7 D7 c7 d7 _ E7.out x7 U7.out y7).mono ?_;rintro e w5 ⟨vt,rfl,⟨A4,c4,D4,d4,rfl,X4,Y4_,z3,z4⟩,hb⟩;have E4:=zh z3;have U4:=zh z4;have HG:=keepB HG hb;have E7:=zc E7 hb;have U7:=zc U7 hb;have KgB:=zk KgB hb;clear hb z3 z4 a0 a1 a2 a3 a4))
    | ((with_reducible refine gate_dst (N:=7) rfl ?_);go_must (refine zx HG (N:=7) (cs:=#[.string ⟨#[]⟩,.int .i64 0,.slice none 0 0,.slice none 0 0,.int .u64 0]) (t:=26) ?hr ?_;(case hr=>first | (go_simp;done) | (go_simp;rfl));intro g7 w6 Kg7 Lg7 HG hbelg7 hqg7;have N7:=zh (show gB < g7 by rw [hqg7];exact blk_lt KgB.out);have E7:=zc E7 hbelg7;have U7:=zc U7 hbelg7;have E4:=zc E4 hbelg7;have U4:=zc U4 hbelg7;have KgB:=zk KgB hbelg7;clear hbelg7 hqg7))
    | ((with_reducible refine gate_store (t:=26) (p:=7) (v:=.tmp 25) rfl ?_);go_must (refine zs 26 (.tmp 7) (.tmp 25) g7 0 26 [.string x0.f0,.int .i64 x0.f1,.slice A4 x0.f2.length c4,.slice D4 x0.f3.length d4,.int .u64 x0.f4] Kg7 isz_bucket ?_;intro w7 hk ho;have E7:=zh (keepE E7.out Kg7.out (bk_like _ _ _ _ _ _ _ _ _) ho.out);have U7:=zh (keepU U7.out Kg7.out (bk_like _ _ _ _ _ _ _ _ _) ho.out);have E4:=zh (keepE E4.out Kg7.out (bk_like _ _ _ _ _ _ _ _ _) ho.out);have U4:=zh (keepU U4.out Kg7.out (bk_like _ _ _ _ _ _ _ _ _) ho.out);have KgB:=zl ho KgB (by have:=N7.out;omega);have Kg7 : Hid (w7.heap[g7]? = some (.cells #[.string x0.f0,.int .i64 x0.f1,.slice A4 x0.f2.length c4,.slice D4 x0.f3.length d4,.int .u64 x0.f4] 26 (0,0))):=hk;have HG:=zo ho HG Lg7;obtain ⟨a0,a1,a2,a3,a4⟩:=zz5 KgB.out;clear hk ho))
    | (go_at_call 21;go_must (refine (HMY.out A7 D7 c7 d7 _ E7.out x7 U7.out y7).mono ?_;rintro e w8 ⟨⟨m,rfl⟩,hb⟩;have HG:=keepB HG hb;have E7:=zc E7 hb;have U7:=zc U7 hb;have KgB:=zk KgB hb;clear hb a0 a1 a2 a3 a4;obtain ⟨a0,a1,a2,a3,a4⟩:=zz5 KgB.out;cases m))
    | (go_at_call 14;go_must (refine (HZ.out _).mono ?_;rintro e w20 ⟨rfl,hb⟩;have HG:=keepB HG hb;clear hb)))
   all_goals go_ret
   all_goals exact ⟨rfl,HG.out⟩
  subst hb6
  have HNO : Hid ((∀ x ∈ cb.f2,x.f0 ≠ kk) → cb.f2.length < 60 → cb.f4 < 281474976710655 → 20000 < octB cb.f2 cb.f3 + (data.size : Int)):=fun h1 h2 h3=>(hno rfl h1 h2 h3).2
  clear hok hst hno hbe
  go_enter Tryz.func4,Tryz.ntmps4
  go_wp2_with (first
   | ((with_reducible refine gate_dst (N:=3) rfl ?_);go_must (refine zx HG (N:=3) (cs:=#[.string b.f0,.int .i64 b.f1,.slice A2 b.f2.length c2,.slice A3 b.f3.length c3,.int .u64 b.f4]) (t:=26) ?hr ?_;(case hr=>first | (go_simp;done) | (go_simp;rfl));intro gB w1 KgB LgB HG hbelgB hqgB;obtain ⟨a0,a1,a2,a3,a4⟩:=zz5 KgB.out;clear hbelgB hqgB))
   | (go_at_call 10;go_must (refine (HFW.out _ HG.out).mono ?_;rintro e w2 ⟨A7,c7,D7,d7,rfl,x7,y7,z3,z4,hb⟩;have E7:=zh z3;have U7:=zh z4;have HG:=keepB HG hb;have KgB:=zk KgB hb;clear hb z3 z4 a0 a1 a2 a3 a4))
   | (go_at_call 11;go_must (refine (HLK.out _).mono ?_;rintro e w3 ⟨rfl,hb⟩;have HG:=keepB HG hb;have KgB:=zk KgB hb;have E7:=zc E7 hb;have U7:=zc U7 hb;clear hb))
   | ((with_reducible refine gate_store (t:=26) (p:=3) (v:=.tmp 12) rfl ?_);go_must (refine zs 26 (.tmp 3) (.tmp 12) gB 0 26 [.string cb.f0,.int .i64 cb.f1,.slice A7 cb.f2.length c7,.slice D7 cb.f3.length d7,.int .u64 cb.f4] KgB isz_bucket ?_;intro w4 hk ho;have E7:=zh (keepE E7.out KgB.out (bk_like _ _ _ _ _ _ _ _ _) ho.out);have U7:=zh (keepU U7.out KgB.out (bk_like _ _ _ _ _ _ _ _ _) ho.out);have KgB : Hid (w4.heap[gB]? = some (.cells #[.string cb.f0,.int .i64 cb.f1,.slice A7 cb.f2.length c7,.slice D7 cb.f3.length d7,.int .u64 cb.f4] 26 (0,0))):=hk;have HG:=zo ho HG LgB;obtain ⟨a0,a1,a2,a3,a4⟩:=zz5 KgB.out;clear hk ho))
   | (go_at_call 19;go_must (refine (HPT.out A7 D7 c7 d7 _ E7.out x7 U7.out y7).mono ?_;rintro e w5 ⟨vt,rfl,⟨A4,c4,D4,d4,rfl,X4,Y4_,z3,z4⟩,hb⟩;have E4:=zh z3;have U4:=zh z4;have HG:=keepB HG hb;have E7:=zc E7 hb;have U7:=zc U7 hb;have KgB:=zk KgB hb;clear hb z3 z4 a0 a1 a2 a3 a4))
   | ((with_reducible refine gate_dst (N:=7) rfl ?_);go_must (refine zx HG (N:=7) (cs:=#[.string ⟨#[]⟩,.int .i64 0,.slice none 0 0,.slice none 0 0,.int .u64 0]) (t:=26) ?hr ?_;(case hr=>first | (go_simp;done) | (go_simp;rfl));intro g7 w6 Kg7 Lg7 HG hbelg7 hqg7;have N7:=zh (show gB < g7 by rw [hqg7];exact blk_lt KgB.out);have E7:=zc E7 hbelg7;have U7:=zc U7 hbelg7;have E4:=zc E4 hbelg7;have U4:=zc U4 hbelg7;have KgB:=zk KgB hbelg7;clear hbelg7 hqg7))
   | ((with_reducible refine gate_store (t:=26) (p:=7) (v:=.tmp 25) rfl ?_);go_must (refine zs 26 (.tmp 7) (.tmp 25) g7 0 26 [.string x0.f0,.int .i64 x0.f1,.slice A4 x0.f2.length c4,.slice D4 x0.f3.length d4,.int .u64 x0.f4] Kg7 isz_bucket ?_;intro w7 hk ho;have E7:=zh (keepE E7.out Kg7.out (bk_like _ _ _ _ _ _ _ _ _) ho.out);have U7:=zh (keepU U7.out Kg7.out (bk_like _ _ _ _ _ _ _ _ _) ho.out);have E4:=zh (keepE E4.out Kg7.out (bk_like _ _ _ _ _ _ _ _ _) ho.out);have U4:=zh (keepU U4.out Kg7.out (bk_like _ _ _ _ _ _ _ _ _) ho.out);have KgB:=zl ho KgB (by have:=N7.out;omega);have Kg7 : Hid (w7.heap[g7]? = some (.cells #[.string x0.f0,.int .i64 x0.f1,.slice A4 x0.f2.length c4,.slice D4 x0.f3.length d4,.int .u64 x0.f4] 26 (0,0))):=hk;have HG:=zo ho HG Lg7;obtain ⟨a0,a1,a2,a3,a4⟩:=zz5 KgB.out;clear hk ho))
   | (go_at_call 21;go_must (refine (HMY.out A7 D7 c7 d7 _ E7.out x7 U7.out y7).mono ?_;rintro e w8 ⟨⟨m,rfl⟩,hb⟩;have HG:=keepB HG hb;have E7:=zc E7 hb;have U7:=zc U7 hb;have KgB:=zk KgB hb;clear hb a0 a1 a2 a3 a4;obtain ⟨a0,a1,a2,a3,a4⟩:=zz5 KgB.out;cases m))
   | (go_at_call 14;go_must (refine (HZ.out _).mono ?_;rintro e w20 ⟨rfl,hb⟩;have HG:=keepB HG hb;clear hb)))
  all_goals (try (go_ret;exact ⟨rfl,HG.out⟩))
  go_loopw [10] (fun i wr=>∃ (k : Nat),i = .int .i64 k ∧ k ≤ cb.f2.length ∧ Hid (∀ j (hj : j < cb.f2.length),j < k → cb.f2[j].f0 ≠ kk) ∧ Hid (wr.heap[gB]? = some (.cells #[.string cb.f0,.int .i64 cb.f1,.slice A7 cb.f2.length c7,.slice D7 cb.f3.length d7,.int .u64 cb.f4] 26 (0,0))) ∧ Hid (Kd.C k56 wr A7 cb.f2.length cb.f2) ∧ Hid (Kd.C k101 wr D7 cb.f3.length cb.f3) ∧ Hid (Below w.heap.size w wr)) (fun i _=>cb.f2.length - (intOf i).toNat)
  case atStart=>exact ⟨0,rfl,Nat.zero_le _,(fun j _ h=>absurd h (Nat.not_lt_zero _)),KgB,E7,U7,HG⟩
  case round =>
   clear KgB HG a0 a1 a2 a3 a4 E7 U7 E4 U4
   try clear Kg7
   obtain ⟨k,rfl,hk,HNE,KgB,E7,U7,HG⟩:=hrel
   obtain ⟨a0,a1,a2,a3,a4⟩:=zz5 KgB.out;
   by_cases hlt : k < cb.f2.length
   ·have t0 : decide ((k : Int) < (cb.f2.length : Int)) = true:=decide_eq_true (by omega)
    have u2 : (0 : Int) ≤ (k : Int):=by omega
    have u3 : (k : Int) < (cb.f2.length : Int):=by omega
    have hln : (cb.f2.length : Int) ≤ 9223372036854775807:=by have:=E7.out.2.1;omega
    obtain ⟨ad,A1,g1,e1,c0,-,-,-⟩:=atEntry E7.out (Below.refl _ _) k hlt
    subst e1
    by_cases hkk : (cb.f2[k]'hlt).f0 = kk
    ·have hq : ((cb.f2[k]'hlt).f0.toList == kk.toList) = true:=by rw [hkk];exact beq_self_eq_true _
     clear hkk HNE HNO
     generalize (cb.f2[k]'hlt).f0 = z at *
     go_wp2_with (first
      | (go_at_call 14;go_must (refine (HZ.out _).mono ?_;rintro e w20 ⟨rfl,hb⟩;have HG:=keepB HG hb;clear hb)))
     go_ret
     exact ⟨rfl,HG.out⟩
    ·have hq : ((cb.f2[k]'hlt).f0.toList == kk.toList) = false:=by
      rw [beq_eq_false_iff_ne];exact fun h=>hkk (bytes_eq h)
     have HNE2 : Hid (∀ j (hj : j < cb.f2.length),j < k + 1 → cb.f2[j].f0 ≠ kk):=by
      intro j hj h
      rcases Nat.eq_or_lt_of_le (Nat.le_of_lt_succ h) with rfl | h2
      ·exact hkk
      ·exact HNE.out j hj h2
     clear hkk HNE HNO
     generalize (cb.f2[k]'hlt).f0 = z at *
     go_wp2
     go_roundw
     case rel=>exact ⟨k + 1,by go_num,hlt,HNE2,KgB,E7,U7,HG⟩
     case measure=>simp [intOf];omega
   ·obtain rfl : k = cb.f2.length:=by omega
    have t0 : decide ((cb.f2.length : Int) < (cb.f2.length : Int)) = false:=decide_eq_false (by omega)
    have hln : (cb.f2.length : Int) ≤ 9223372036854775807:=by have:=E7.out.2.1;omega
    have HN2 : Hid (cb.f2.length < 60 → cb.f4 < 281474976710655 → 20000 < octB cb.f2 cb.f3 + (data.size : Int)):=fun h1 h2=>HNO.out (fun x hx=>by
     obtain ⟨j,hj,rfl⟩:=List.getElem_of_mem hx
     exact HNE.out j hj hj) h1 h2
    clear HNO HNE
    have HOC : Hid (∀ (A D : Option Addr) (c d : Nat) (W : World),Kd.C k56 W A cb.f2.length cb.f2 → cb.f2.length ≤ c → Kd.C k101 W D cb.f3.length cb.f3 → cb.f3.length ≤ d → Calls Tryz.prog 20 #[.agg #[.string cb.f0,.int .i64 cb.f1,.slice A cb.f2.length c,.slice D cb.f3.length d,.int .u64 cb.f4]] W (fun e w'=>e = .returned (.int .i64 (octB cb.f2 cb.f3)) ∧ Below W.heap.size W w')):=fun A D c d W h2 g2 h3 g3=>cellarerref09_Octets.calls _ cb.f0 cb.f1 A c cb.f2 D d cb.f3 cb.f4 _ W h2 g2 h3 g3 (ro9_f cb.f0 cb.f1 cb.f4 cb.f2 cb.f3 (by unfold bigN;have:=HSM.out.1;omega) (fun x hx=>by unfold bigN;have:=HSM.out.2.1 x hx;omega) (by unfold bigN;have:=HSM.out.2.2.1;omega) (fun x hx=>by unfold bigN;have:=HSM.out.2.2.2 x hx;omega) HOB.out)
    have hoc : 0 ≤ octB cb.f2 cb.f3 ∧ octB cb.f2 cb.f3 ≤ 10000000:=by have:=HOL.out;unfold octB;omega
    generalize octB cb.f2 cb.f3 = oc at *
    have hds : (data.size : Int) ≤ 2000:=by have:=HDD.out;omega
    have hw1 : wrap64 (oc + (data.size : Int)) = oc + (data.size : Int):=wrap64_of (by omega) (by omega)
    have hw2 : IntKind.i64.wrap (oc + (data.size : Int)) = oc + (data.size : Int):=by rw [IntWalk.i64_in];exact ⟨by omega,by omega⟩
    by_cases h6 : cb.f2.length < 60
    ·have t6 : decide ((cb.f2.length : Int) < 60) = true:=decide_eq_true (by omega)
     by_cases hL : cb.f4 < 281474976710655
     ·have t7 : decide (cb.f4 < 281474976710655) = true:=decide_eq_true hL
      have t8 : decide (20000 < oc + (data.size : Int)) = true:=decide_eq_true (HN2.out h6 hL)
      clear HN2 h6 hL
      go_wp2_with (first
       | (go_at_call 20;go_must (refine (HOC.out A7 D7 c7 d7 _ E7.out x7 U7.out y7).mono ?_;rintro e w8 ⟨rfl,hb⟩;have HG:=keepB HG hb;clear hb))
       | (go_at_call 14;go_must (refine (HZ.out _).mono ?_;rintro e w20 ⟨rfl,hb⟩;have HG:=keepB HG hb;clear hb)))
      go_ret
      exact ⟨rfl,HG.out⟩
     ·have t7 : decide (cb.f4 < 281474976710655) = false:=decide_eq_false hL
      clear HN2 h6 hL HOC
      go_wp2_with (first
       | (go_at_call 14;go_must (refine (HZ.out _).mono ?_;rintro e w20 ⟨rfl,hb⟩;have HG:=keepB HG hb;clear hb)))
      go_ret
      exact ⟨rfl,HG.out⟩
    ·have t6 : decide ((cb.f2.length : Int) < 60) = false:=decide_eq_false (by omega)
     clear HN2 h6 HOC
     go_wp2_with (first
      | (go_at_call 14;go_must (refine (HZ.out _).mono ?_;rintro e w20 ⟨rfl,hb⟩;have HG:=keepB HG hb;clear hb)))
     go_ret
     exact ⟨rfl,HG.out⟩
end
end Go.Proofs.YtekooapbdgippaaGreatDoor.Q
namespace Go.Proofs.YtekooapbdgippaaGreatDoor.Q
open Go.ChangeShapes Go.WideShapes Go.ChangeAt Go.WideMaps Go.WideElems Go.RowKit
set_option linter.unusedVariables false

theorem own : ownKnob Tryz.prog.godebug = none:=by kernel_rfl
theorem laidOut : laidOutB Tryz.prog = true:=by kernel_rfl
noncomputable abbrev laid3:=Rows.bucketOffRow.laid
/-- The door's own heap meets the condition. -/
theorem door_met (os : Os) (args : Array Value) : laidMetH Tryz.prog laid3 ((World.doorLaid Tryz.prog 400 os).forCall (fun _ _=>0) ⟨#[],args,[]⟩).memory :=
 laidMetH_of_parts3 (fuel:=8) (laidMet_of_run' 8 (by kernel_rfl) (by kernel_rfl)) (by kernel_rfl) (by kernel_rfl)
end Go.Proofs.YtekooapbdgippaaGreatDoor.Q
