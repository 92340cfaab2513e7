/- BucketRoom holds for every input: a bucket never has more octets than may be; a version for which there is no room is refused. The conditions are those of the row: every bucket, key and data that the types of the program allow. Part 25 of 26. -/
import Derived.Test.YtekooapbdgippaaGreatDoorBr3
import Derived.Test.YtekooapbdgippaaGreatDoorBr1
import Derived.Test.YtekooapbdgippaaGreatDoorBr2
namespace Go.Proofs.YtekooapbdgippaaGreatDoor.Q
open Go.RowKit Go.Proofs.YtekooapbdgippaaGreatDoorW.PrintWords Go.Proofs.YtekooapbdgippaaGreatDoorW.PrintLast Go.Proofs.YtekooapbdgippaaGreatDoorW.PrintMore
open List renaming getElem_toArray → zA, getElem_cons_zero → zB, getElem_cons_succ → zC, setIfInBounds_toArray → zD, set_cons_zero → zE, set_cons_succ → zF
set_option linter.unusedVariables false
set_option linter.unusedSimpArgs false
set_option maxHeartbeats 8000000
set_option maxRecDepth 100000
section
open Go.WideMaps Go.Maps
attribute [local go_sem] Oper.semAt_some
def turnB (b : S26) (st : Int) : S26 × Int:=if bucketB b = false ∨ st < 0 ∨ 2 < st then (b,1) else if st = 0 ∧ b.f1 ≠ 0 then (b,8) else (⟨b.f0,st,b.f2,b.f3,b.f4⟩,0)
theorem turn_a (b : S26) (A2 A3 : Option Addr) (c2 c3 : Nat) (st : Int) (w : World) (h2 : Kd.C k56 w A2 b.f2.length b.f2) (g2 : b.f2.length ≤ c2) (h3 : Kd.C k101 w A3 b.f3.length b.f3) (g3 : b.f3.length ≤ c3) (hb : bucketB b = false)  :
  Calls Tryz.prog 27 #[.agg #[.string b.f0,.int .i64 b.f1,.slice A2 b.f2.length c2,.slice A3 b.f3.length c3,.int .u64 b.f4],.int .i64 st] w fun e w'=>e = .returned (.tuple #[.agg #[.string b.f0,.int .i64 b.f1,.slice A2 b.f2.length c2,.slice A3 b.f3.length c3,.int .u64 b.f4],.int .i64 1]) ∧ Below w.heap.size w w':=by
 have HC:=zh (fun (W : World) (h : Below w.heap.size w W)=>bucket.walk b A2 A3 c2 c3 W (Kd.C_below h2 h) g2 (Kd.C_below h3 h) g3)
 have e0 : errB (bucketB b) = 1:=by rw [hb];rfl
 rw [e0] at HC
 have HB:=zh (Below.refl w.heap.size w)
 clear h2 h3 g2 g3 hb e0
 go_enter Tryz.func27,Tryz.ntmps27
 go_wp2_with (first
  | ((with_reducible refine gate_dst (N:=2) rfl ?_);go_must (refine zx HB (N:=2) (cs:=#[.string b.f0,.int .i64 b.f1,.slice A2 b.f2.length c2,.slice A3 b.f3.length c3,.int .u64 b.f4]) (t:=26) ?hr ?_;(case hr=>first | (go_simp;done) | (go_simp;rfl));intro gb w1 Kgb Lgb HB hbelgb hqgb;clear hbelgb hqgb))
  | ((with_reducible refine gate_dst (N:=4) rfl ?_);go_must (refine zx HB (N:=4) (cs:=#[.string ⟨#[]⟩,.int .i64 0,.slice none 0 0,.slice none 0 0,.int .u64 0]) (t:=26) ?hr ?_;(case hr=>first | (go_simp;done) | (go_simp;rfl));intro go w2 Kgo Lgo HB hbelgo hqgo;have M1:=zh (show gb < go by rw [hqgo];exact blk_lt Kgb.out);have Kgb:=zk Kgb hbelgo;obtain ⟨a0,a1,a2,a3,a4⟩:=zz5 Kgb.out;clear hbelgo hqgo))
  | (go_at_call 25;go_must (refine (HC.out _ HB.out).mono ?_;rintro e w3 ⟨rfl,hb⟩;have HB:=keepB HB hb;have Kgb:=zk Kgb hb;have Kgo:=zk Kgo hb;obtain ⟨m0,m1,m2,m3,m4⟩:=zz5 Kgb.out;clear hb a0 a1 a2 a3 a4))
  | ((with_reducible refine gate_store (t:=26) (p:=4) (v:=.tmp 18) rfl ?_);go_must (refine zs 26 (.tmp 4) (.tmp 18) go 0 26 [.string b.f0,.int .i64 b.f1,.slice A2 b.f2.length c2,.slice A3 b.f3.length c3,.int .u64 b.f4] Kgo isz_bucket ?_;intro w5 hk ho;have HB:=zo ho HB Lgo;obtain ⟨z0,z1,z2,z3,z4⟩:=zz5 hk.out;clear hk ho)))
 refine bodyPost_ret (v:=.tuple #[.agg #[.string b.f0,.int .i64 b.f1,.slice A2 b.f2.length c2,.slice A3 b.f3.length c3,.int .u64 b.f4],.int .i64 1]) (by simp [results,Tryz.results27,go_sem,z0,z1,z2,z3,z4]) rfl ?_
 exact ⟨rfl,HB.out⟩
theorem turn_b (b : S26) (A2 A3 : Option Addr) (c2 c3 : Nat) (st : Int) (w : World) (h2 : Kd.C k56 w A2 b.f2.length b.f2) (g2 : b.f2.length ≤ c2) (h3 : Kd.C k101 w A3 b.f3.length b.f3) (g3 : b.f3.length ≤ c3) (hb : bucketB b = true) (hs : st < 0) :
  Calls Tryz.prog 27 #[.agg #[.string b.f0,.int .i64 b.f1,.slice A2 b.f2.length c2,.slice A3 b.f3.length c3,.int .u64 b.f4],.int .i64 st] w fun e w'=>e = .returned (.tuple #[.agg #[.string b.f0,.int .i64 b.f1,.slice A2 b.f2.length c2,.slice A3 b.f3.length c3,.int .u64 b.f4],.int .i64 1]) ∧ Below w.heap.size w w':=by
 have HC:=zh (fun (W : World) (h : Below w.heap.size w W)=>bucket.walk b A2 A3 c2 c3 W (Kd.C_below h2 h) g2 (Kd.C_below h3 h) g3)
 have e0 : errB (bucketB b) = 0:=by rw [hb];rfl
 rw [e0] at HC
 have q0:=(decide_eq_true (by omega) : decide (st < 0) = true)
 have HB:=zh (Below.refl w.heap.size w)
 clear h2 h3 g2 g3 hb e0
 go_enter Tryz.func27,Tryz.ntmps27
 go_wp2_with (first
  | ((with_reducible refine gate_dst (N:=2) rfl ?_);go_must (refine zx HB (N:=2) (cs:=#[.string b.f0,.int .i64 b.f1,.slice A2 b.f2.length c2,.slice A3 b.f3.length c3,.int .u64 b.f4]) (t:=26) ?hr ?_;(case hr=>first | (go_simp;done) | (go_simp;rfl));intro gb w1 Kgb Lgb HB hbelgb hqgb;clear hbelgb hqgb))
  | ((with_reducible refine gate_dst (N:=4) rfl ?_);go_must (refine zx HB (N:=4) (cs:=#[.string ⟨#[]⟩,.int .i64 0,.slice none 0 0,.slice none 0 0,.int .u64 0]) (t:=26) ?hr ?_;(case hr=>first | (go_simp;done) | (go_simp;rfl));intro go w2 Kgo Lgo HB hbelgo hqgo;have M1:=zh (show gb < go by rw [hqgo];exact blk_lt Kgb.out);have Kgb:=zk Kgb hbelgo;obtain ⟨a0,a1,a2,a3,a4⟩:=zz5 Kgb.out;clear hbelgo hqgo))
  | (go_at_call 25;go_must (refine (HC.out _ HB.out).mono ?_;rintro e w3 ⟨rfl,hb⟩;have HB:=keepB HB hb;have Kgb:=zk Kgb hb;have Kgo:=zk Kgo hb;obtain ⟨m0,m1,m2,m3,m4⟩:=zz5 Kgb.out;clear hb a0 a1 a2 a3 a4))
  | ((with_reducible refine gate_store (t:=26) (p:=4) (v:=.tmp 18) rfl ?_);go_must (refine zs 26 (.tmp 4) (.tmp 18) go 0 26 [.string b.f0,.int .i64 b.f1,.slice A2 b.f2.length c2,.slice A3 b.f3.length c3,.int .u64 b.f4] Kgo isz_bucket ?_;intro w5 hk ho;have HB:=zo ho HB Lgo;obtain ⟨z0,z1,z2,z3,z4⟩:=zz5 hk.out;clear hk ho)))
 refine bodyPost_ret (v:=.tuple #[.agg #[.string b.f0,.int .i64 b.f1,.slice A2 b.f2.length c2,.slice A3 b.f3.length c3,.int .u64 b.f4],.int .i64 1]) (by simp [results,Tryz.results27,go_sem,z0,z1,z2,z3,z4]) rfl ?_
 exact ⟨rfl,HB.out⟩
theorem turn_c (b : S26) (A2 A3 : Option Addr) (c2 c3 : Nat) (st : Int) (w : World) (h2 : Kd.C k56 w A2 b.f2.length b.f2) (g2 : b.f2.length ≤ c2) (h3 : Kd.C k101 w A3 b.f3.length b.f3) (g3 : b.f3.length ≤ c3) (hb : bucketB b = true) (hs : 2 < st) :
  Calls Tryz.prog 27 #[.agg #[.string b.f0,.int .i64 b.f1,.slice A2 b.f2.length c2,.slice A3 b.f3.length c3,.int .u64 b.f4],.int .i64 st] w fun e w'=>e = .returned (.tuple #[.agg #[.string b.f0,.int .i64 b.f1,.slice A2 b.f2.length c2,.slice A3 b.f3.length c3,.int .u64 b.f4],.int .i64 1]) ∧ Below w.heap.size w w':=by
 have HC:=zh (fun (W : World) (h : Below w.heap.size w W)=>bucket.walk b A2 A3 c2 c3 W (Kd.C_below h2 h) g2 (Kd.C_below h3 h) g3)
 have e0 : errB (bucketB b) = 0:=by rw [hb];rfl
 rw [e0] at HC
 have q0:=(decide_eq_false (by omega) : decide (st < 0) = false)
 have q1:=(decide_eq_true (by omega) : decide (2 < st) = true)
 have q2:=(decide_eq_true (by omega) : decide (st > 2) = true)
 have HB:=zh (Below.refl w.heap.size w)
 clear h2 h3 g2 g3 hb e0
 go_enter Tryz.func27,Tryz.ntmps27
 go_wp2_with (first
  | ((with_reducible refine gate_dst (N:=2) rfl ?_);go_must (refine zx HB (N:=2) (cs:=#[.string b.f0,.int .i64 b.f1,.slice A2 b.f2.length c2,.slice A3 b.f3.length c3,.int .u64 b.f4]) (t:=26) ?hr ?_;(case hr=>first | (go_simp;done) | (go_simp;rfl));intro gb w1 Kgb Lgb HB hbelgb hqgb;clear hbelgb hqgb))
  | ((with_reducible refine gate_dst (N:=4) rfl ?_);go_must (refine zx HB (N:=4) (cs:=#[.string ⟨#[]⟩,.int .i64 0,.slice none 0 0,.slice none 0 0,.int .u64 0]) (t:=26) ?hr ?_;(case hr=>first | (go_simp;done) | (go_simp;rfl));intro go w2 Kgo Lgo HB hbelgo hqgo;have M1:=zh (show gb < go by rw [hqgo];exact blk_lt Kgb.out);have Kgb:=zk Kgb hbelgo;obtain ⟨a0,a1,a2,a3,a4⟩:=zz5 Kgb.out;clear hbelgo hqgo))
  | (go_at_call 25;go_must (refine (HC.out _ HB.out).mono ?_;rintro e w3 ⟨rfl,hb⟩;have HB:=keepB HB hb;have Kgb:=zk Kgb hb;have Kgo:=zk Kgo hb;obtain ⟨m0,m1,m2,m3,m4⟩:=zz5 Kgb.out;clear hb a0 a1 a2 a3 a4))
  | ((with_reducible refine gate_store (t:=26) (p:=4) (v:=.tmp 18) rfl ?_);go_must (refine zs 26 (.tmp 4) (.tmp 18) go 0 26 [.string b.f0,.int .i64 b.f1,.slice A2 b.f2.length c2,.slice A3 b.f3.length c3,.int .u64 b.f4] Kgo isz_bucket ?_;intro w5 hk ho;have HB:=zo ho HB Lgo;obtain ⟨z0,z1,z2,z3,z4⟩:=zz5 hk.out;clear hk ho)))
 refine bodyPost_ret (v:=.tuple #[.agg #[.string b.f0,.int .i64 b.f1,.slice A2 b.f2.length c2,.slice A3 b.f3.length c3,.int .u64 b.f4],.int .i64 1]) (by simp [results,Tryz.results27,go_sem,z0,z1,z2,z3,z4]) rfl ?_
 exact ⟨rfl,HB.out⟩
theorem turn_d (b : S26) (A2 A3 : Option Addr) (c2 c3 : Nat) (w : World) (h2 : Kd.C k56 w A2 b.f2.length b.f2) (g2 : b.f2.length ≤ c2) (h3 : Kd.C k101 w A3 b.f3.length b.f3) (g3 : b.f3.length ≤ c3) (hb : bucketB b = true) (hf : b.f1 ≠ 0) :
  Calls Tryz.prog 27 #[.agg #[.string b.f0,.int .i64 b.f1,.slice A2 b.f2.length c2,.slice A3 b.f3.length c3,.int .u64 b.f4],.int .i64 0] w fun e w'=>e = .returned (.tuple #[.agg #[.string b.f0,.int .i64 b.f1,.slice A2 b.f2.length c2,.slice A3 b.f3.length c3,.int .u64 b.f4],.int .i64 8]) ∧ Below w.heap.size w w':=by
 have HC:=zh (fun (W : World) (h : Below w.heap.size w W)=>bucket.walk b A2 A3 c2 c3 W (Kd.C_below h2 h) g2 (Kd.C_below h3 h) g3)
 have e0 : errB (bucketB b) = 0:=by rw [hb];rfl
 rw [e0] at HC
 have r0 : (b.f1 == 0) = false:=beq_eq_false_iff_ne.2 hf
 have rn0 : (b.f1 != 0) = true:=by rw [bne,r0];rfl
 have HB:=zh (Below.refl w.heap.size w)
 clear h2 h3 g2 g3 hb e0
 go_enter Tryz.func27,Tryz.ntmps27
 go_wp2_with (first
  | ((with_reducible refine gate_dst (N:=2) rfl ?_);go_must (refine zx HB (N:=2) (cs:=#[.string b.f0,.int .i64 b.f1,.slice A2 b.f2.length c2,.slice A3 b.f3.length c3,.int .u64 b.f4]) (t:=26) ?hr ?_;(case hr=>first | (go_simp;done) | (go_simp;rfl));intro gb w1 Kgb Lgb HB hbelgb hqgb;clear hbelgb hqgb))
  | ((with_reducible refine gate_dst (N:=4) rfl ?_);go_must (refine zx HB (N:=4) (cs:=#[.string ⟨#[]⟩,.int .i64 0,.slice none 0 0,.slice none 0 0,.int .u64 0]) (t:=26) ?hr ?_;(case hr=>first | (go_simp;done) | (go_simp;rfl));intro go w2 Kgo Lgo HB hbelgo hqgo;have M1:=zh (show gb < go by rw [hqgo];exact blk_lt Kgb.out);have Kgb:=zk Kgb hbelgo;obtain ⟨a0,a1,a2,a3,a4⟩:=zz5 Kgb.out;clear hbelgo hqgo))
  | (go_at_call 25;go_must (refine (HC.out _ HB.out).mono ?_;rintro e w3 ⟨rfl,hb⟩;have HB:=keepB HB hb;have Kgb:=zk Kgb hb;have Kgo:=zk Kgo hb;obtain ⟨m0,m1,m2,m3,m4⟩:=zz5 Kgb.out;clear hb a0 a1 a2 a3 a4))
  | ((with_reducible refine gate_store (t:=26) (p:=4) (v:=.tmp 27) rfl ?_);go_must (refine zs 26 (.tmp 4) (.tmp 27) go 0 26 [.string b.f0,.int .i64 b.f1,.slice A2 b.f2.length c2,.slice A3 b.f3.length c3,.int .u64 b.f4] Kgo isz_bucket ?_;intro w5 hk ho;have HB:=zo ho HB Lgo;obtain ⟨z0,z1,z2,z3,z4⟩:=zz5 hk.out;clear hk ho)))
 refine bodyPost_ret (v:=.tuple #[.agg #[.string b.f0,.int .i64 b.f1,.slice A2 b.f2.length c2,.slice A3 b.f3.length c3,.int .u64 b.f4],.int .i64 8]) (by simp [results,Tryz.results27,go_sem,z0,z1,z2,z3,z4]) rfl ?_
 exact ⟨rfl,HB.out⟩
theorem turn_e (b : S26) (A2 A3 : Option Addr) (c2 c3 : Nat) (st : Int) (w : World) (h2 : Kd.C k56 w A2 b.f2.length b.f2) (g2 : b.f2.length ≤ c2) (h3 : Kd.C k101 w A3 b.f3.length b.f3) (g3 : b.f3.length ≤ c3) (hb : bucketB b = true) (hs : st = 0) (hf : b.f1 = 0) :
  Calls Tryz.prog 27 #[.agg #[.string b.f0,.int .i64 b.f1,.slice A2 b.f2.length c2,.slice A3 b.f3.length c3,.int .u64 b.f4],.int .i64 st] w fun e w'=>e = .returned (.tuple #[.agg #[.string b.f0,.int .i64 st,.slice A2 b.f2.length c2,.slice A3 b.f3.length c3,.int .u64 b.f4],.int .i64 0]) ∧ Below w.heap.size w w':=by
 have HC:=zh (fun (W : World) (h : Below w.heap.size w W)=>bucket.walk b A2 A3 c2 c3 W (Kd.C_below h2 h) g2 (Kd.C_below h3 h) g3)
 have e0 : errB (bucketB b) = 0:=by rw [hb];rfl
 rw [e0] at HC
 have q0:=(decide_eq_false (by omega) : decide (st < 0) = false)
 have q1:=(decide_eq_false (by omega) : decide (2 < st) = false)
 have q2:=(decide_eq_false (by omega) : decide (st > 2) = false)
 have r0 : (st == 0) = true:=beq_iff_eq.2 hs
 have rn0 : (st != 0) = false:=by rw [bne,r0];rfl
 have r1 : (b.f1 == 0) = true:=beq_iff_eq.2 hf
 have rn1 : (b.f1 != 0) = false:=by rw [bne,r1];rfl
 clear hs hf
 have HB:=zh (Below.refl w.heap.size w)
 clear h2 h3 g2 g3 hb e0
 go_enter Tryz.func27,Tryz.ntmps27
 go_wp2_with (first
  | ((with_reducible refine gate_dst (N:=2) rfl ?_);go_must (refine zx HB (N:=2) (cs:=#[.string b.f0,.int .i64 b.f1,.slice A2 b.f2.length c2,.slice A3 b.f3.length c3,.int .u64 b.f4]) (t:=26) ?hr ?_;(case hr=>first | (go_simp;done) | (go_simp;rfl));intro gb w1 Kgb Lgb HB hbelgb hqgb;clear hbelgb hqgb))
  | ((with_reducible refine gate_dst (N:=4) rfl ?_);go_must (refine zx HB (N:=4) (cs:=#[.string ⟨#[]⟩,.int .i64 0,.slice none 0 0,.slice none 0 0,.int .u64 0]) (t:=26) ?hr ?_;(case hr=>first | (go_simp;done) | (go_simp;rfl));intro go w2 Kgo Lgo HB hbelgo hqgo;have M1:=zh (show gb < go by rw [hqgo];exact blk_lt Kgb.out);have Kgb:=zk Kgb hbelgo;obtain ⟨a0,a1,a2,a3,a4⟩:=zz5 Kgb.out;clear hbelgo hqgo))
  | (go_at_call 25;go_must (refine (HC.out _ HB.out).mono ?_;rintro e w3 ⟨rfl,hb⟩;have HB:=keepB HB hb;have Kgb:=zk Kgb hb;have Kgo:=zk Kgo hb;obtain ⟨m0,m1,m2,m3,m4⟩:=zz5 Kgb.out;clear hb a0 a1 a2 a3 a4))
  | ((with_reducible refine gate_store (t:=3) (p:=29) (v:=.tmp 28) rfl ?_);go_must (refine zq 3 (.tmp 29) (.tmp 28) gb 1 26 (.int .i64 st) Kgb (by kernel_rfl) ?_;intro w4 hk ho;have Kgb : Hid (w4.heap[gb]? = some (.cells #[.string b.f0,.int .i64 st,.slice A2 b.f2.length c2,.slice A3 b.f3.length c3,.int .u64 b.f4] 26 (0,0))):=hk;have HB:=zo ho HB Lgb;have Kgo:=zl ho Kgo (by have:=M1.out;omega);obtain ⟨n0,n1,n2,n3,n4⟩:=zz5 Kgb.out;clear m0 m1 m2 m3 m4;clear hk ho))
  | ((with_reducible refine gate_store (t:=26) (p:=4) (v:=.tmp 30) rfl ?_);go_must (refine zs 26 (.tmp 4) (.tmp 30) go 0 26 [.string b.f0,.int .i64 st,.slice A2 b.f2.length c2,.slice A3 b.f3.length c3,.int .u64 b.f4] Kgo isz_bucket ?_;intro w5 hk ho;have HB:=zo ho HB Lgo;obtain ⟨z0,z1,z2,z3,z4⟩:=zz5 hk.out;clear hk ho)))
 refine bodyPost_ret (v:=.tuple #[.agg #[.string b.f0,.int .i64 st,.slice A2 b.f2.length c2,.slice A3 b.f3.length c3,.int .u64 b.f4],.int .i64 0]) (by simp [results,Tryz.results27,go_sem,z0,z1,z2,z3,z4]) rfl ?_
 exact ⟨rfl,HB.out⟩
theorem turn_f (b : S26) (A2 A3 : Option Addr) (c2 c3 : Nat) (st : Int) (w : World) (h2 : Kd.C k56 w A2 b.f2.length b.f2) (g2 : b.f2.length ≤ c2) (h3 : Kd.C k101 w A3 b.f3.length b.f3) (g3 : b.f3.length ≤ c3) (hb : bucketB b = true) (hs : 0 < st) (hs2 : st ≤ 2) :
  Calls Tryz.prog 27 #[.agg #[.string b.f0,.int .i64 b.f1,.slice A2 b.f2.length c2,.slice A3 b.f3.length c3,.int .u64 b.f4],.int .i64 st] w fun e w'=>e = .returned (.tuple #[.agg #[.string b.f0,.int .i64 st,.slice A2 b.f2.length c2,.slice A3 b.f3.length c3,.int .u64 b.f4],.int .i64 0]) ∧ Below w.heap.size w w':=by
 have HC:=zh (fun (W : World) (h : Below w.heap.size w W)=>bucket.walk b A2 A3 c2 c3 W (Kd.C_below h2 h) g2 (Kd.C_below h3 h) g3)
 have e0 : errB (bucketB b) = 0:=by rw [hb];rfl
 rw [e0] at HC
 have q0:=(decide_eq_false (by omega) : decide (st < 0) = false)
 have q1:=(decide_eq_false (by omega) : decide (2 < st) = false)
 have q2:=(decide_eq_false (by omega) : decide (st > 2) = false)
 have r0 : (st == 0) = false:=beq_eq_false_iff_ne.2 (by omega)
 have rn0 : (st != 0) = true:=by rw [bne,r0];rfl
 have HB:=zh (Below.refl w.heap.size w)
 clear h2 h3 g2 g3 hb e0
 go_enter Tryz.func27,Tryz.ntmps27
 go_wp2_with (first
  | ((with_reducible refine gate_dst (N:=2) rfl ?_);go_must (refine zx HB (N:=2) (cs:=#[.string b.f0,.int .i64 b.f1,.slice A2 b.f2.length c2,.slice A3 b.f3.length c3,.int .u64 b.f4]) (t:=26) ?hr ?_;(case hr=>first | (go_simp;done) | (go_simp;rfl));intro gb w1 Kgb Lgb HB hbelgb hqgb;clear hbelgb hqgb))
  | ((with_reducible refine gate_dst (N:=4) rfl ?_);go_must (refine zx HB (N:=4) (cs:=#[.string ⟨#[]⟩,.int .i64 0,.slice none 0 0,.slice none 0 0,.int .u64 0]) (t:=26) ?hr ?_;(case hr=>first | (go_simp;done) | (go_simp;rfl));intro go w2 Kgo Lgo HB hbelgo hqgo;have M1:=zh (show gb < go by rw [hqgo];exact blk_lt Kgb.out);have Kgb:=zk Kgb hbelgo;obtain ⟨a0,a1,a2,a3,a4⟩:=zz5 Kgb.out;clear hbelgo hqgo))
  | (go_at_call 25;go_must (refine (HC.out _ HB.out).mono ?_;rintro e w3 ⟨rfl,hb⟩;have HB:=keepB HB hb;have Kgb:=zk Kgb hb;have Kgo:=zk Kgo hb;obtain ⟨m0,m1,m2,m3,m4⟩:=zz5 Kgb.out;clear hb a0 a1 a2 a3 a4))
  | ((with_reducible refine gate_store (t:=3) (p:=29) (v:=.tmp 28) rfl ?_);go_must (refine zq 3 (.tmp 29) (.tmp 28) gb 1 26 (.int .i64 st) Kgb (by kernel_rfl) ?_;intro w4 hk ho;have Kgb : Hid (w4.heap[gb]? = some (.cells #[.string b.f0,.int .i64 st,.slice A2 b.f2.length c2,.slice A3 b.f3.length c3,.int .u64 b.f4] 26 (0,0))):=hk;have HB:=zo ho HB Lgb;have Kgo:=zl ho Kgo (by have:=M1.out;omega);obtain ⟨n0,n1,n2,n3,n4⟩:=zz5 Kgb.out;clear m0 m1 m2 m3 m4;clear hk ho))
  | ((with_reducible refine gate_store (t:=26) (p:=4) (v:=.tmp 30) rfl ?_);go_must (refine zs 26 (.tmp 4) (.tmp 30) go 0 26 [.string b.f0,.int .i64 st,.slice A2 b.f2.length c2,.slice A3 b.f3.length c3,.int .u64 b.f4] Kgo isz_bucket ?_;intro w5 hk ho;have HB:=zo ho HB Lgo;obtain ⟨z0,z1,z2,z3,z4⟩:=zz5 hk.out;clear hk ho)))
 refine bodyPost_ret (v:=.tuple #[.agg #[.string b.f0,.int .i64 st,.slice A2 b.f2.length c2,.slice A3 b.f3.length c3,.int .u64 b.f4],.int .i64 0]) (by simp [results,Tryz.results27,go_sem,z0,z1,z2,z3,z4]) rfl ?_
 exact ⟨rfl,HB.out⟩
theorem turnB.walk (b : S26) (A2 A3 : Option Addr) (c2 c3 : Nat) (st : Int) (w : World) (h2 : Kd.C k56 w A2 b.f2.length b.f2) (g2 : b.f2.length ≤ c2) (h3 : Kd.C k101 w A3 b.f3.length b.f3) (g3 : b.f3.length ≤ c3) :
  Calls Tryz.prog 27 #[.agg #[.string b.f0,.int .i64 b.f1,.slice A2 b.f2.length c2,.slice A3 b.f3.length c3,.int .u64 b.f4],.int .i64 st] w (BkPost (turnB b st).1 [.int .i64 (turnB b st).2] w):=by
 have fin : ∀ (x : S26) (er : Int),x.f2 = b.f2 → x.f3 = b.f3 → Calls Tryz.prog 27 #[.agg #[.string b.f0,.int .i64 b.f1,.slice A2 b.f2.length c2,.slice A3 b.f3.length c3,.int .u64 b.f4],.int .i64 st] w (fun e w'=>e = .returned (.tuple #[.agg #[.string x.f0,.int .i64 x.f1,.slice A2 b.f2.length c2,.slice A3 b.f3.length c3,.int .u64 x.f4],.int .i64 er]) ∧ Below w.heap.size w w') → Calls Tryz.prog 27 #[.agg #[.string b.f0,.int .i64 b.f1,.slice A2 b.f2.length c2,.slice A3 b.f3.length c3,.int .u64 b.f4],.int .i64 st] w (BkPost x [.int .i64 er] w):=by
  intro x er e2 e3 h
  refine h.mono ?_
  rintro e w' ⟨rfl,hb⟩
  exact ⟨_,rfl,⟨A2,c2,A3,c3,by rw [e2,e3],by rw [e2];exact g2,by rw [e3];exact g3,by rw [e2];exact Kd.C_below h2 hb,by rw [e3];exact Kd.C_below h3 hb⟩,hb⟩
 unfold turnB
 cases hb : bucketB b with
 | false=>rw [if_pos (Or.inl rfl)];exact fin b 1 rfl rfl (turn_a b A2 A3 c2 c3 st w h2 g2 h3 g3 hb)
 | true =>
  by_cases s0 : st < 0
  ·rw [if_pos (Or.inr (Or.inl s0))];exact fin b 1 rfl rfl (turn_b b A2 A3 c2 c3 st w h2 g2 h3 g3 hb s0)
  ·by_cases s2 : 2 < st
   ·rw [if_pos (Or.inr (Or.inr s2))];exact fin b 1 rfl rfl (turn_c b A2 A3 c2 c3 st w h2 g2 h3 g3 hb s2)
   ·rw [if_neg (by rintro (h | h | h);cases h;exact s0 h;exact s2 h)]
    by_cases z : st = 0
    ·by_cases hf : b.f1 = 0
     ·rw [if_neg (by rintro ⟨_,h⟩;exact h hf)];exact fin ⟨b.f0,st,b.f2,b.f3,b.f4⟩ 0 rfl rfl (turn_e b A2 A3 c2 c3 st w h2 g2 h3 g3 hb z hf)
     ·subst z;rw [if_pos ⟨rfl,hf⟩];exact fin b 8 rfl rfl (turn_d b A2 A3 c2 c3 w h2 g2 h3 g3 hb hf)
    ·rw [if_neg (by rintro ⟨h,_⟩;exact z h)];exact fin ⟨b.f0,st,b.f2,b.f3,b.f4⟩ 0 rfl rfl (turn_f b A2 A3 c2 c3 st w h2 g2 h3 g3 hb (by omega) (by omega))
end
section
open Go.WideMaps Go.Maps
attribute [local go_sem] Oper.semAt_some
def getB (b : S26) (key : ByteArray) : S47 × Int:=if openR b key = 0 then atV (getE b.f2 key) 0 else (z47,openR b key)
theorem getB_ok (b : S26) (A2 A3 : Option Addr) (c2 c3 : Nat) (key : ByteArray) (w : World) (h2 : Kd.C k56 w A2 b.f2.length b.f2) (g2 : b.f2.length ≤ c2) (h3 : Kd.C k101 w A3 b.f3.length b.f3) (g3 : b.f3.length ≤ c3) (ho : openR b key = 0) :
  Calls Tryz.prog 18 #[.agg #[.string b.f0,.int .i64 b.f1,.slice A2 b.f2.length c2,.slice A3 b.f3.length c3,.int .u64 b.f4],.string key] w (OnePost (atV (getE b.f2 key) 0).1 (atV (getE b.f2 key) 0).2 w):=by
 have H2:=zh (fun (W : World) (h : Below w.heap.size w W)=>Kd.C_below h2 h)
 have H3:=zh (fun (W : World) (h : Below w.heap.size w W)=>Kd.C_below h3 h)
 have HOP:=zh (fun (W : World) (h : Below w.heap.size w W)=>open.walk b A2 A3 c2 c3 key W (Kd.C_below h2 h) g2 (Kd.C_below h3 h) g3)
 rw [ho] at HOP
 have hn : ∀ x ∈ b.f2,x.f1.length ≤ 1000000:=fun x hx=>by have:=((index_mem (bucket_at (open_0 ho).1).2.1) x hx).2.2;have:=chain_le this;omega
 have HGE:=zh (fun (W : World) (h : Below w.heap.size w W)=>getE.walk A2 c2 b.f2 key W (Kd.C_below h2 h) hn)
 have HCH:=zh (fun (A : Option Addr) (c : Nat) (W : World) (h : Kd.C k47 W A (getE b.f2 key).length (getE b.f2 key))=>getV.walk A c (getE b.f2 key) W h)
 generalize getE b.f2 key = ch at *
 generalize atV ch 0 = r at *
 obtain ⟨x,er⟩:=r
 clear hn
 have HB:=zh (Below.refl w.heap.size w)
 clear h2 h3 g2 g3 ho
 go_enter Tryz.func18,Tryz.ntmps18
 go_wp2_with (first
  | ((with_reducible refine gate_dst (N:=2) rfl ?_);go_must (refine zx HB (N:=2) (cs:=#[.string b.f0,.int .i64 b.f1,.slice A2 b.f2.length c2,.slice A3 b.f3.length c3,.int .u64 b.f4]) (t:=26) ?hr ?_;(case hr=>first | (go_simp;done) | (go_simp;rfl));intro gb w1 Kgb Lgb HB hbelgb hqgb;clear hbelgb hqgb))
  | ((with_reducible refine gate_dst (N:=4) rfl ?_);go_must (refine zx HB (N:=4) (cs:=#[.int .u64 0,.string ⟨#[]⟩,.bool false,.int .i64 0]) (t:=47) ?hr ?_;(case hr=>first | (go_simp;done) | (go_simp;rfl));intro go w2 Kgo Lgo HB hbelgo hqgo;have M1:=zh (show gb < go by rw [hqgo];exact blk_lt Kgb.out);have Kgb:=zk Kgb hbelgo;obtain ⟨a0,a1,a2,a3,a4⟩:=zz5 Kgb.out;clear hbelgo hqgo))
  | (go_at_call 32;go_must (refine (HOP.out _ HB.out).mono ?_;rintro e w3 ⟨g,rfl,hgl,hk,hb⟩;have Kg:=hk;have HB:=keepB HB hb.out;have LG:=zh (show w.heap.size ≤ g by have:=hgl;have:=Lgo.out;have:=blk_lt Kgo.out;omega);have Kgb:=zk Kgb hb.out;have Kgo:=zk Kgo hb.out;obtain ⟨m0,m1,m2,m3,m4⟩:=zz5 Kgb.out;have k5:=zb Kg.out 5 (.int .i64 0);clear hk hgl a0 a1 a2 a3 a4 hb))
  | (go_at_call 49;go_must (refine (HGE.out _ HB.out).mono ?_;rintro e w4 ⟨A',c',rfl,hc',hC',hb⟩;have HC':=hC';have HB:=keepB HB hb;have Kgo:=zk Kgo hb;clear hb hC' k5 m0 m1 m2 m3 m4))
  | (go_at_call 48;go_must (refine (HCH.out _ _ _ HC'.out).mono ?_;rintro e w5 ⟨rfl,hb⟩;have HB:=keepB HB hb;have Kgo:=zk Kgo hb;clear hb))
  | ((with_reducible refine gate_store (t:=47) (p:=4) (v:=.tmp 25) rfl ?_);go_must (refine zs 47 (.tmp 4) (.tmp 25) go 0 47 [.int .u64 x.f0,.string x.f1,.bool x.f2,.int .i64 x.f3] Kgo (by kernel_rfl) ?_;intro w6 hk ho;have HB:=zo ho HB Lgo;obtain ⟨z0,z1,z2,z3⟩:=zz4 hk.out;clear hk ho)))
 refine bodyPost_ret (v:=.tuple #[.agg #[.int .u64 x.f0,.string x.f1,.bool x.f2,.int .i64 x.f3],.int .i64 er]) (by simp [results,Tryz.results18,go_sem,z0,z1,z2,z3]) rfl ?_
 exact ⟨rfl,HB.out⟩
theorem getB_no (b : S26) (A2 A3 : Option Addr) (c2 c3 : Nat) (key : ByteArray) (w : World) (h2 : Kd.C k56 w A2 b.f2.length b.f2) (g2 : b.f2.length ≤ c2) (h3 : Kd.C k101 w A3 b.f3.length b.f3) (g3 : b.f3.length ≤ c3) (ho : openR b key ≠ 0) :
  Calls Tryz.prog 18 #[.agg #[.string b.f0,.int .i64 b.f1,.slice A2 b.f2.length c2,.slice A3 b.f3.length c3,.int .u64 b.f4],.string key] w (OnePost z47 (openR b key) w):=by
 have H2:=zh (fun (W : World) (h : Below w.heap.size w W)=>Kd.C_below h2 h)
 have H3:=zh (fun (W : World) (h : Below w.heap.size w W)=>Kd.C_below h3 h)
 have HOP:=zh (fun (W : World) (h : Below w.heap.size w W)=>open.walk b A2 A3 c2 c3 key W (Kd.C_below h2 h) g2 (Kd.C_below h3 h) g3)
 generalize openR b key = e0 at *
 have q0 : (e0 == 0) = false:=beq_eq_false_iff_ne.2 ho
 have q1 : (e0 != 0) = true:=by rw [bne,q0];rfl
 have HB:=zh (Below.refl w.heap.size w)
 clear h2 h3 g2 g3 ho
 go_enter Tryz.func18,Tryz.ntmps18
 go_wp2_with (first
  | ((with_reducible refine gate_dst (N:=2) rfl ?_);go_must (refine zx HB (N:=2) (cs:=#[.string b.f0,.int .i64 b.f1,.slice A2 b.f2.length c2,.slice A3 b.f3.length c3,.int .u64 b.f4]) (t:=26) ?hr ?_;(case hr=>first | (go_simp;done) | (go_simp;rfl));intro gb w1 Kgb Lgb HB hbelgb hqgb;clear hbelgb hqgb))
  | ((with_reducible refine gate_dst (N:=4) rfl ?_);go_must (refine zx HB (N:=4) (cs:=#[.int .u64 0,.string ⟨#[]⟩,.bool false,.int .i64 0]) (t:=47) ?hr ?_;(case hr=>first | (go_simp;done) | (go_simp;rfl));intro go w2 Kgo Lgo HB hbelgo hqgo;have M1:=zh (show gb < go by rw [hqgo];exact blk_lt Kgb.out);have Kgb:=zk Kgb hbelgo;obtain ⟨a0,a1,a2,a3,a4⟩:=zz5 Kgb.out;clear hbelgo hqgo))
  | (go_at_call 32;go_must (refine (HOP.out _ HB.out).mono ?_;rintro e w3 ⟨g,rfl,hgl,hk,hb⟩;have Kg:=hk;have HB:=keepB HB hb.out;have MG:=zh (show g ≠ go by have:=hgl;have:=blk_lt Kgo.out;omega);have LG:=zh (show w.heap.size ≤ g by have:=hgl;have:=Lgo.out;have:=blk_lt Kgo.out;omega);have Kgb:=zk Kgb hb.out;have Kgo:=zk Kgo hb.out;have k5:=zb Kg.out 5 (.int .i64 e0);clear hk hgl a0 a1 a2 a3 a4 hb)))
 refine wp_region_held_drew (S:=fun W=>W.heap[g]? = some (.cells #[.string b.f0,.int .i64 b.f1,.slice A2 b.f2.length c2,.slice A3 b.f3.length c3,.int .u64 b.f4,.int .i64 e0] 87 (0,0)) ∧ W.cell? ⟨g,5,none⟩ = some (.int .i64 e0) ∧ (∃ q0 q1 q2 q3,W.heap[go]? = some (.cells #[q0,q1,q2,q3] 47 (0,0))) ∧ Below w.heap.size w W) (by kernel_rfl) ?_ (fun hHeld=>?_)
 ·exact ⟨blk_drew Kg.out,(blk_cell (blk_drew Kg.out) 5).trans rfl,⟨_,_,_,_,blk_drew Kgo.out⟩,HB.out.drew⟩
 clear Kg Kgo Kgb HB k5
 refine zt 0 ?_;try simp only [zN];refine zt 1 ?_;try simp only [zN];refine zt 2 ?_;try simp only [zN];refine zt 3 ?_;try simp only [zN];refine zt 4 ?_;try simp only [zN]
 refine wpAnyH_ready (rs:=[5]) (by kernel_rfl) (by simp) ?_
 refine AllReadyH.cons (o:=_) rfl (fun K hK=>?_) AllReadyH.nil
 rw [if_pos (by rfl)]
 obtain ⟨s0,s1,s2,s3⟩:=hHeld
 obtain ⟨q0,q1,q2,q3,s2⟩:=s2
 refine wp_store_row rfl 47 (.tmp 4) (.tmp 15) rfl go 0 _ 47 (.agg #[.int .u64 0,.string ⟨#[]⟩,.bool false,.int .i64 0]) [.int .u64 0,.string ⟨#[]⟩,.bool false,.int .i64 0] rfl rfl s2 rfl (by kernel_rfl) (by show 0 + 4 ≤ 4;decide) (by simp [Value.oneCell']) ?_
 intro w14 hk ho
 have KZ : Hid (w14.heap[go]? = some (.cells #[.int .u64 0,.string ⟨#[]⟩,.bool false,.int .i64 0] 47 (0,0))):=hk
 have HBZ:=zh (ho.out.below s3 s3.size Lgo.out)
 have KG2:=zh (ho.out.blk s0 (by have:=MG.out;omega))
 refine hK.out _ _ ⟨KG2.out,zj KG2 5,⟨_,_,_,_,hk.out⟩,HBZ.out⟩ (fun hHeld=>?_)
 clear hK K hk ho q0 q1 q2 q3 s0 s1 s2 s3
 try simp only [zN]
 refine zt 6 ?_;try simp only [zN]
 refine wpAnyH_done (by kernel_rfl) ?_ _
 go_wp2
 have z0:=zb KZ.out 0 (.int .u64 0)
 have z1:=zb KZ.out 1 (.string ⟨#[]⟩)
 have z2:=zb KZ.out 2 (.bool false)
 have z3:=zb KZ.out 3 (.int .i64 0)
 refine bodyPost_ret (v:=.tuple #[.agg #[.int .u64 0,.string ⟨#[]⟩,.bool false,.int .i64 0],.int .i64 e0]) (by simp [results,Tryz.results18,go_sem,z0,z1,z2,z3]) rfl ?_
 exact ⟨rfl,HBZ.out⟩
theorem getB.walk (b : S26) (A2 A3 : Option Addr) (c2 c3 : Nat) (key : ByteArray) (w : World) (h2 : Kd.C k56 w A2 b.f2.length b.f2) (g2 : b.f2.length ≤ c2) (h3 : Kd.C k101 w A3 b.f3.length b.f3) (g3 : b.f3.length ≤ c3) :
  Calls Tryz.prog 18 #[.agg #[.string b.f0,.int .i64 b.f1,.slice A2 b.f2.length c2,.slice A3 b.f3.length c3,.int .u64 b.f4],.string key] w (OnePost (getB b key).1 (getB b key).2 w):=by
 unfold getB
 by_cases ho : openR b key = 0
 ·rw [if_pos ho];exact getB_ok b A2 A3 c2 c3 key w h2 g2 h3 g3 ho
 ·rw [if_neg ho];exact getB_no b A2 A3 c2 c3 key w h2 g2 h3 g3 ho
end
section
open Go.WideMaps Go.Maps
theorem pairInt_of {l : List Int} (h : ∀ j (hj : j + 1 < l.length),l[j] < l[j + 1]) : l.Pairwise (· < ·):=by
 rw [List.pairwise_iff_getElem]
 intro i j hi hj hij
 induction j with
 | zero=>omega
 | succ j ih =>
  rcases Nat.eq_or_lt_of_le (Nat.le_of_lt_succ hij) with rfl | h2
  ·exact h i hj
  ·exact Int.lt_trans (ih (by omega) h2) (h j hj)
theorem adjInt_of {l : List Int} (h : l.Pairwise (· < ·)) (j : Nat) (hj : j + 1 < l.length) : l[j] < l[j + 1]:=by
 rw [List.pairwise_iff_getElem] at h
 exact h j (j + 1) (by omega) hj (by omega)
theorem fine_iff (u : Int) (key : ByteArray) (l : List S40) : fineB u key l = true ↔ numB u = true ∧ keyB key = true ∧ l.length ≤ 30 ∧ (l.map (·.f0)).Pairwise (· < ·) ∧ ∀ p ∈ l,mayB p = true:=by
 unfold fineB
 simp only [Bool.and_eq_true,decide_eq_true_eq]
 constructor
 ·rintro ⟨h1,h2,h3,h4⟩
  have at' : ∀ j (hj : j < l.length),mayB l[j] = true ∧ (j = 0 ∨ (l.getD (j - 1) z40).f0 < l[j].f0):=fun j hj=>by
   have:=allFrom_at h4 j (Nat.zero_le _) (by omega)
   unfold adjB at this
   rw [getD_at l j _ hj] at this
   simpa only [Bool.and_eq_true,Bool.or_eq_true,decide_eq_true_eq] using this
  refine ⟨h1,h2,h3,pairInt_of (fun j hj=>?_),fun p hp=>?_⟩
  ·rw [List.length_map] at hj
   have:=(at' (j + 1) hj).2.resolve_left (by omega)
   rw [Nat.add_sub_cancel,getD_at l j _ (by omega)] at this
   rw [List.getElem_map,List.getElem_map];exact this
  ·obtain ⟨j,hj,rfl⟩:=List.getElem_of_mem hp
   exact (at' j hj).1
 ·rintro ⟨h1,h2,h3,h4,h5⟩
  refine ⟨h1,h2,h3,allFrom_of _ _ (fun j _ hj=>?_)⟩
  have hj' : j < l.length:=by omega
  unfold adjB
  rw [getD_at l j _ hj',h5 _ (List.getElem_mem hj')]
  rcases j with _ | j
  ·simp
  ·have:=adjInt_of h4 j (by rw [List.length_map];omega)
   rw [List.getElem_map,List.getElem_map] at this
   rw [Nat.add_sub_cancel,getD_at l j _ (by omega),decide_eq_true this];simp
theorem check_iff (l : List S101) : checkB l = true ↔ l.length ≤ 10 ∧ (l.map (·.f0)).Pairwise (· < ·) ∧ ∀ u ∈ l,fineB u.f0 u.f1 u.f2 = true:=by
 unfold checkB
 simp only [Bool.and_eq_true,decide_eq_true_eq]
 constructor
 ·rintro ⟨h3,h4⟩
  have at' : ∀ j (hj : j < l.length),fineB l[j].f0 l[j].f1 l[j].f2 = true ∧ (j = 0 ∨ (l.getD (j - 1) z101).f0 < l[j].f0):=fun j hj=>by
   have:=allFrom_at h4 j (Nat.zero_le _) (by omega)
   unfold adjU at this
   rw [getD_at l j _ hj] at this
   simpa only [Bool.and_eq_true,Bool.or_eq_true,decide_eq_true_eq] using this
  refine ⟨h3,pairInt_of (fun j hj=>?_),fun p hp=>?_⟩
  ·rw [List.length_map] at hj
   have:=(at' (j + 1) hj).2.resolve_left (by omega)
   rw [Nat.add_sub_cancel,getD_at l j _ (by omega)] at this
   rw [List.getElem_map,List.getElem_map];exact this
  ·obtain ⟨j,hj,rfl⟩:=List.getElem_of_mem hp
   exact (at' j hj).1
 ·rintro ⟨h3,h4,h5⟩
  refine ⟨h3,allFrom_of _ _ (fun j _ hj=>?_)⟩
  have hj' : j < l.length:=by omega
  unfold adjU
  rw [getD_at l j _ hj',h5 _ (List.getElem_mem hj')]
  rcases j with _ | j
  ·simp
  ·have:=adjInt_of h4 j (by rw [List.length_map];omega)
   rw [List.getElem_map,List.getElem_map] at this
   rw [Nat.add_sub_cancel,getD_at l j _ (by omega),decide_eq_true this];simp
theorem begin_check {l : List S101} {id : Int} {key : ByteArray} (h : (beginR l id key).2 = 0) : checkB (beginR l id key).1 = true ∧ (beginR l id key).1 = l ++ [⟨id,key,[]⟩] ∧ checkB l = true:=by
 unfold beginR at h ⊢
 by_cases h1 : checkB l = false ∨ numB id = false ∨ keyB key = false
 ·rw [if_pos h1] at h;cases h
 ·rw [if_neg h1] at h ⊢
  by_cases h2 : lastB l id = true
  ·rw [if_pos h2] at h;cases h
  ·rw [if_neg h2] at h ⊢
   by_cases h3 : l.length = 10
   ·rw [if_pos h3] at h;cases h
   ·rw [if_neg h3]
    have hc : checkB l = true:=by cases hc : checkB l;exact absurd (Or.inl hc) h1;rfl
    have hn : numB id = true:=by cases hc : numB id;exact absurd (Or.inr (Or.inl hc)) h1;rfl
    have hk : keyB key = true:=by cases hc : keyB key;exact absurd (Or.inr (Or.inr hc)) h1;rfl
    obtain ⟨a,b,c⟩:=(check_iff l).1 hc
    refine ⟨(check_iff _).2 ⟨by rw [List.length_append,List.length_singleton];show l.length + 1 ≤ 10;omega,?_,?_⟩,rfl,hc⟩
    ·show (List.map (·.f0) (l ++ [⟨id,key,[]⟩])).Pairwise (· < ·)
     rw [List.map_append,List.pairwise_append]
     refine ⟨b,List.pairwise_singleton _ _,fun x hx y hy=>?_⟩
     rw [List.map_singleton,List.mem_singleton] at hy
     rw [show y = id from hy]
     have h4 : ¬ (0 < l.length ∧ id ≤ (l.getD (l.length - 1) z101).f0):=by
      unfold lastB at h2
      simpa only [Bool.and_eq_true,decide_eq_true_eq] using h2
     obtain ⟨u,hu,rfl⟩:=List.mem_map.1 hx
     obtain ⟨j,hj,rfl⟩:=List.getElem_of_mem hu
     rw [getD_at l (l.length - 1) _ (by omega)] at h4
     rcases Nat.eq_or_lt_of_le (show j ≤ l.length - 1 by omega) with e | e
     ·subst e;have:=fun hh=>h4 ⟨by omega,hh⟩;omega
     ·have b':=b
      rw [List.pairwise_iff_getElem] at b'
      have:=b' j (l.length - 1) (by rw [List.length_map];omega) (by rw [List.length_map];omega) e
      rw [List.getElem_map,List.getElem_map] at this
      have:=fun hh=>h4 ⟨by omega,hh⟩
      omega
    ·intro u hu
     rcases List.mem_append.1 hu with hu | hu
     ·exact c u hu
     ·rw [List.mem_singleton] at hu
      subst hu
      exact (fine_iff _ _ _).2 ⟨hn,hk,Nat.zero_le _,List.Pairwise.nil,fun p hp=>by cases hp⟩
theorem lay_parts {u : Int} {key : ByteArray} {l : List S40} {p : S40} (h : fineB u key l = true) (hm : mayB p = true) (h30 : ¬ (thereP l p.f0 = false ∧ l.length = 30)) : fineB u key (layParts l p) = true:=by
 obtain ⟨a,b,c,d,e⟩:=(fine_iff _ _ _).1 h
 have lo : ∀ x ∈ l.take (lowP l p.f0),x.f0 < p.f0:=fun x hx=>by
  obtain ⟨j,hj,rfl⟩:=List.getElem_of_mem hx
  rw [List.length_take] at hj
  rw [List.getElem_take]
  have:=List.not_of_lt_findIdx (p:=fun q : S40=>decide (p.f0 ≤ q.f0)) (xs:=l) (i:=j) (show j < List.findIdx _ l by unfold lowP at hj;omega)
  simp only [decide_eq_true_eq,decide_eq_false_iff_not] at this
  omega
 have dd:=d
 rw [List.pairwise_iff_getElem] at dd
 have up : ∀ i j (hi : i < l.length) (hj : j < l.length),i < j → l[i].f0 < l[j].f0:=fun i j hi hj hij=>by
  have:=dd i j (by rw [List.length_map];exact hi) (by rw [List.length_map];exact hj) hij
  rwa [List.getElem_map,List.getElem_map] at this
 have at' : ∀ (hl : lowP l p.f0 < l.length),p.f0 ≤ (l[lowP l p.f0]'hl).f0:=fun hl=>by
  have:=List.findIdx_getElem (p:=fun q : S40=>decide (p.f0 ≤ q.f0)) (xs:=l) (w:=hl)
  exact of_decide_eq_true this
 unfold layParts
 cases ht : thereP l p.f0 with
 | true =>
  rw [if_pos rfl]
  obtain ⟨q,hq,hqe⟩:=List.any_eq_true.1 ht
  obtain ⟨j,hj,rfl⟩:=List.getElem_of_mem hq
  have hqe' : l[j].f0 = p.f0:=by simpa using hqe
  have hl : lowP l p.f0 ≤ j:=by
   rcases Nat.lt_or_ge j (lowP l p.f0) with h' | h'
   ·have:=lo l[j] (by rw [List.mem_iff_getElem];exact ⟨j,by rw [List.length_take];omega,by rw [List.getElem_take]⟩)
    omega
   ·exact h'
  have hl2 : lowP l p.f0 < l.length:=by omega
  have he : (l[lowP l p.f0]'hl2).f0 = p.f0:=by
   rcases Nat.eq_or_lt_of_le hl with e1 | e1
   ·have : (l[lowP l p.f0]'hl2) = l[j]:=getElem_congr_idx e1
    rw [this];exact hqe'
   ·have:=up _ _ hl2 hj e1
    have:=at' hl2
    omega
  refine (fine_iff _ _ _).2 ⟨a,b,by rw [List.length_set];exact c,?_,fun x hx=>?_⟩
  ·have : (l.set (lowP l p.f0) p).map (·.f0) = l.map (·.f0):=by
    rw [List.map_set]
    apply List.ext_getElem (by simp)
    intro n h1 h2
    rw [List.getElem_set]
    split
    ·rename_i hn;subst hn;rw [List.getElem_map];exact he.symm
    ·rfl
   rw [this];exact d
  ·rcases List.mem_or_eq_of_mem_set hx with h' | h'
   ·exact e x h'
   ·rw [h'];exact hm
 | false =>
  rw [if_neg (by decide)]
  have hi : ∀ x ∈ l.drop (lowP l p.f0),p.f0 < x.f0:=fun x hx=>by
   obtain ⟨j,hj,rfl⟩:=List.getElem_of_mem hx
   rw [List.length_drop] at hj
   rw [List.getElem_drop]
   have hl : lowP l p.f0 < l.length:=by omega
   have h1:=at' hl
   have h2 : (l[lowP l p.f0 + j]'(by omega)).f0 ≠ p.f0:=fun hh=>by
    have:=List.any_eq_false.1 ht _ (List.getElem_mem (show lowP l p.f0 + j < l.length by omega))
    rw [hh] at this;simp at this
   rcases Nat.eq_or_lt_of_le (Nat.zero_le j) with e1 | e1
   ·subst e1
    have e2 : (l[lowP l p.f0 + 0]'(by omega)) = l[lowP l p.f0]'hl:=rfl
    rw [e2] at h2 ⊢
    omega
   ·have:=up (lowP l p.f0) (lowP l p.f0 + j) hl (by omega) (by omega)
    omega
  refine (fine_iff _ _ _).2 ⟨a,b,?_,?_,fun x hx=>?_⟩
  ·have hle : lowP l p.f0 ≤ l.length:=List.findIdx_le_length
   have : l.length ≠ 30:=fun hh=>h30 ⟨ht,hh⟩
   simp only [List.length_append,List.length_cons,List.length_take,List.length_drop]
   omega
  ·rw [List.map_append,List.map_cons,List.pairwise_append]
   refine ⟨?_,?_,?_⟩
   ·rw [List.map_take];exact d.sublist (List.take_sublist _ _)
   ·rw [List.pairwise_cons]
    refine ⟨fun y hy=>?_,by rw [List.map_drop];exact d.sublist (List.drop_sublist _ _)⟩
    obtain ⟨x,hx,rfl⟩:=List.mem_map.1 hy
    exact hi x hx
   ·intro x hx y hy
    obtain ⟨x',hx',rfl⟩:=List.mem_map.1 hx
    have h1:=lo x' hx'
    rcases List.mem_cons.1 hy with rfl | hy
    ·exact h1
    ·obtain ⟨y',hy',rfl⟩:=List.mem_map.1 hy
     have:=hi y' hy'
     show x'.f0 < y'.f0
     omega
  ·rcases List.mem_append.1 hx with h' | h'
   ·exact e x (List.mem_of_mem_take h')
   ·rcases List.mem_cons.1 h' with rfl | h'
    ·exact hm
    ·exact e x (List.mem_of_mem_drop h')
theorem lay_check {l : List S101} {id : Int} {p : S40} (h : (layR l id p).2.2 = 0) : checkB (layR l id p).1 = true ∧ checkB l = true ∧ mayB p = true:=by
 unfold layR at h ⊢
 by_cases h1 : checkB l = false ∨ mayB p = false
 ·rw [if_pos h1] at h;cases h
 ·rw [if_neg h1] at h ⊢
  have hc : checkB l = true:=by cases hc : checkB l;exact absurd (Or.inl hc) h1;rfl
  have hm : mayB p = true:=by cases hm : mayB p;exact absurd (Or.inr hm) h1;rfl
  cases hp : posU l id with
  | none=>rw [hp] at h;cases h
  | some i =>
   rw [hp] at h
   obtain ⟨hi,hid⟩:=posU_lt hp
   show checkB (if _ then _ else _ : List S101 × Int × Int).1 = true ∧ _
   change (if _ then _ else _ : List S101 × Int × Int).2.2 = 0 at h
   by_cases h2 : thereP (l.getD i z101).f2 p.f0 = false ∧ (l.getD i z101).f2.length = 30
   ·rw [if_pos h2] at h;cases h
   ·rw [if_neg h2]
    refine ⟨?_,hc,hm⟩
    obtain ⟨a,b,c⟩:=(check_iff l).1 hc
    rw [getD_at l i _ hi] at h2 ⊢
    refine (check_iff _).2 ⟨by rw [List.length_set];exact a,?_,fun u hu=>?_⟩
    ·have : (l.set i ⟨l[i].f0,l[i].f1,layParts l[i].f2 p⟩).map (·.f0) = l.map (·.f0):=by
      rw [List.map_set]
      apply List.ext_getElem (by simp)
      intro n h1 h2
      rw [List.getElem_set]
      split
      ·rename_i hn;subst hn;rw [List.getElem_map]
      ·rfl
     show ((l.set i ⟨l[i].f0,l[i].f1,layParts l[i].f2 p⟩).map (·.f0)).Pairwise (· < ·)
     rw [this];exact b
    ·rcases List.mem_or_eq_of_mem_set hu with h' | h'
     ·exact c u h'
     ·subst h';exact lay_parts (c _ (List.getElem_mem hi)) hm h2
end
section
open Go.WideMaps Go.Maps
attribute [local go_sem] Oper.semAt_some
theorem noR_ok {er e : Int} (h : noR (!(er == 0)) er e = 0) : er = 0 ∧ e = 0:=by
 unfold noR at h
 by_cases hb : (!(er == 0)) = true ∧ e = 0
 ·rw [if_pos hb] at h;subst h;exact absurd hb.1 (by decide)
 ·rw [if_neg hb] at h
  subst h
  refine ⟨?_,rfl⟩
  cases hq : (er == 0)
  ·exact absurd ⟨by rw [hq];rfl,rfl⟩ hb
  ·exact beq_iff_eq.1 hq
/-- no key is asked for -/
def anyK : ByteArray:=⟨#[107]⟩
def abortB (b : S26) (id : Int) : S26 × Int:=closeR b ⟨b.f0,b.f1,b.f2,(abortR b.f3 id).1,b.f4⟩ (noR (!((abortR b.f3 id).2 == 0)) (abortR b.f3 id).2 (openR b anyK))
def beginQ (b : S26) (key : ByteArray) (id e1 : Int) : S26 × Int:=if e1 = 0 then (⟨b.f0,b.f1,b.f2,(beginR b.f3 id key).1,id⟩,noR (!((beginR b.f3 id key).2 == 0)) (beginR b.f3 id key).2 e1) else (⟨b.f0,b.f1,b.f2,b.f3,id⟩,e1)
def beginB (b : S26) (key : ByteArray) : S26 × Int × Int :=
 let id:=IntKind.u64.wrap (b.f4 + 1)
 let q:=beginQ b key id (noR (decide (281474976710655 ≤ b.f4)) 6 (openR b key))
 let c:=closeR b q.1 q.2
 if c.2 = 0 then (c.1,id,0) else (b,0,c.2)
theorem begin_gg (b : S26) (A2 A3 : Option Addr) (c2 c3 : Nat) (key : ByteArray) (w : World) (h2 : Kd.C k56 w A2 b.f2.length b.f2) (g2 : b.f2.length ≤ c2) (h3 : Kd.C k101 w A3 b.f3.length b.f3) (g3 : b.f3.length ≤ c3) (l2 : Int) (hl2 : IntKind.u64.wrap (b.f4 + 1) = l2) (e1 : Int) (he1 : noR (decide (281474976710655 ≤ b.f4)) 6 (openR b key) = e1) (h1 : e1 = 0) (r3 : List S101) (ar : Int) (hr : beginR b.f3 l2 key = (r3,ar)) (kb : S26) (ce : Int) (hce : closeR b (⟨b.f0,b.f1,b.f2,r3,l2⟩ : S26) (noR (!(ar == 0)) ar 0) = (kb,ce)) (hz : ce = 0) :
  Calls Tryz.prog 12 #[.agg #[.string b.f0,.int .i64 b.f1,.slice A2 b.f2.length c2,.slice A3 b.f3.length c3,.int .u64 b.f4],.string key] w (BkPost kb [.int .u64 l2,.int .i64 0] w):=by
 have H2:=zh (fun (W : World) (h : Below w.heap.size w W)=>Kd.C_below h2 h)
 have H3:=zh (fun (W : World) (h : Below w.heap.size w W)=>Kd.C_below h3 h)
 have HOP:=zh (fun (W : World) (h : Below w.heap.size w W)=>open.walk b A2 A3 c2 c3 key W (Kd.C_below h2 h) g2 (Kd.C_below h3 h) g3)
 have HNX:=zh (fun (g : Nat) (W : World) hW=>next.walk g (.string b.f0) (.int .i64 b.f1) (.slice A2 b.f2.length c2) (.slice A3 b.f3.length c3) b.f4 (openR b key) W hW)
 rw [hl2,he1] at HNX
 have HQ : Hid (noR (!(ar == 0)) ar 0 = 0 → indexB b.f2 = true ∧ checkB r3 = true):=fun h=>by
  have x:=begin_check (l:=b.f3) (id:=l2) (key:=key) (by rw [hr];exact (noR_ok h).1)
  rw [hr] at x
  exact ⟨(bucket_at (open_0 (noR_zero (he1.trans h1))).1).2.1,x.1⟩
 have HBG:=zh (fun (W : World) (h : Below w.heap.size w W)=>begin.walk A3 c3 b.f3 l2 key W (Kd.C_below h3 h) g3)
 rw [hr] at HBG
 subst h1
 have HUP:=zh (fun (g : Nat) (A4 : Option Addr) (c4 : Nat) (W : World) hW=>uploadsW.walk g (.string b.f0) (.int .i64 b.f1) (.slice A2 b.f2.length c2) (.slice A3 b.f3.length c3) (.int .u64 l2) A4 r3.length c4 0 ar W hW)
 generalize noR (!(ar == 0)) ar 0 = e2 at *
 have HCL:=zh (fun (g : Nat) (A4 : Option Addr) (c4 : Nat) (W : World) (hW : Below w.heap.size w W) (K : W.heap[g]? = some (.cells #[.string b.f0,.int .i64 b.f1,.slice A2 b.f2.length c2,.slice A4 r3.length c4,.int .u64 l2,.int .i64 e2] 87 (0,0))) (C4 : Kd.C k101 W A4 r3.length r3) (g4 : r3.length ≤ c4) =>
  close.calls (⟨b.f0,b.f1,b.f2,r3,l2⟩ : S26) b A2 A4 A2 A3 c2 c4 c2 c3 (e2) g W K (Kd.C_below h2 hW) g2 C4 g4 (Kd.C_below h2 hW) g2 (Kd.C_below h3 hW) g3 HQ.out)
 rw [hce] at HCL
 have q0 : (ce == 0) = true:=beq_iff_eq.2 hz
 have q1 : (ce != 0) = false:=by rw [bne,q0];rfl
 generalize openR b key = e0 at *
 have HB:=zh (Below.refl w.heap.size w)
 clear h2 h3 g2 g3 HQ he1 hl2 hce hz hr
 go_enter Tryz.func12,Tryz.ntmps12
 go_wp2_with (first
  | ((with_reducible refine gate_dst (N:=2) rfl ?_);go_must (refine zx HB (N:=2) (cs:=#[.string b.f0,.int .i64 b.f1,.slice A2 b.f2.length c2,.slice A3 b.f3.length c3,.int .u64 b.f4]) (t:=26) ?hr ?_;(case hr=>first | (go_simp;done) | (go_simp;rfl));intro gb w1 Kgb Lgb HB hbelgb hqgb;clear hbelgb hqgb))
  | ((with_reducible refine gate_dst (N:=4) rfl ?_);go_must (refine zx HB (N:=4) (cs:=#[.string ⟨#[]⟩,.int .i64 0,.slice none 0 0,.slice none 0 0,.int .u64 0]) (t:=26) ?hr ?_;(case hr=>first | (go_simp;done) | (go_simp;rfl));intro go w3 Kgo Lgo HB hbelgo hqgo;have M2:=zh (show gb < go by rw [hqgo];exact blk_lt Kgb.out);have Kgb:=zk Kgb hbelgo;obtain ⟨a0,a1,a2,a3,a4⟩:=zz5 Kgb.out;clear hbelgo hqgo))
  | (go_at_call 32;go_must (refine (HOP.out _ HB.out).mono ?_;rintro e w4 ⟨g,rfl,hgl,hk,hb⟩;have Kg:=hk;have M3:=zh (show go < g from Nat.lt_of_lt_of_le (blk_lt Kgo.out) hgl);have HB:=keepB HB hb.out;have Kgb:=zk Kgb hb.out;have Kgo:=zk Kgo hb.out;clear hk hb hgl a0 a1 a2 a3 a4))
  | (go_at_call 33;go_must (refine (HNX.out g _ Kg.out).mono ?_;rintro e w7 ⟨rfl,hk,ho⟩;have Kg:=hk;have HB:=zh (ho.out.below HB.out HB.out.size (by have:=Lgo.out;have:=M3.out;omega));have Kgb:=zl ho Kgb (by have:=M2.out;have:=M3.out;omega);have Kgo:=zl ho Kgo (by have:=M2.out;have:=M3.out;omega);have k5:=zb Kg.out 5 (.int .i64 0);have k3:=zb Kg.out 3 (.slice A3 b.f3.length c3);clear hk ho))
  | (go_at_call 35;go_must (refine (HBG.out _ HB.out).mono ?_;rintro e w5 ⟨A4,c4,rfl,hc4,hC4,hb⟩;have HC4:=zh hC4;have HB:=keepB HB hb;have Kgb:=zk Kgb hb;have Kgo:=zk Kgo hb;have Kg:=zk Kg hb;clear hb hC4 k3 k5))
  | (go_at_call 34;go_must (refine (HUP.out g A4 c4 _ Kg.out).mono ?_;rintro e w6 ⟨rfl,hk,ho⟩;have HC4:=zh (keepU HC4.out Kg.out (work_like b.f0 b.f1 A2 b.f2.length c2 A3 b.f3.length c3 l2 0) ho.out);have Kg:=hk;have HB:=zh (ho.out.below HB.out HB.out.size (by have:=Lgo.out;have:=M3.out;omega));have Kgb:=zl ho Kgb (by have:=M2.out;have:=M3.out;omega);have Kgo:=zl ho Kgo (by have:=M2.out;have:=M3.out;omega);obtain ⟨m0,m1,m2,m3,m4⟩:=zz5 Kgb.out;clear hk ho))
  | (go_at_call 36;go_must (refine (HCL.out g A4 c4 _ HB.out Kg.out HC4.out hc4).mono ?_;rintro e w10 ⟨v10,rfl,hv,ho⟩;obtain ⟨A5,c5,A6,c6,rfl,y1,y2,y3,y4⟩:=hv;have HB:=zh (ho.below HB.out HB.out.size (by have:=Lgo.out;have:=M3.out;omega));have Kgb:=zh (ho.blk Kgb.out (by have:=M2.out;have:=M3.out;omega));have Kgo:=zh (ho.blk Kgo.out (by have:=M2.out;have:=M3.out;omega));have Y3:=zh y3;have Y4:=zh y4;clear ho y3 y4 m0 m1 m2 m3 m4))
  | ((with_reducible refine gate_dst (N:=9) rfl ?_);go_must (refine zx HB (N:=9) (cs:=#[.string ⟨#[]⟩,.int .i64 0,.slice none 0 0,.slice none 0 0,.int .u64 0]) (t:=26) ?hr ?_;(case hr=>first | (go_simp;done) | (go_simp;rfl));intro gx w11 Kgx Lgx HB hbelgx hqgx;have M4:=zh (show go < gx by rw [hqgx];exact blk_lt Kgo.out);have Kgb:=zk Kgb hbelgx;have Kgo:=zk Kgo hbelgx;have Y3:=zc Y3 hbelgx;have Y4:=zc Y4 hbelgx;clear hbelgx hqgx))
  | ((with_reducible refine gate_store (t:=26) (p:=9) (v:=.tmp 37) rfl ?_);go_must (refine zs 26 (.tmp 9) (.tmp 37) gx 0 26 [.string kb.f0,.int .i64 kb.f1,.slice A5 kb.f2.length c5,.slice A6 kb.f3.length c6,.int .u64 kb.f4] Kgx isz_bucket ?_;intro w12 hk ho;have Y3:=zh (keepE Y3.out Kgx.out (bk_like _ _ _ _ _ _ _ _ _) ho.out);have Y4:=zh (keepU Y4.out Kgx.out (bk_like _ _ _ _ _ _ _ _ _) ho.out);have HB:=zo ho HB Lgx;have Kgb:=zl ho Kgb (by have:=M2.out;have:=M4.out;omega);have Kgo:=zl ho Kgo (by have:=M2.out;have:=M4.out;omega);have Kgx : Hid (w12.heap[gx]? = some (.cells #[.string kb.f0,.int .i64 kb.f1,.slice A5 kb.f2.length c5,.slice A6 kb.f3.length c6,.int .u64 kb.f4] 26 (0,0))):=hk;obtain ⟨p0,p1,p2,p3,p4⟩:=zz5 Kgx.out;clear hk ho))
  | ((with_reducible refine gate_store (t:=26) (p:=4) (v:=.tmp 43) rfl ?_);go_must (refine zs 26 (.tmp 4) (.tmp 43) go 0 26 [.string kb.f0,.int .i64 kb.f1,.slice A5 kb.f2.length c5,.slice A6 kb.f3.length c6,.int .u64 kb.f4] Kgo isz_bucket ?_;intro w13 hk ho;have Y3:=zh (keepE Y3.out Kgo.out (bk_like _ _ _ _ _ _ _ _ _) ho.out);have Y4:=zh (keepU Y4.out Kgo.out (bk_like _ _ _ _ _ _ _ _ _) ho.out);have HB:=zo ho HB Lgo;obtain ⟨z0,z1,z2,z3,z4⟩:=zz5 hk.out;clear hk ho)))
 refine bodyPost_ret (v:=.tuple #[.agg #[.string kb.f0,.int .i64 kb.f1,.slice A5 kb.f2.length c5,.slice A6 kb.f3.length c6,.int .u64 kb.f4],.int .u64 l2,.int .i64 0]) (by simp [results,Tryz.results12,go_sem,z0,z1,z2,z3,z4]) rfl ?_
 exact ⟨_,rfl,⟨A5,c5,A6,c6,rfl,y1,y2,Y3.out,Y4.out⟩,HB.out⟩
theorem begin_gn (b : S26) (A2 A3 : Option Addr) (c2 c3 : Nat) (key : ByteArray) (w : World) (h2 : Kd.C k56 w A2 b.f2.length b.f2) (g2 : b.f2.length ≤ c2) (h3 : Kd.C k101 w A3 b.f3.length b.f3) (g3 : b.f3.length ≤ c3) (l2 : Int) (hl2 : IntKind.u64.wrap (b.f4 + 1) = l2) (e1 : Int) (he1 : noR (decide (281474976710655 ≤ b.f4)) 6 (openR b key) = e1) (h1 : e1 = 0) (r3 : List S101) (ar : Int) (hr : beginR b.f3 l2 key = (r3,ar)) (kb : S26) (ce : Int) (hce : closeR b (⟨b.f0,b.f1,b.f2,r3,l2⟩ : S26) (noR (!(ar == 0)) ar 0) = (kb,ce)) (hz : ce ≠ 0) :
  Calls Tryz.prog 12 #[.agg #[.string b.f0,.int .i64 b.f1,.slice A2 b.f2.length c2,.slice A3 b.f3.length c3,.int .u64 b.f4],.string key] w (BkPost b [.int .u64 0,.int .i64 ce] w):=by
 have H2:=zh (fun (W : World) (h : Below w.heap.size w W)=>Kd.C_below h2 h)
 have H3:=zh (fun (W : World) (h : Below w.heap.size w W)=>Kd.C_below h3 h)
 have HOP:=zh (fun (W : World) (h : Below w.heap.size w W)=>open.walk b A2 A3 c2 c3 key W (Kd.C_below h2 h) g2 (Kd.C_below h3 h) g3)
 have HNX:=zh (fun (g : Nat) (W : World) hW=>next.walk g (.string b.f0) (.int .i64 b.f1) (.slice A2 b.f2.length c2) (.slice A3 b.f3.length c3) b.f4 (openR b key) W hW)
 rw [hl2,he1] at HNX
 have HQ : Hid (noR (!(ar == 0)) ar 0 = 0 → indexB b.f2 = true ∧ checkB r3 = true):=fun h=>by
  have x:=begin_check (l:=b.f3) (id:=l2) (key:=key) (by rw [hr];exact (noR_ok h).1)
  rw [hr] at x
  exact ⟨(bucket_at (open_0 (noR_zero (he1.trans h1))).1).2.1,x.1⟩
 have HBG:=zh (fun (W : World) (h : Below w.heap.size w W)=>begin.walk A3 c3 b.f3 l2 key W (Kd.C_below h3 h) g3)
 rw [hr] at HBG
 subst h1
 have HUP:=zh (fun (g : Nat) (A4 : Option Addr) (c4 : Nat) (W : World) hW=>uploadsW.walk g (.string b.f0) (.int .i64 b.f1) (.slice A2 b.f2.length c2) (.slice A3 b.f3.length c3) (.int .u64 l2) A4 r3.length c4 0 ar W hW)
 generalize noR (!(ar == 0)) ar 0 = e2 at *
 have HCL:=zh (fun (g : Nat) (A4 : Option Addr) (c4 : Nat) (W : World) (hW : Below w.heap.size w W) (K : W.heap[g]? = some (.cells #[.string b.f0,.int .i64 b.f1,.slice A2 b.f2.length c2,.slice A4 r3.length c4,.int .u64 l2,.int .i64 e2] 87 (0,0))) (C4 : Kd.C k101 W A4 r3.length r3) (g4 : r3.length ≤ c4) =>
  close.calls (⟨b.f0,b.f1,b.f2,r3,l2⟩ : S26) b A2 A4 A2 A3 c2 c4 c2 c3 (e2) g W K (Kd.C_below h2 hW) g2 C4 g4 (Kd.C_below h2 hW) g2 (Kd.C_below h3 hW) g3 HQ.out)
 rw [hce] at HCL
 have q0 : (ce == 0) = false:=beq_eq_false_iff_ne.2 hz
 have q1 : (ce != 0) = true:=by rw [bne,q0];rfl
 generalize openR b key = e0 at *
 have G3:=zh g3
 have G2:=zh g2
 have HB:=zh (Below.refl w.heap.size w)
 clear h2 h3 g2 g3 HQ he1 hl2 hce hz hr
 go_enter Tryz.func12,Tryz.ntmps12
 go_wp2_with (first
  | ((with_reducible refine gate_dst (N:=2) rfl ?_);go_must (refine zx HB (N:=2) (cs:=#[.string b.f0,.int .i64 b.f1,.slice A2 b.f2.length c2,.slice A3 b.f3.length c3,.int .u64 b.f4]) (t:=26) ?hr ?_;(case hr=>first | (go_simp;done) | (go_simp;rfl));intro gb w1 Kgb Lgb HB hbelgb hqgb;clear hbelgb hqgb))
  | ((with_reducible refine gate_dst (N:=4) rfl ?_);go_must (refine zx HB (N:=4) (cs:=#[.string ⟨#[]⟩,.int .i64 0,.slice none 0 0,.slice none 0 0,.int .u64 0]) (t:=26) ?hr ?_;(case hr=>first | (go_simp;done) | (go_simp;rfl));intro go w3 Kgo Lgo HB hbelgo hqgo;have M2:=zh (show gb < go by rw [hqgo];exact blk_lt Kgb.out);have Kgb:=zk Kgb hbelgo;obtain ⟨a0,a1,a2,a3,a4⟩:=zz5 Kgb.out;clear hbelgo hqgo))
  | (go_at_call 32;go_must (refine (HOP.out _ HB.out).mono ?_;rintro e w4 ⟨g,rfl,hgl,hk,hb⟩;have Kg:=hk;have M3:=zh (show go < g from Nat.lt_of_lt_of_le (blk_lt Kgo.out) hgl);have HB:=keepB HB hb.out;have Kgb:=zk Kgb hb.out;have Kgo:=zk Kgo hb.out;clear hk hb hgl a0 a1 a2 a3 a4))
  | (go_at_call 33;go_must (refine (HNX.out g _ Kg.out).mono ?_;rintro e w7 ⟨rfl,hk,ho⟩;have Kg:=hk;have HB:=zh (ho.out.below HB.out HB.out.size (by have:=Lgo.out;have:=M3.out;omega));have Kgb:=zl ho Kgb (by have:=M2.out;have:=M3.out;omega);have Kgo:=zl ho Kgo (by have:=M2.out;have:=M3.out;omega);have k5:=zb Kg.out 5 (.int .i64 0);have k3:=zb Kg.out 3 (.slice A3 b.f3.length c3);clear hk ho))
  | (go_at_call 35;go_must (refine (HBG.out _ HB.out).mono ?_;rintro e w5 ⟨A4,c4,rfl,hc4,hC4,hb⟩;have HC4:=zh hC4;have HB:=keepB HB hb;have Kgb:=zk Kgb hb;have Kgo:=zk Kgo hb;have Kg:=zk Kg hb;clear hb hC4 k3 k5))
  | (go_at_call 34;go_must (refine (HUP.out g A4 c4 _ Kg.out).mono ?_;rintro e w6 ⟨rfl,hk,ho⟩;have HC4:=zh (keepU HC4.out Kg.out (work_like b.f0 b.f1 A2 b.f2.length c2 A3 b.f3.length c3 l2 0) ho.out);have Kg:=hk;have HB:=zh (ho.out.below HB.out HB.out.size (by have:=Lgo.out;have:=M3.out;omega));have Kgb:=zl ho Kgb (by have:=M2.out;have:=M3.out;omega);have Kgo:=zl ho Kgo (by have:=M2.out;have:=M3.out;omega);obtain ⟨m0,m1,m2,m3,m4⟩:=zz5 Kgb.out;clear hk ho))
  | (go_at_call 36;go_must (refine (HCL.out g A4 c4 _ HB.out Kg.out HC4.out hc4).mono ?_;rintro e w10 ⟨v10,rfl,hv,ho⟩;obtain ⟨A5,c5,A6,c6,rfl,y1,y2,y3,y4⟩:=hv;have HB:=zh (ho.below HB.out HB.out.size (by have:=Lgo.out;have:=M3.out;omega));have Kgb:=zh (ho.blk Kgb.out (by have:=M2.out;have:=M3.out;omega));have Kgo:=zh (ho.blk Kgo.out (by have:=M2.out;have:=M3.out;omega));have Y3:=zh y3;have Y4:=zh y4;clear ho y3 y4 m0 m1 m2 m3 m4))
  | ((with_reducible refine gate_dst (N:=9) rfl ?_);go_must (refine zx HB (N:=9) (cs:=#[.string ⟨#[]⟩,.int .i64 0,.slice none 0 0,.slice none 0 0,.int .u64 0]) (t:=26) ?hr ?_;(case hr=>first | (go_simp;done) | (go_simp;rfl));intro gx w11 Kgx Lgx HB hbelgx hqgx;have M4:=zh (show go < gx by rw [hqgx];exact blk_lt Kgo.out);have Kgb:=zk Kgb hbelgx;have Kgo:=zk Kgo hbelgx;have Y3:=zc Y3 hbelgx;have Y4:=zc Y4 hbelgx;clear hbelgx hqgx))
  | ((with_reducible refine gate_store (t:=26) (p:=9) (v:=.tmp 37) rfl ?_);go_must (refine zs 26 (.tmp 9) (.tmp 37) gx 0 26 [.string kb.f0,.int .i64 kb.f1,.slice A5 kb.f2.length c5,.slice A6 kb.f3.length c6,.int .u64 kb.f4] Kgx isz_bucket ?_;intro w12 hk ho;have Y3:=zh (keepE Y3.out Kgx.out (bk_like _ _ _ _ _ _ _ _ _) ho.out);have Y4:=zh (keepU Y4.out Kgx.out (bk_like _ _ _ _ _ _ _ _ _) ho.out);have HB:=zo ho HB Lgx;have Kgb:=zl ho Kgb (by have:=M2.out;have:=M4.out;omega);have Kgo:=zl ho Kgo (by have:=M2.out;have:=M4.out;omega);obtain ⟨p0,p1,p2,p3,p4⟩:=zz5 Kgb.out;clear hk ho))
  | ((with_reducible refine gate_store (t:=26) (p:=4) (v:=.tmp 41) rfl ?_);go_must (refine zs 26 (.tmp 4) (.tmp 41) go 0 26 [.string b.f0,.int .i64 b.f1,.slice A2 b.f2.length c2,.slice A3 b.f3.length c3,.int .u64 b.f4] Kgo isz_bucket ?_;intro w13 hk ho;have HB:=zo ho HB Lgo;obtain ⟨z0,z1,z2,z3,z4⟩:=zz5 hk.out;clear hk ho)))
 refine bodyPost_ret (v:=.tuple #[.agg #[.string b.f0,.int .i64 b.f1,.slice A2 b.f2.length c2,.slice A3 b.f3.length c3,.int .u64 b.f4],.int .u64 0,.int .i64 ce]) (by simp [results,Tryz.results12,go_sem,z0,z1,z2,z3,z4]) rfl ?_
 exact ⟨_,rfl,⟨A2,c2,A3,c3,rfl,G2.out,G3.out,H2.out _ HB.out,H3.out _ HB.out⟩,HB.out⟩
theorem begin_n (b : S26) (A2 A3 : Option Addr) (c2 c3 : Nat) (key : ByteArray) (w : World) (h2 : Kd.C k56 w A2 b.f2.length b.f2) (g2 : b.f2.length ≤ c2) (h3 : Kd.C k101 w A3 b.f3.length b.f3) (g3 : b.f3.length ≤ c3) (l2 : Int) (hl2 : IntKind.u64.wrap (b.f4 + 1) = l2) (e1 : Int) (he1 : noR (decide (281474976710655 ≤ b.f4)) 6 (openR b key) = e1) (h1 : e1 ≠ 0) (kb : S26) (ce : Int) (hce : closeR b (⟨b.f0,b.f1,b.f2,b.f3,l2⟩ : S26) e1 = (kb,ce)) (hz : ce ≠ 0) :
  Calls Tryz.prog 12 #[.agg #[.string b.f0,.int .i64 b.f1,.slice A2 b.f2.length c2,.slice A3 b.f3.length c3,.int .u64 b.f4],.string key] w (BkPost b [.int .u64 0,.int .i64 ce] w):=by
 have H2:=zh (fun (W : World) (h : Below w.heap.size w W)=>Kd.C_below h2 h)
 have H3:=zh (fun (W : World) (h : Below w.heap.size w W)=>Kd.C_below h3 h)
 have HOP:=zh (fun (W : World) (h : Below w.heap.size w W)=>open.walk b A2 A3 c2 c3 key W (Kd.C_below h2 h) g2 (Kd.C_below h3 h) g3)
 have HNX:=zh (fun (g : Nat) (W : World) hW=>next.walk g (.string b.f0) (.int .i64 b.f1) (.slice A2 b.f2.length c2) (.slice A3 b.f3.length c3) b.f4 (openR b key) W hW)
 rw [hl2,he1] at HNX
 have HQ : Hid (e1 = 0 → indexB b.f2 = true ∧ checkB b.f3 = true):=fun h=>absurd h h1
 have HCL:=zh (fun (g : Nat) (A4 : Option Addr) (c4 : Nat) (W : World) (hW : Below w.heap.size w W) (K : W.heap[g]? = some (.cells #[.string b.f0,.int .i64 b.f1,.slice A2 b.f2.length c2,.slice A4 b.f3.length c4,.int .u64 l2,.int .i64 e1] 87 (0,0))) (C4 : Kd.C k101 W A4 b.f3.length b.f3) (g4 : b.f3.length ≤ c4) =>
  close.calls (⟨b.f0,b.f1,b.f2,b.f3,l2⟩ : S26) b A2 A4 A2 A3 c2 c4 c2 c3 (e1) g W K (Kd.C_below h2 hW) g2 C4 g4 (Kd.C_below h2 hW) g2 (Kd.C_below h3 hW) g3 HQ.out)
 have p0 : (e1 == 0) = false:=beq_eq_false_iff_ne.2 h1
 have p1 : (e1 != 0) = true:=by rw [bne,p0];rfl
 rw [hce] at HCL
 have q0 : (ce == 0) = false:=beq_eq_false_iff_ne.2 hz
 have q1 : (ce != 0) = true:=by rw [bne,q0];rfl
 generalize openR b key = e0 at *
 have G3:=zh g3
 have G2:=zh g2
 have HB:=zh (Below.refl w.heap.size w)
 clear h2 h3 g2 g3 HQ he1 hl2 hce hz h1
 go_enter Tryz.func12,Tryz.ntmps12
 go_wp2_with (first
  | ((with_reducible refine gate_dst (N:=2) rfl ?_);go_must (refine zx HB (N:=2) (cs:=#[.string b.f0,.int .i64 b.f1,.slice A2 b.f2.length c2,.slice A3 b.f3.length c3,.int .u64 b.f4]) (t:=26) ?hr ?_;(case hr=>first | (go_simp;done) | (go_simp;rfl));intro gb w1 Kgb Lgb HB hbelgb hqgb;clear hbelgb hqgb))
  | ((with_reducible refine gate_dst (N:=4) rfl ?_);go_must (refine zx HB (N:=4) (cs:=#[.string ⟨#[]⟩,.int .i64 0,.slice none 0 0,.slice none 0 0,.int .u64 0]) (t:=26) ?hr ?_;(case hr=>first | (go_simp;done) | (go_simp;rfl));intro go w3 Kgo Lgo HB hbelgo hqgo;have M2:=zh (show gb < go by rw [hqgo];exact blk_lt Kgb.out);have Kgb:=zk Kgb hbelgo;obtain ⟨a0,a1,a2,a3,a4⟩:=zz5 Kgb.out;clear hbelgo hqgo))
  | (go_at_call 32;go_must (refine (HOP.out _ HB.out).mono ?_;rintro e w4 ⟨g,rfl,hgl,hk,hb⟩;have Kg:=hk;have M3:=zh (show go < g from Nat.lt_of_lt_of_le (blk_lt Kgo.out) hgl);have HB:=keepB HB hb.out;have Kgb:=zk Kgb hb.out;have Kgo:=zk Kgo hb.out;clear hk hb hgl a0 a1 a2 a3 a4))
  | (go_at_call 33;go_must (refine (HNX.out g _ Kg.out).mono ?_;rintro e w7 ⟨rfl,hk,ho⟩;have Kg:=hk;have HB:=zh (ho.out.below HB.out HB.out.size (by have:=Lgo.out;have:=M3.out;omega));have Kgb:=zl ho Kgb (by have:=M2.out;have:=M3.out;omega);have Kgo:=zl ho Kgo (by have:=M2.out;have:=M3.out;omega);have k5:=zb Kg.out 5 (.int .i64 e1);obtain ⟨m0,m1,m2,m3,m4⟩:=zz5 Kgb.out;clear hk ho))
  | (go_at_call 36;go_must (refine (HCL.out g A3 c3 _ HB.out Kg.out (H3.out _ HB.out) G3.out).mono ?_;rintro e w10 ⟨v10,rfl,hv,ho⟩;obtain ⟨A5,c5,A6,c6,rfl,y1,y2,y3,y4⟩:=hv;have HB:=zh (ho.below HB.out HB.out.size (by have:=Lgo.out;have:=M3.out;omega));have Kgb:=zh (ho.blk Kgb.out (by have:=M2.out;have:=M3.out;omega));have Kgo:=zh (ho.blk Kgo.out (by have:=M2.out;have:=M3.out;omega));have Y3:=zh y3;have Y4:=zh y4;clear ho y3 y4 m0 m1 m2 m3 m4 k5))
  | ((with_reducible refine gate_dst (N:=9) rfl ?_);go_must (refine zx HB (N:=9) (cs:=#[.string ⟨#[]⟩,.int .i64 0,.slice none 0 0,.slice none 0 0,.int .u64 0]) (t:=26) ?hr ?_;(case hr=>first | (go_simp;done) | (go_simp;rfl));intro gx w11 Kgx Lgx HB hbelgx hqgx;have M4:=zh (show go < gx by rw [hqgx];exact blk_lt Kgo.out);have Kgb:=zk Kgb hbelgx;have Kgo:=zk Kgo hbelgx;have Y3:=zc Y3 hbelgx;have Y4:=zc Y4 hbelgx;clear hbelgx hqgx))
  | ((with_reducible refine gate_store (t:=26) (p:=9) (v:=.tmp 37) rfl ?_);go_must (refine zs 26 (.tmp 9) (.tmp 37) gx 0 26 [.string kb.f0,.int .i64 kb.f1,.slice A5 kb.f2.length c5,.slice A6 kb.f3.length c6,.int .u64 kb.f4] Kgx isz_bucket ?_;intro w12 hk ho;have Y3:=zh (keepE Y3.out Kgx.out (bk_like _ _ _ _ _ _ _ _ _) ho.out);have Y4:=zh (keepU Y4.out Kgx.out (bk_like _ _ _ _ _ _ _ _ _) ho.out);have HB:=zo ho HB Lgx;have Kgb:=zl ho Kgb (by have:=M2.out;have:=M4.out;omega);have Kgo:=zl ho Kgo (by have:=M2.out;have:=M4.out;omega);obtain ⟨p0,p1,p2,p3,p4⟩:=zz5 Kgb.out;clear hk ho))
  | ((with_reducible refine gate_store (t:=26) (p:=4) (v:=.tmp 41) rfl ?_);go_must (refine zs 26 (.tmp 4) (.tmp 41) go 0 26 [.string b.f0,.int .i64 b.f1,.slice A2 b.f2.length c2,.slice A3 b.f3.length c3,.int .u64 b.f4] Kgo isz_bucket ?_;intro w13 hk ho;have HB:=zo ho HB Lgo;obtain ⟨z0,z1,z2,z3,z4⟩:=zz5 hk.out;clear hk ho)))
 refine bodyPost_ret (v:=.tuple #[.agg #[.string b.f0,.int .i64 b.f1,.slice A2 b.f2.length c2,.slice A3 b.f3.length c3,.int .u64 b.f4],.int .u64 0,.int .i64 ce]) (by simp [results,Tryz.results12,go_sem,z0,z1,z2,z3,z4]) rfl ?_
 exact ⟨_,rfl,⟨A2,c2,A3,c3,rfl,G2.out,G3.out,H2.out _ HB.out,H3.out _ HB.out⟩,HB.out⟩
theorem beginB.walk (b : S26) (A2 A3 : Option Addr) (c2 c3 : Nat) (key : ByteArray) (w : World) (h2 : Kd.C k56 w A2 b.f2.length b.f2) (g2 : b.f2.length ≤ c2) (h3 : Kd.C k101 w A3 b.f3.length b.f3) (g3 : b.f3.length ≤ c3) :
  Calls Tryz.prog 12 #[.agg #[.string b.f0,.int .i64 b.f1,.slice A2 b.f2.length c2,.slice A3 b.f3.length c3,.int .u64 b.f4],.string key] w (BkPost (beginB b key).1 [.int .u64 (beginB b key).2.1,.int .i64 (beginB b key).2.2] w):=by
 obtain ⟨l2,hl2⟩ : ∃ l2,IntKind.u64.wrap (b.f4 + 1) = l2:=⟨_,rfl⟩
 obtain ⟨e1,he1⟩ : ∃ e1,noR (decide (281474976710655 ≤ b.f4)) 6 (openR b key) = e1:=⟨_,rfl⟩
 obtain ⟨⟨r3,ar⟩,hr⟩ : ∃ r,beginR b.f3 l2 key = r:=⟨_,rfl⟩
 by_cases h1 : e1 = 0
 ·have e : beginB b key = if (closeR b ⟨b.f0,b.f1,b.f2,r3,l2⟩ (noR (!(ar == 0)) ar 0)).2 = 0 then ((closeR b ⟨b.f0,b.f1,b.f2,r3,l2⟩ (noR (!(ar == 0)) ar 0)).1,l2,0) else (b,0,(closeR b ⟨b.f0,b.f1,b.f2,r3,l2⟩ (noR (!(ar == 0)) ar 0)).2):=by
   unfold beginB beginQ
   simp only [hl2,he1,h1,hr,if_pos]
  rw [e]
  obtain ⟨⟨kb,ce⟩,hce⟩ : ∃ c,closeR b ⟨b.f0,b.f1,b.f2,r3,l2⟩ (noR (!(ar == 0)) ar 0) = c:=⟨_,rfl⟩
  rw [hce]
  by_cases hz : ce = 0
  ·rw [if_pos hz];exact begin_gg b A2 A3 c2 c3 key w h2 g2 h3 g3 l2 hl2 e1 he1 h1 r3 ar hr kb ce hce hz
  ·rw [if_neg hz];exact begin_gn b A2 A3 c2 c3 key w h2 g2 h3 g3 l2 hl2 e1 he1 h1 r3 ar hr kb ce hce hz
 ·have hc : closeR b ⟨b.f0,b.f1,b.f2,b.f3,l2⟩ e1 = (b,e1):=by unfold closeR;rw [if_neg h1]
  have e : beginB b key = (b,0,e1):=by
   unfold beginB beginQ
   simp only [hl2,he1,h1,if_false,hc]
  rw [e]
  exact begin_n b A2 A3 c2 c3 key w h2 g2 h3 g3 l2 hl2 e1 he1 h1 b e1 hc h1
end
section
open Go.WideMaps Go.Maps
attribute [local go_sem] Oper.semAt_some
def layB (b : S26) (id : Int) (p : S40) : S26 × Int × Int :=
 let r:=layR b.f3 id p
 let c:=closeR b ⟨b.f0,b.f1,b.f2,r.1,b.f4⟩ (noR (!(r.2.2 == 0)) r.2.2 (openR b anyK))
 if c.2 = 0 then (c.1,r.2.1,0) else (b,0,c.2)
theorem lay_g (b : S26) (A2 A3 : Option Addr) (c2 c3 : Nat) (id : Int) (p : S40) (w : World) (h2 : Kd.C k56 w A2 b.f2.length b.f2) (g2 : b.f2.length ≤ c2) (h3 : Kd.C k101 w A3 b.f3.length b.f3) (g3 : b.f3.length ≤ c3) (r3 : List S101) (tg ar : Int) (hr : layR b.f3 id p = (r3,tg,ar)) (kb : S26) (ce : Int) (hce : closeR b ⟨b.f0,b.f1,b.f2,r3,b.f4⟩ (noR (!(ar == 0)) ar (openR b anyK)) = (kb,ce)) (hz : ce = 0) :
  Calls Tryz.prog 15 #[.agg #[.string b.f0,.int .i64 b.f1,.slice A2 b.f2.length c2,.slice A3 b.f3.length c3,.int .u64 b.f4],.int .u64 id,.agg #[.int .i64 p.f0,.string p.f1]] w (BkPost kb [.int .u32 tg,.int .i64 0] w):=by
 have H2:=zh (fun (W : World) (h : Below w.heap.size w W)=>Kd.C_below h2 h)
 have H3:=zh (fun (W : World) (h : Below w.heap.size w W)=>Kd.C_below h3 h)
 have HOP:=zh (fun (W : World) (h : Below w.heap.size w W)=>open.walk b A2 A3 c2 c3 anyK W (Kd.C_below h2 h) g2 (Kd.C_below h3 h) g3)
 have HLY:=zh (fun (W : World) (h : Below w.heap.size w W)=>lay.walk A3 c3 b.f3 id p W (Kd.C_below h3 h) g3)
 rw [hr] at HLY
 have HQ : Hid (noR (!(ar == 0)) ar (openR b anyK) = 0 → indexB b.f2 = true ∧ checkB r3 = true):=fun h=>by
  have x:=lay_check (l:=b.f3) (id:=id) (p:=p) (by rw [hr];exact (noR_ok h).1)
  rw [hr] at x
  exact ⟨(bucket_at (open_0 (noR_ok h).2).1).2.1,x.1⟩
 generalize openR b anyK = e0 at *
 have HUP:=zh (fun (g : Nat) (A4 : Option Addr) (c4 : Nat) (W : World) hW=>uploadsW.walk g (.string b.f0) (.int .i64 b.f1) (.slice A2 b.f2.length c2) (.slice A3 b.f3.length c3) (.int .u64 b.f4) A4 r3.length c4 e0 ar W hW)
 generalize noR (!(ar == 0)) ar e0 = e2 at *
 have HCL:=zh (fun (g : Nat) (A4 : Option Addr) (c4 : Nat) (W : World) (hW : Below w.heap.size w W) (K : W.heap[g]? = some (.cells #[.string b.f0,.int .i64 b.f1,.slice A2 b.f2.length c2,.slice A4 r3.length c4,.int .u64 b.f4,.int .i64 e2] 87 (0,0))) (C4 : Kd.C k101 W A4 r3.length r3) (g4 : r3.length ≤ c4) =>
  close.calls (⟨b.f0,b.f1,b.f2,r3,b.f4⟩ : S26) b A2 A4 A2 A3 c2 c4 c2 c3 (e2) g W K (Kd.C_below h2 hW) g2 C4 g4 (Kd.C_below h2 hW) g2 (Kd.C_below h3 hW) g3 HQ.out)
 rw [hce] at HCL
 have q0 : (ce == 0) = true:=beq_iff_eq.2 hz
 have q1 : (ce != 0) = false:=by rw [bne,q0];rfl
 have G2:=zh g2
 have G3:=zh g3
 have HB:=zh (Below.refl w.heap.size w)
 clear h2 h3 g2 g3 HQ hce hz hr
 go_enter Tryz.func15,Tryz.ntmps15
 go_wp2_with (first
  | ((with_reducible refine gate_dst (N:=3) rfl ?_);go_must (refine zx HB (N:=3) (cs:=#[.string b.f0,.int .i64 b.f1,.slice A2 b.f2.length c2,.slice A3 b.f3.length c3,.int .u64 b.f4]) (t:=26) ?hr ?_;(case hr=>first | (go_simp;done) | (go_simp;rfl));intro gb w1 Kgb Lgb HB hbelgb hqgb;clear hbelgb hqgb))
  | ((with_reducible refine gate_dst (N:=5) rfl ?_);go_must (refine zx HB (N:=5) (cs:=#[.int .i64 p.f0,.string p.f1]) (t:=40) ?hr ?_;(case hr=>first | (go_simp;done) | (go_simp;rfl));intro gp w2 Kgp Lgp HB hbelgp hqgp;have M1:=zh (show gb < gp by rw [hqgp];exact blk_lt Kgb.out);have Kgb:=zk Kgb hbelgp;clear hbelgp hqgp))
  | ((with_reducible refine gate_dst (N:=6) rfl ?_);go_must (refine zx HB (N:=6) (cs:=#[.string ⟨#[]⟩,.int .i64 0,.slice none 0 0,.slice none 0 0,.int .u64 0]) (t:=26) ?hr ?_;(case hr=>first | (go_simp;done) | (go_simp;rfl));intro go w3 Kgo Lgo HB hbelgo hqgo;have M2:=zh (show gp < go by rw [hqgo];exact blk_lt Kgp.out);have Kgb:=zk Kgb hbelgo;have Kgp:=zk Kgp hbelgo;obtain ⟨a0,a1,a2,a3,a4⟩:=zz5 Kgb.out;clear hbelgo hqgo))
  | (go_at_call 32;go_must (refine (HOP.out _ HB.out).mono ?_;rintro e w4 ⟨g,rfl,hgl,hk,hb⟩;have Kg:=hk;have M3:=zh (show go < g from Nat.lt_of_lt_of_le (blk_lt Kgo.out) hgl);have HB:=keepB HB hb.out;have Kgb:=zk Kgb hb.out;have Kgp:=zk Kgp hb.out;have Kgo:=zk Kgo hb.out;clear hk hb hgl a0 a1 a2 a3 a4)))
 refine wp_region_held_drew (S:=fun W=>W.heap[g]? = some (.cells #[.string b.f0,.int .i64 b.f1,.slice A2 b.f2.length c2,.slice A3 b.f3.length c3,.int .u64 b.f4,.int .i64 e0] 87 (0,0)) ∧ W.cell? ⟨g,3,none⟩ = some (.slice A3 b.f3.length c3) ∧ W.heap[gb]? = some (.cells #[.string b.f0,.int .i64 b.f1,.slice A2 b.f2.length c2,.slice A3 b.f3.length c3,.int .u64 b.f4] 26 (0,0)) ∧ W.heap[go]? = some (.cells #[.string ⟨#[]⟩,.int .i64 0,.slice none 0 0,.slice none 0 0,.int .u64 0] 26 (0,0)) ∧ W.heap[gp]? = some (.cells #[.int .i64 p.f0,.string p.f1] 40 (0,0)) ∧ W.cell? ⟨gp,0,none⟩ = some (.int .i64 p.f0) ∧ W.cell? ⟨gp,1,none⟩ = some (.string p.f1) ∧ Below w.heap.size w W) (by kernel_rfl) ?_ (fun hHeld=>?_)
 ·exact ⟨blk_drew Kg.out,(blk_cell (blk_drew Kg.out) 3).trans rfl,blk_drew Kgb.out,blk_drew Kgo.out,blk_drew Kgp.out,blk_cell (blk_drew Kgp.out) 0,blk_cell (blk_drew Kgp.out) 1,HB.out.drew⟩
 clear Kg Kgb Kgo Kgp HB
 refine zt 0 ?_;try simp only [zN];refine zt 1 ?_;try simp only [zN];refine zt 2 ?_;try simp only [zN];refine zt 3 ?_;try simp only [zN];refine zt 4 ?_;try simp only [zN];refine zt 5 ?_;try simp only [zN];refine zt 6 ?_;try simp only [zN]
 refine wpAnyH_ready (rs:=[7]) (by kernel_rfl) (by simp) ?_
 refine AllReadyH.cons (o:=_) rfl (fun K hK=>?_) AllReadyH.nil
 rw [if_pos (by rfl)]
 go_simp
 obtain ⟨s0,s1,s2,s3,s4,s5,s6,s7⟩:=hHeld
 refine (HLY.out _ s7).mono ?_
 rintro e8 w8 ⟨A4,c4,rfl,hc4,hC4,hb8⟩
 have HC4:=zh hC4
 clear hC4
 have Kg:=zh (blk_below s0 hb8)
 have Kgb:=zh (blk_below s2 hb8)
 have Kgo:=zh (blk_below s3 hb8)
 have Kgp:=zh (blk_below s4 hb8)
 have HB:=zh (s7.trans (hb8.mono s7.size))
 refine hK.out _ _ ⟨Kg.out,zj Kg 3,Kgb.out,Kgo.out,Kgp.out,zj Kgp 0,zj Kgp 1,HB.out⟩ (fun hHeld=>?_)
 clear hK K hb8 s0 s1 s2 s3 s4 s5 s6 s7
 try simp only [zN]
 refine zt 8 ?_;try simp only [zN];refine zt 9 ?_;try simp only [zN];refine zt 10 ?_;try simp only [zN];refine zt 11 ?_;try simp only [zN];refine zt 12 ?_;try simp only [zN];refine zt 13 ?_;try simp only [zN];refine zt 14 ?_;try simp only [zN]
 refine wpAnyH_done (by kernel_rfl) ?_ _
 go_wp2_with (first
  | (go_at_call 34;go_must (refine (HUP.out g A4 c4 _ Kg.out).mono ?_;rintro e w6 ⟨rfl,hk,ho⟩;have HC4:=zh (keepU HC4.out Kg.out (work_like b.f0 b.f1 A2 b.f2.length c2 A3 b.f3.length c3 b.f4 e0) ho.out);have Kg:=hk;have HB:=zh (ho.out.below HB.out HB.out.size (by have:=Lgo.out;have:=M3.out;omega));have Kgb:=zl ho Kgb (by have:=M1.out;have:=M2.out;have:=M3.out;omega);have Kgo:=zl ho Kgo (by have:=M1.out;have:=M2.out;have:=M3.out;omega);obtain ⟨m0,m1,m2,m3,m4⟩:=zz5 Kgb.out;clear hk ho))
  | (go_at_call 36;go_must (refine (HCL.out g A4 c4 _ HB.out Kg.out HC4.out hc4).mono ?_;rintro e w10 ⟨v10,rfl,hv,ho⟩;obtain ⟨A5,c5,A6,c6,rfl,y1,y2,y3,y4⟩:=hv;have HB:=zh (ho.below HB.out HB.out.size (by have:=Lgo.out;have:=M3.out;omega));have Kgb:=zh (ho.blk Kgb.out (by have:=M1.out;have:=M2.out;have:=M3.out;omega));have Kgo:=zh (ho.blk Kgo.out (by have:=M1.out;have:=M2.out;have:=M3.out;omega));have Y3:=zh y3;have Y4:=zh y4;clear ho y3 y4 m0 m1 m2 m3 m4))
  | ((with_reducible refine gate_dst (N:=13) rfl ?_);go_must (refine zx HB (N:=13) (cs:=#[.string ⟨#[]⟩,.int .i64 0,.slice none 0 0,.slice none 0 0,.int .u64 0]) (t:=26) ?hr ?_;(case hr=>first | (go_simp;done) | (go_simp;rfl));intro gx w11 Kgx Lgx HB hbelgx hqgx;have M4:=zh (show go < gx by rw [hqgx];exact blk_lt Kgo.out);have Kgb:=zk Kgb hbelgx;have Kgo:=zk Kgo hbelgx;have Y3:=zc Y3 hbelgx;have Y4:=zc Y4 hbelgx;clear hbelgx hqgx))
  | ((with_reducible refine gate_store (t:=26) (p:=13) (v:=.tmp 36) rfl ?_);go_must (refine zs 26 (.tmp 13) (.tmp 36) gx 0 26 [.string kb.f0,.int .i64 kb.f1,.slice A5 kb.f2.length c5,.slice A6 kb.f3.length c6,.int .u64 kb.f4] Kgx isz_bucket ?_;intro w12 hk ho;have Y3:=zh (keepE Y3.out Kgx.out (bk_like _ _ _ _ _ _ _ _ _) ho.out);have Y4:=zh (keepU Y4.out Kgx.out (bk_like _ _ _ _ _ _ _ _ _) ho.out);have HB:=zo ho HB Lgx;have Kgb:=zl ho Kgb (by have:=M1.out;have:=M2.out;have:=M4.out;omega);have Kgo:=zl ho Kgo (by have:=M1.out;have:=M2.out;have:=M4.out;omega);have Kgx : Hid (w12.heap[gx]? = some (.cells #[.string kb.f0,.int .i64 kb.f1,.slice A5 kb.f2.length c5,.slice A6 kb.f3.length c6,.int .u64 kb.f4] 26 (0,0))):=hk;obtain ⟨p0,p1,p2,p3,p4⟩:=zz5 Kgx.out;clear hk ho))
  | ((with_reducible refine gate_store (t:=26) (p:=6) (v:=.tmp 42) rfl ?_);go_must (refine zs 26 (.tmp 6) (.tmp 42) go 0 26 [.string kb.f0,.int .i64 kb.f1,.slice A5 kb.f2.length c5,.slice A6 kb.f3.length c6,.int .u64 kb.f4] Kgo isz_bucket ?_;intro w13 hk ho;have Y3:=zh (keepE Y3.out Kgo.out (bk_like _ _ _ _ _ _ _ _ _) ho.out);have Y4:=zh (keepU Y4.out Kgo.out (bk_like _ _ _ _ _ _ _ _ _) ho.out);have HB:=zo ho HB Lgo;obtain ⟨z0,z1,z2,z3,z4⟩:=zz5 hk.out;clear hk ho)))
 refine bodyPost_ret (v:=.tuple #[.agg #[.string kb.f0,.int .i64 kb.f1,.slice A5 kb.f2.length c5,.slice A6 kb.f3.length c6,.int .u64 kb.f4],.int .u32 tg,.int .i64 0]) (by simp [results,Tryz.results15,go_sem,z0,z1,z2,z3,z4]) rfl ?_
 exact ⟨_,rfl,⟨A5,c5,A6,c6,rfl,y1,y2,Y3.out,Y4.out⟩,HB.out⟩
theorem lay_n (b : S26) (A2 A3 : Option Addr) (c2 c3 : Nat) (id : Int) (p : S40) (w : World) (h2 : Kd.C k56 w A2 b.f2.length b.f2) (g2 : b.f2.length ≤ c2) (h3 : Kd.C k101 w A3 b.f3.length b.f3) (g3 : b.f3.length ≤ c3) (r3 : List S101) (tg ar : Int) (hr : layR b.f3 id p = (r3,tg,ar)) (kb : S26) (ce : Int) (hce : closeR b ⟨b.f0,b.f1,b.f2,r3,b.f4⟩ (noR (!(ar == 0)) ar (openR b anyK)) = (kb,ce)) (hz : ce ≠ 0) :
  Calls Tryz.prog 15 #[.agg #[.string b.f0,.int .i64 b.f1,.slice A2 b.f2.length c2,.slice A3 b.f3.length c3,.int .u64 b.f4],.int .u64 id,.agg #[.int .i64 p.f0,.string p.f1]] w (BkPost b [.int .u32 0,.int .i64 ce] w):=by
 have H2:=zh (fun (W : World) (h : Below w.heap.size w W)=>Kd.C_below h2 h)
 have H3:=zh (fun (W : World) (h : Below w.heap.size w W)=>Kd.C_below h3 h)
 have HOP:=zh (fun (W : World) (h : Below w.heap.size w W)=>open.walk b A2 A3 c2 c3 anyK W (Kd.C_below h2 h) g2 (Kd.C_below h3 h) g3)
 have HLY:=zh (fun (W : World) (h : Below w.heap.size w W)=>lay.walk A3 c3 b.f3 id p W (Kd.C_below h3 h) g3)
 rw [hr] at HLY
 have HQ : Hid (noR (!(ar == 0)) ar (openR b anyK) = 0 → indexB b.f2 = true ∧ checkB r3 = true):=fun h=>by
  have x:=lay_check (l:=b.f3) (id:=id) (p:=p) (by rw [hr];exact (noR_ok h).1)
  rw [hr] at x
  exact ⟨(bucket_at (open_0 (noR_ok h).2).1).2.1,x.1⟩
 generalize openR b anyK = e0 at *
 have HUP:=zh (fun (g : Nat) (A4 : Option Addr) (c4 : Nat) (W : World) hW=>uploadsW.walk g (.string b.f0) (.int .i64 b.f1) (.slice A2 b.f2.length c2) (.slice A3 b.f3.length c3) (.int .u64 b.f4) A4 r3.length c4 e0 ar W hW)
 generalize noR (!(ar == 0)) ar e0 = e2 at *
 have HCL:=zh (fun (g : Nat) (A4 : Option Addr) (c4 : Nat) (W : World) (hW : Below w.heap.size w W) (K : W.heap[g]? = some (.cells #[.string b.f0,.int .i64 b.f1,.slice A2 b.f2.length c2,.slice A4 r3.length c4,.int .u64 b.f4,.int .i64 e2] 87 (0,0))) (C4 : Kd.C k101 W A4 r3.length r3) (g4 : r3.length ≤ c4) =>
  close.calls (⟨b.f0,b.f1,b.f2,r3,b.f4⟩ : S26) b A2 A4 A2 A3 c2 c4 c2 c3 (e2) g W K (Kd.C_below h2 hW) g2 C4 g4 (Kd.C_below h2 hW) g2 (Kd.C_below h3 hW) g3 HQ.out)
 rw [hce] at HCL
 have q0 : (ce == 0) = false:=beq_eq_false_iff_ne.2 hz
 have q1 : (ce != 0) = true:=by rw [bne,q0];rfl
 have G2:=zh g2
 have G3:=zh g3
 have HB:=zh (Below.refl w.heap.size w)
 clear h2 h3 g2 g3 HQ hce hz hr
 go_enter Tryz.func15,Tryz.ntmps15
 go_wp2_with (first
  | ((with_reducible refine gate_dst (N:=3) rfl ?_);go_must (refine zx HB (N:=3) (cs:=#[.string b.f0,.int .i64 b.f1,.slice A2 b.f2.length c2,.slice A3 b.f3.length c3,.int .u64 b.f4]) (t:=26) ?hr ?_;(case hr=>first | (go_simp;done) | (go_simp;rfl));intro gb w1 Kgb Lgb HB hbelgb hqgb;clear hbelgb hqgb))
  | ((with_reducible refine gate_dst (N:=5) rfl ?_);go_must (refine zx HB (N:=5) (cs:=#[.int .i64 p.f0,.string p.f1]) (t:=40) ?hr ?_;(case hr=>first | (go_simp;done) | (go_simp;rfl));intro gp w2 Kgp Lgp HB hbelgp hqgp;have M1:=zh (show gb < gp by rw [hqgp];exact blk_lt Kgb.out);have Kgb:=zk Kgb hbelgp;clear hbelgp hqgp))
  | ((with_reducible refine gate_dst (N:=6) rfl ?_);go_must (refine zx HB (N:=6) (cs:=#[.string ⟨#[]⟩,.int .i64 0,.slice none 0 0,.slice none 0 0,.int .u64 0]) (t:=26) ?hr ?_;(case hr=>first | (go_simp;done) | (go_simp;rfl));intro go w3 Kgo Lgo HB hbelgo hqgo;have M2:=zh (show gp < go by rw [hqgo];exact blk_lt Kgp.out);have Kgb:=zk Kgb hbelgo;have Kgp:=zk Kgp hbelgo;obtain ⟨a0,a1,a2,a3,a4⟩:=zz5 Kgb.out;clear hbelgo hqgo))
  | (go_at_call 32;go_must (refine (HOP.out _ HB.out).mono ?_;rintro e w4 ⟨g,rfl,hgl,hk,hb⟩;have Kg:=hk;have M3:=zh (show go < g from Nat.lt_of_lt_of_le (blk_lt Kgo.out) hgl);have HB:=keepB HB hb.out;have Kgb:=zk Kgb hb.out;have Kgp:=zk Kgp hb.out;have Kgo:=zk Kgo hb.out;clear hk hb hgl a0 a1 a2 a3 a4)))
 refine wp_region_held_drew (S:=fun W=>W.heap[g]? = some (.cells #[.string b.f0,.int .i64 b.f1,.slice A2 b.f2.length c2,.slice A3 b.f3.length c3,.int .u64 b.f4,.int .i64 e0] 87 (0,0)) ∧ W.cell? ⟨g,3,none⟩ = some (.slice A3 b.f3.length c3) ∧ W.heap[gb]? = some (.cells #[.string b.f0,.int .i64 b.f1,.slice A2 b.f2.length c2,.slice A3 b.f3.length c3,.int .u64 b.f4] 26 (0,0)) ∧ W.heap[go]? = some (.cells #[.string ⟨#[]⟩,.int .i64 0,.slice none 0 0,.slice none 0 0,.int .u64 0] 26 (0,0)) ∧ W.heap[gp]? = some (.cells #[.int .i64 p.f0,.string p.f1] 40 (0,0)) ∧ W.cell? ⟨gp,0,none⟩ = some (.int .i64 p.f0) ∧ W.cell? ⟨gp,1,none⟩ = some (.string p.f1) ∧ Below w.heap.size w W) (by kernel_rfl) ?_ (fun hHeld=>?_)
 ·exact ⟨blk_drew Kg.out,(blk_cell (blk_drew Kg.out) 3).trans rfl,blk_drew Kgb.out,blk_drew Kgo.out,blk_drew Kgp.out,blk_cell (blk_drew Kgp.out) 0,blk_cell (blk_drew Kgp.out) 1,HB.out.drew⟩
 clear Kg Kgb Kgo Kgp HB
 refine zt 0 ?_;try simp only [zN];refine zt 1 ?_;try simp only [zN];refine zt 2 ?_;try simp only [zN];refine zt 3 ?_;try simp only [zN];refine zt 4 ?_;try simp only [zN];refine zt 5 ?_;try simp only [zN];refine zt 6 ?_;try simp only [zN]
 refine wpAnyH_ready (rs:=[7]) (by kernel_rfl) (by simp) ?_
 refine AllReadyH.cons (o:=_) rfl (fun K hK=>?_) AllReadyH.nil
 rw [if_pos (by rfl)]
 go_simp
 obtain ⟨s0,s1,s2,s3,s4,s5,s6,s7⟩:=hHeld
 refine (HLY.out _ s7).mono ?_
 rintro e8 w8 ⟨A4,c4,rfl,hc4,hC4,hb8⟩
 have HC4:=zh hC4
 clear hC4
 have Kg:=zh (blk_below s0 hb8)
 have Kgb:=zh (blk_below s2 hb8)
 have Kgo:=zh (blk_below s3 hb8)
 have Kgp:=zh (blk_below s4 hb8)
 have HB:=zh (s7.trans (hb8.mono s7.size))
 refine hK.out _ _ ⟨Kg.out,zj Kg 3,Kgb.out,Kgo.out,Kgp.out,zj Kgp 0,zj Kgp 1,HB.out⟩ (fun hHeld=>?_)
 clear hK K hb8 s0 s1 s2 s3 s4 s5 s6 s7
 try simp only [zN]
 refine zt 8 ?_;try simp only [zN];refine zt 9 ?_;try simp only [zN];refine zt 10 ?_;try simp only [zN];refine zt 11 ?_;try simp only [zN];refine zt 12 ?_;try simp only [zN];refine zt 13 ?_;try simp only [zN];refine zt 14 ?_;try simp only [zN]
 refine wpAnyH_done (by kernel_rfl) ?_ _
 go_wp2_with (first
  | (go_at_call 34;go_must (refine (HUP.out g A4 c4 _ Kg.out).mono ?_;rintro e w6 ⟨rfl,hk,ho⟩;have HC4:=zh (keepU HC4.out Kg.out (work_like b.f0 b.f1 A2 b.f2.length c2 A3 b.f3.length c3 b.f4 e0) ho.out);have Kg:=hk;have HB:=zh (ho.out.below HB.out HB.out.size (by have:=Lgo.out;have:=M3.out;omega));have Kgb:=zl ho Kgb (by have:=M1.out;have:=M2.out;have:=M3.out;omega);have Kgo:=zl ho Kgo (by have:=M1.out;have:=M2.out;have:=M3.out;omega);obtain ⟨m0,m1,m2,m3,m4⟩:=zz5 Kgb.out;clear hk ho))
  | (go_at_call 36;go_must (refine (HCL.out g A4 c4 _ HB.out Kg.out HC4.out hc4).mono ?_;rintro e w10 ⟨v10,rfl,hv,ho⟩;obtain ⟨A5,c5,A6,c6,rfl,y1,y2,y3,y4⟩:=hv;have HB:=zh (ho.below HB.out HB.out.size (by have:=Lgo.out;have:=M3.out;omega));have Kgb:=zh (ho.blk Kgb.out (by have:=M1.out;have:=M2.out;have:=M3.out;omega));have Kgo:=zh (ho.blk Kgo.out (by have:=M1.out;have:=M2.out;have:=M3.out;omega));have Y3:=zh y3;have Y4:=zh y4;clear ho y3 y4 m0 m1 m2 m3 m4))
  | ((with_reducible refine gate_dst (N:=13) rfl ?_);go_must (refine zx HB (N:=13) (cs:=#[.string ⟨#[]⟩,.int .i64 0,.slice none 0 0,.slice none 0 0,.int .u64 0]) (t:=26) ?hr ?_;(case hr=>first | (go_simp;done) | (go_simp;rfl));intro gx w11 Kgx Lgx HB hbelgx hqgx;have M4:=zh (show go < gx by rw [hqgx];exact blk_lt Kgo.out);have Kgb:=zk Kgb hbelgx;have Kgo:=zk Kgo hbelgx;have Y3:=zc Y3 hbelgx;have Y4:=zc Y4 hbelgx;clear hbelgx hqgx))
  | ((with_reducible refine gate_store (t:=26) (p:=13) (v:=.tmp 36) rfl ?_);go_must (refine zs 26 (.tmp 13) (.tmp 36) gx 0 26 [.string kb.f0,.int .i64 kb.f1,.slice A5 kb.f2.length c5,.slice A6 kb.f3.length c6,.int .u64 kb.f4] Kgx isz_bucket ?_;intro w12 hk ho;have Y3:=zh (keepE Y3.out Kgx.out (bk_like _ _ _ _ _ _ _ _ _) ho.out);have Y4:=zh (keepU Y4.out Kgx.out (bk_like _ _ _ _ _ _ _ _ _) ho.out);have HB:=zo ho HB Lgx;have Kgb:=zl ho Kgb (by have:=M1.out;have:=M2.out;have:=M4.out;omega);have Kgo:=zl ho Kgo (by have:=M1.out;have:=M2.out;have:=M4.out;omega);obtain ⟨p0,p1,p2,p3,p4⟩:=zz5 Kgb.out;clear hk ho))
  | ((with_reducible refine gate_store (t:=26) (p:=6) (v:=.tmp 40) rfl ?_);go_must (refine zs 26 (.tmp 6) (.tmp 40) go 0 26 [.string b.f0,.int .i64 b.f1,.slice A2 b.f2.length c2,.slice A3 b.f3.length c3,.int .u64 b.f4] Kgo isz_bucket ?_;intro w13 hk ho;have HB:=zo ho HB Lgo;obtain ⟨z0,z1,z2,z3,z4⟩:=zz5 hk.out;clear hk ho)))
 refine bodyPost_ret (v:=.tuple #[.agg #[.string b.f0,.int .i64 b.f1,.slice A2 b.f2.length c2,.slice A3 b.f3.length c3,.int .u64 b.f4],.int .u32 0,.int .i64 ce]) (by simp [results,Tryz.results15,go_sem,z0,z1,z2,z3,z4]) rfl ?_
 exact ⟨_,rfl,⟨A2,c2,A3,c3,rfl,G2.out,G3.out,H2.out _ HB.out,H3.out _ HB.out⟩,HB.out⟩
theorem layB.walk (b : S26) (A2 A3 : Option Addr) (c2 c3 : Nat) (id : Int) (p : S40) (w : World) (h2 : Kd.C k56 w A2 b.f2.length b.f2) (g2 : b.f2.length ≤ c2) (h3 : Kd.C k101 w A3 b.f3.length b.f3) (g3 : b.f3.length ≤ c3) :
  Calls Tryz.prog 15 #[.agg #[.string b.f0,.int .i64 b.f1,.slice A2 b.f2.length c2,.slice A3 b.f3.length c3,.int .u64 b.f4],.int .u64 id,.agg #[.int .i64 p.f0,.string p.f1]] w (BkPost (layB b id p).1 [.int .u32 (layB b id p).2.1,.int .i64 (layB b id p).2.2] w):=by
 obtain ⟨⟨r3,tg,ar⟩,hr⟩ : ∃ r,layR b.f3 id p = r:=⟨_,rfl⟩
 obtain ⟨⟨kb,ce⟩,hce⟩ : ∃ c,closeR b ⟨b.f0,b.f1,b.f2,r3,b.f4⟩ (noR (!(ar == 0)) ar (openR b anyK)) = c:=⟨_,rfl⟩
 have e : layB b id p = if ce = 0 then (kb,tg,0) else (b,0,ce):=by
  unfold layB
  simp only [hr,hce]
 rw [e]
 by_cases hz : ce = 0
 ·rw [if_pos hz];exact lay_g b A2 A3 c2 c3 id p w h2 g2 h3 g3 r3 tg ar hr kb ce hce hz
 ·rw [if_neg hz];exact lay_n b A2 A3 c2 c3 id p w h2 g2 h3 g3 r3 tg ar hr kb ce hce hz
end
section
open Go.WideMaps Go.Maps
attribute [local go_sem] Oper.semAt_some
theorem whole_n00 (b : S26) (A2 A3 : Option Addr) (c2 c3 : Nat) (id : Int) (ps : List S43) (A : Option Addr) (c : Nat) (q : Int) (w : World) (h2 : Kd.C k56 w A2 b.f2.length b.f2) (g2 : b.f2.length ≤ c2) (h3 : Kd.C k101 w A3 b.f3.length b.f3) (g3 : b.f3.length ≤ c3) (hl : ps.length < 100) (h4 : Kd.C k43 w A ps.length ps) (e0 : Int) (he0 : openR b anyK = e0) (u : S101) (hf : findR b.f3 id = (u,0)) (data tx : ByteArray) (hw : wholeR u ps = (data,tx,0)) (e1 e2 : Int) (he1 : noR false 0 e0 = e1) (he2 : noR false 0 e1 = e2) (hz : e2 ≠ 0) :
  Calls Tryz.prog 17 #[.agg #[.string b.f0,.int .i64 b.f1,.slice A2 b.f2.length c2,.slice A3 b.f3.length c3,.int .u64 b.f4],.int .u64 id,.slice A ps.length c,.int .i64 q] w (BkPost b [.int .u64 0,.string ⟨#[]⟩,.int .i64 e2] w):=by
 have H2:=zh (fun (W : World) (h : Below w.heap.size w W)=>Kd.C_below h2 h)
 have H3:=zh (fun (W : World) (h : Below w.heap.size w W)=>Kd.C_below h3 h)
 have HOP:=zh (fun (W : World) (h : Below w.heap.size w W)=>open.walk b A2 A3 c2 c3 anyK W (Kd.C_below h2 h) g2 (Kd.C_below h3 h) g3)
 rw [he0] at HOP
 have HFD:=zh (fun (W : World) (h : Below w.heap.size w W)=>find.walk A3 c3 b.f3 id W (Kd.C_below h3 h) g3)
 unfold FindPost at HFD
 rw [hf] at HFD
 dsimp only at HFD
 have HWH:=zh (fun (A7 : Option Addr) (c7 : Nat) (W : World) (hW : Below w.heap.size w W) (hC : Kd.C k40 W A7 u.f2.length u.f2) (hc : u.f2.length ≤ c7)=>whole.walk u A7 c7 A c ps W hl hC hc (Kd.C_below h4 hW))
 rw [hw] at HWH
 unfold wholeV at HWH
 dsimp only at HWH
 have HN1:=zh (fun (g : Nat) (W : World) hW=>no.walk g (.string b.f0) (.int .i64 b.f1) (.slice A2 b.f2.length c2) (.slice A3 b.f3.length c3) (.int .u64 b.f4) e0 0 false W hW)
 rw [he1] at HN1
 have HN2:=zh (fun (g : Nat) (W : World) hW=>no.walk g (.string b.f0) (.int .i64 b.f1) (.slice A2 b.f2.length c2) (.slice A3 b.f3.length c3) (.int .u64 b.f4) e1 0 false W hW)
 rw [he2] at HN2
 have q2 : (e2 == 0) = false:=beq_eq_false_iff_ne.2 hz
 have r2 : (e2 != 0) = true:=by rw [bne,q2];rfl
 have G2:=zh g2
 have G3:=zh g3
 have HB:=zh (Below.refl w.heap.size w)
 clear h2 h3 g2 g3 h4 hl he0 hf hw he1 he2 hz
 go_enter Tryz.func17,Tryz.ntmps17
 go_wp2_with (first
  | ((with_reducible refine gate_dst (N:=4) rfl ?_);go_must (refine zx HB (N:=4) (cs:=#[.string b.f0,.int .i64 b.f1,.slice A2 b.f2.length c2,.slice A3 b.f3.length c3,.int .u64 b.f4]) (t:=26) ?hr ?_;(case hr=>first | (go_simp;done) | (go_simp;rfl));intro gb w1 Kgb Lgb HB hbelgb hqgb;clear hbelgb hqgb))
  | ((with_reducible refine gate_dst (N:=8) rfl ?_);go_must (refine zx HB (N:=8) (cs:=#[.string ⟨#[]⟩,.int .i64 0,.slice none 0 0,.slice none 0 0,.int .u64 0]) (t:=26) ?hr ?_;(case hr=>first | (go_simp;done) | (go_simp;rfl));intro go w3 Kgo Lgo HB hbelgo hqgo;have M2:=zh (show gb < go by rw [hqgo];exact blk_lt Kgb.out);have Kgb:=zk Kgb hbelgo;obtain ⟨a0,a1,a2,a3,a4⟩:=zz5 Kgb.out;clear hbelgo hqgo))
  | (go_at_call 32;go_must (refine (HOP.out _ HB.out).mono ?_;rintro e w4 ⟨g,rfl,hgl,hk,hb⟩;have Kg:=hk;have M3:=zh (show go < g from Nat.lt_of_lt_of_le (blk_lt Kgo.out) hgl);have HB:=keepB HB hb.out;have Kgb:=zk Kgb hb.out;have Kgo:=zk Kgo hb.out;have k3:=zb Kg.out 3 (.slice A3 b.f3.length c3);clear hk hb hgl a0 a1 a2 a3 a4))
  | (go_at_call 44;go_must (refine (HFD.out _ HB.out).mono ?_;rintro e w5 ⟨A7,c7,rfl,hc7,hC5,hb⟩;have HC5:=zh hC5;have HG5:=zh hc7;have HB:=keepB HB hb;have Kgb:=zk Kgb hb;have Kgo:=zk Kgo hb;have Kg:=zk Kg hb;clear hb hC5 hc7 k3))
  | ((with_reducible refine gate_dst (N:=13) rfl ?_);go_must (refine zx HB (N:=13) (cs:=#[.int .u64 0,.string ⟨#[]⟩,.slice none 0 0]) (t:=101) ?hr ?_;(case hr=>first | (go_simp;done) | (go_simp;rfl));intro gu w6 Kgu Lgu HB hbelgu hqgu;have M4:=zh (show g < gu by rw [hqgu];exact blk_lt Kg.out);have HD:=zh hbelgu;have LD5:=zh (show w5.heap.size ≤ gu by rw [hqgu];exact Nat.le_refl _);have Kgb:=zk Kgb hbelgu;have Kgo:=zk Kgo hbelgu;have Kg:=zk Kg hbelgu;clear hbelgu hqgu))
  | ((with_reducible refine gate_store (t:=101) (p:=13) (v:=.tmp 29) rfl ?_);go_must (refine zs 101 (.tmp 13) (.tmp 29) gu 0 101 [.int .u64 u.f0,.string u.f1,.slice A7 u.f2.length c7] Kgu (by kernel_rfl) ?_;intro w7 hk ho;have HC5:=zc HC5 (ho.out.below HD.out HD.out.size LD5.out);have Kgu : Hid (w7.heap[gu]? = some (.cells #[.int .u64 u.f0,.string u.f1,.slice A7 u.f2.length c7] 101 (0,0))):=hk;have HB:=zo ho HB Lgu;have Kgb:=zl ho Kgb (by have:=M2.out;have:=M3.out;have:=M4.out;omega);have Kgo:=zl ho Kgo (by have:=M2.out;have:=M3.out;have:=M4.out;omega);have Kg:=zl ho Kg (by have:=M2.out;have:=M3.out;have:=M4.out;omega);have MK1:=zh True.intro;clear HD LD5;clear hk ho))
  | (go_at_call 45;go_must (first
   | (clear MK1;refine (HN1.out g _ Kg.out).mono ?_;rintro e w8 ⟨rfl,hk,ho⟩;have HC5:=zh (keepPt HC5.out Kg.out (work_like b.f0 b.f1 A2 b.f2.length c2 A3 b.f3.length c3 b.f4 e0) ho.out);have Kg:=hk;have HB:=zh (ho.out.below HB.out HB.out.size (by have:=Lgo.out;have:=M3.out;omega));have Kgb:=zl ho Kgb (by have:=M2.out;have:=M3.out;have:=M4.out;omega);have Kgo:=zl ho Kgo (by have:=M2.out;have:=M3.out;have:=M4.out;omega);have Kgu:=zl ho Kgu (by have:=M2.out;have:=M3.out;have:=M4.out;omega);obtain ⟨u0,u1,u2⟩:=zz3 Kgu.out;have MK2:=zh True.intro;clear hk ho)
   | (clear MK2;refine (HN2.out g _ Kg.out).mono ?_;rintro e w8 ⟨rfl,hk,ho⟩;have HC5:=zh (keepPt HC5.out Kg.out (work_like b.f0 b.f1 A2 b.f2.length c2 A3 b.f3.length c3 b.f4 e1) ho.out);have Kg:=hk;have HB:=zh (ho.out.below HB.out HB.out.size (by have:=Lgo.out;have:=M3.out;omega));have Kgb:=zl ho Kgb (by have:=M2.out;have:=M3.out;have:=M4.out;omega);have Kgo:=zl ho Kgo (by have:=M2.out;have:=M3.out;have:=M4.out;omega);have Kgu:=zl ho Kgu (by have:=M2.out;have:=M3.out;have:=M4.out;omega);have k5:=zb Kg.out 5 (.int .i64 e2);clear hk ho)))
  | (go_at_call 46;go_must (refine (HWH.out A7 c7 _ HB.out HC5.out HG5.out).mono ?_;rintro e w9 ⟨rfl,hb⟩;have HC5:=zc HC5 hb;have HB:=keepB HB hb;have Kgb:=zk Kgb hb;have Kgo:=zk Kgo hb;have Kg:=zk Kg hb;have Kgu:=zk Kgu hb;clear hb u0 u1 u2)))
 refine wp_region_held_drew (S:=fun W=>W.heap[g]? = some (.cells #[.string b.f0,.int .i64 b.f1,.slice A2 b.f2.length c2,.slice A3 b.f3.length c3,.int .u64 b.f4,.int .i64 e2] 87 (0,0)) ∧ W.cell? ⟨g,5,none⟩ = some (.int .i64 e2) ∧ W.cell? ⟨gb,0,none⟩ = some (.string b.f0) ∧ W.cell? ⟨gb,1,none⟩ = some (.int .i64 b.f1) ∧ W.cell? ⟨gb,2,none⟩ = some (.slice A2 b.f2.length c2) ∧ W.cell? ⟨gb,3,none⟩ = some (.slice A3 b.f3.length c3) ∧ W.cell? ⟨gb,4,none⟩ = some (.int .u64 b.f4) ∧ W.heap[gb]? = some (.cells #[.string b.f0,.int .i64 b.f1,.slice A2 b.f2.length c2,.slice A3 b.f3.length c3,.int .u64 b.f4] 26 (0,0)) ∧ (∃ q0 q1 q2 q3 q4,W.heap[go]? = some (.cells #[q0,q1,q2,q3,q4] 26 (0,0))) ∧ Below w.heap.size w W) (by kernel_rfl) ?_ (fun hHeld=>?_)
 ·exact ⟨blk_drew Kg.out,(blk_cell (blk_drew Kg.out) 5).trans rfl,blk_cell (blk_drew Kgb.out) 0,blk_cell (blk_drew Kgb.out) 1,blk_cell (blk_drew Kgb.out) 2,blk_cell (blk_drew Kgb.out) 3,blk_cell (blk_drew Kgb.out) 4,blk_drew Kgb.out,⟨_,_,_,_,_,blk_drew Kgo.out⟩,HB.out.drew⟩
 clear Kg Kgo Kgb Kgu HB k5 HC5
 refine zt 0 ?_;try simp only [zN];refine zt 1 ?_;try simp only [zN];refine zt 2 ?_;try simp only [zN];refine zt 3 ?_;try simp only [zN];refine zt 4 ?_;try simp only [zN]
 refine wpAnyH_ready (rs:=[5]) (by kernel_rfl) (by simp) ?_
 refine AllReadyH.cons (o:=_) rfl (fun K hK=>?_) AllReadyH.nil
 rw [if_pos (by rfl)]
 obtain ⟨s0,s1,s2,s3,s4,s5,s6,s7,s8,s9⟩:=hHeld
 obtain ⟨q0,q1,q2,q3,q4,s8⟩:=s8
 refine wp_store_row rfl 26 (.tmp 8) (.tmp 69) rfl go 0 _ 26 (.agg #[.string b.f0,.int .i64 b.f1,.slice A2 b.f2.length c2,.slice A3 b.f3.length c3,.int .u64 b.f4]) [.string b.f0,.int .i64 b.f1,.slice A2 b.f2.length c2,.slice A3 b.f3.length c3,.int .u64 b.f4] rfl rfl s8 rfl isz_bucket (by show 0 + 5 ≤ 5;decide) (by simp [Value.oneCell']) ?_
 intro w14 hk ho
 have KZ : Hid (w14.heap[go]? = some (.cells #[.string b.f0,.int .i64 b.f1,.slice A2 b.f2.length c2,.slice A3 b.f3.length c3,.int .u64 b.f4] 26 (0,0))):=hk
 have HBZ:=zh (ho.out.below s9 s9.size Lgo.out)
 have KG2:=zh (ho.out.blk s0 (by have:=M3.out;omega))
 have KB2:=zh (ho.out.blk s7 (by have:=M2.out;omega))
 refine hK.out _ _ ⟨KG2.out,zj KG2 5,zj KB2 0,zj KB2 1,zj KB2 2,zj KB2 3,zj KB2 4,KB2.out,⟨_,_,_,_,_,hk.out⟩,HBZ.out⟩ (fun hHeld=>?_)
 clear hK K hk ho q0 q1 q2 q3 q4 s0 s1 s2 s3 s4 s5 s6 s7 s8 s9
 try simp only [zN]
 refine zt 6 ?_;try simp only [zN];refine zt 7 ?_;try simp only [zN];refine zt 8 ?_;try simp only [zN]
 refine wpAnyH_done (by kernel_rfl) ?_ _
 go_wp2
 have z0:=zb KZ.out 0 (.string b.f0)
 have z1:=zb KZ.out 1 (.int .i64 b.f1)
 have z2:=zb KZ.out 2 (.slice A2 b.f2.length c2)
 have z3:=zb KZ.out 3 (.slice A3 b.f3.length c3)
 have z4:=zb KZ.out 4 (.int .u64 b.f4)
 refine bodyPost_ret (v:=.tuple #[.agg #[.string b.f0,.int .i64 b.f1,.slice A2 b.f2.length c2,.slice A3 b.f3.length c3,.int .u64 b.f4],.int .u64 0,.string ⟨#[]⟩,.int .i64 e2]) (by simp [results,Tryz.results17,go_sem,z0,z1,z2,z3,z4]) rfl ?_
 exact ⟨_,rfl,⟨A2,c2,A3,c3,rfl,G2.out,G3.out,H2.out _ HBZ.out,H3.out _ HBZ.out⟩,HBZ.out⟩
theorem whole_n01 (b : S26) (A2 A3 : Option Addr) (c2 c3 : Nat) (id : Int) (ps : List S43) (A : Option Addr) (c : Nat) (q : Int) (w : World) (h2 : Kd.C k56 w A2 b.f2.length b.f2) (g2 : b.f2.length ≤ c2) (h3 : Kd.C k101 w A3 b.f3.length b.f3) (g3 : b.f3.length ≤ c3) (hl : ps.length < 100) (h4 : Kd.C k43 w A ps.length ps) (e0 : Int) (he0 : openR b anyK = e0) (u : S101) (hf : findR b.f3 id = (u,0)) (data tx : ByteArray) (we : Int) (hwe : we ≠ 0) (hw : wholeR u ps = (data,tx,we)) (e1 e2 : Int) (he1 : noR false 0 e0 = e1) (he2 : noR true we e1 = e2) (hz : e2 ≠ 0) :
  Calls Tryz.prog 17 #[.agg #[.string b.f0,.int .i64 b.f1,.slice A2 b.f2.length c2,.slice A3 b.f3.length c3,.int .u64 b.f4],.int .u64 id,.slice A ps.length c,.int .i64 q] w (BkPost b [.int .u64 0,.string ⟨#[]⟩,.int .i64 e2] w):=by
 have H2:=zh (fun (W : World) (h : Below w.heap.size w W)=>Kd.C_below h2 h)
 have H3:=zh (fun (W : World) (h : Below w.heap.size w W)=>Kd.C_below h3 h)
 have HOP:=zh (fun (W : World) (h : Below w.heap.size w W)=>open.walk b A2 A3 c2 c3 anyK W (Kd.C_below h2 h) g2 (Kd.C_below h3 h) g3)
 rw [he0] at HOP
 have HFD:=zh (fun (W : World) (h : Below w.heap.size w W)=>find.walk A3 c3 b.f3 id W (Kd.C_below h3 h) g3)
 unfold FindPost at HFD
 rw [hf] at HFD
 dsimp only at HFD
 have HWH:=zh (fun (A7 : Option Addr) (c7 : Nat) (W : World) (hW : Below w.heap.size w W) (hC : Kd.C k40 W A7 u.f2.length u.f2) (hc : u.f2.length ≤ c7)=>whole.walk u A7 c7 A c ps W hl hC hc (Kd.C_below h4 hW))
 rw [hw] at HWH
 unfold wholeV at HWH
 dsimp only at HWH
 have HN1:=zh (fun (g : Nat) (W : World) hW=>no.walk g (.string b.f0) (.int .i64 b.f1) (.slice A2 b.f2.length c2) (.slice A3 b.f3.length c3) (.int .u64 b.f4) e0 0 false W hW)
 rw [he1] at HN1
 have HN2:=zh (fun (g : Nat) (W : World) hW=>no.walk g (.string b.f0) (.int .i64 b.f1) (.slice A2 b.f2.length c2) (.slice A3 b.f3.length c3) (.int .u64 b.f4) e1 we true W hW)
 rw [he2] at HN2
 have q1 : (we == 0) = false:=beq_eq_false_iff_ne.2 hwe
 have r1 : (we != 0) = true:=by rw [bne,q1];rfl
 have q2 : (e2 == 0) = false:=beq_eq_false_iff_ne.2 hz
 have r2 : (e2 != 0) = true:=by rw [bne,q2];rfl
 have G2:=zh g2
 have G3:=zh g3
 have HB:=zh (Below.refl w.heap.size w)
 clear h2 h3 g2 g3 h4 hl he0 hf hw he1 he2 hz
 go_enter Tryz.func17,Tryz.ntmps17
 go_wp2_with (first
  | ((with_reducible refine gate_dst (N:=4) rfl ?_);go_must (refine zx HB (N:=4) (cs:=#[.string b.f0,.int .i64 b.f1,.slice A2 b.f2.length c2,.slice A3 b.f3.length c3,.int .u64 b.f4]) (t:=26) ?hr ?_;(case hr=>first | (go_simp;done) | (go_simp;rfl));intro gb w1 Kgb Lgb HB hbelgb hqgb;clear hbelgb hqgb))
  | ((with_reducible refine gate_dst (N:=8) rfl ?_);go_must (refine zx HB (N:=8) (cs:=#[.string ⟨#[]⟩,.int .i64 0,.slice none 0 0,.slice none 0 0,.int .u64 0]) (t:=26) ?hr ?_;(case hr=>first | (go_simp;done) | (go_simp;rfl));intro go w3 Kgo Lgo HB hbelgo hqgo;have M2:=zh (show gb < go by rw [hqgo];exact blk_lt Kgb.out);have Kgb:=zk Kgb hbelgo;obtain ⟨a0,a1,a2,a3,a4⟩:=zz5 Kgb.out;clear hbelgo hqgo))
  | (go_at_call 32;go_must (refine (HOP.out _ HB.out).mono ?_;rintro e w4 ⟨g,rfl,hgl,hk,hb⟩;have Kg:=hk;have M3:=zh (show go < g from Nat.lt_of_lt_of_le (blk_lt Kgo.out) hgl);have HB:=keepB HB hb.out;have Kgb:=zk Kgb hb.out;have Kgo:=zk Kgo hb.out;have k3:=zb Kg.out 3 (.slice A3 b.f3.length c3);clear hk hb hgl a0 a1 a2 a3 a4))
  | (go_at_call 44;go_must (refine (HFD.out _ HB.out).mono ?_;rintro e w5 ⟨A7,c7,rfl,hc7,hC5,hb⟩;have HC5:=zh hC5;have HG5:=zh hc7;have HB:=keepB HB hb;have Kgb:=zk Kgb hb;have Kgo:=zk Kgo hb;have Kg:=zk Kg hb;clear hb hC5 hc7 k3))
  | ((with_reducible refine gate_dst (N:=13) rfl ?_);go_must (refine zx HB (N:=13) (cs:=#[.int .u64 0,.string ⟨#[]⟩,.slice none 0 0]) (t:=101) ?hr ?_;(case hr=>first | (go_simp;done) | (go_simp;rfl));intro gu w6 Kgu Lgu HB hbelgu hqgu;have M4:=zh (show g < gu by rw [hqgu];exact blk_lt Kg.out);have HD:=zh hbelgu;have LD5:=zh (show w5.heap.size ≤ gu by rw [hqgu];exact Nat.le_refl _);have Kgb:=zk Kgb hbelgu;have Kgo:=zk Kgo hbelgu;have Kg:=zk Kg hbelgu;clear hbelgu hqgu))
  | ((with_reducible refine gate_store (t:=101) (p:=13) (v:=.tmp 29) rfl ?_);go_must (refine zs 101 (.tmp 13) (.tmp 29) gu 0 101 [.int .u64 u.f0,.string u.f1,.slice A7 u.f2.length c7] Kgu (by kernel_rfl) ?_;intro w7 hk ho;have HC5:=zc HC5 (ho.out.below HD.out HD.out.size LD5.out);have Kgu : Hid (w7.heap[gu]? = some (.cells #[.int .u64 u.f0,.string u.f1,.slice A7 u.f2.length c7] 101 (0,0))):=hk;have HB:=zo ho HB Lgu;have Kgb:=zl ho Kgb (by have:=M2.out;have:=M3.out;have:=M4.out;omega);have Kgo:=zl ho Kgo (by have:=M2.out;have:=M3.out;have:=M4.out;omega);have Kg:=zl ho Kg (by have:=M2.out;have:=M3.out;have:=M4.out;omega);have MK1:=zh True.intro;clear HD LD5;clear hk ho))
  | (go_at_call 45;go_must (first
   | (clear MK1;refine (HN1.out g _ Kg.out).mono ?_;rintro e w8 ⟨rfl,hk,ho⟩;have HC5:=zh (keepPt HC5.out Kg.out (work_like b.f0 b.f1 A2 b.f2.length c2 A3 b.f3.length c3 b.f4 e0) ho.out);have Kg:=hk;have HB:=zh (ho.out.below HB.out HB.out.size (by have:=Lgo.out;have:=M3.out;omega));have Kgb:=zl ho Kgb (by have:=M2.out;have:=M3.out;have:=M4.out;omega);have Kgo:=zl ho Kgo (by have:=M2.out;have:=M3.out;have:=M4.out;omega);have Kgu:=zl ho Kgu (by have:=M2.out;have:=M3.out;have:=M4.out;omega);obtain ⟨u0,u1,u2⟩:=zz3 Kgu.out;have MK2:=zh True.intro;clear hk ho)
   | (clear MK2;refine (HN2.out g _ Kg.out).mono ?_;rintro e w8 ⟨rfl,hk,ho⟩;have HC5:=zh (keepPt HC5.out Kg.out (work_like b.f0 b.f1 A2 b.f2.length c2 A3 b.f3.length c3 b.f4 e1) ho.out);have Kg:=hk;have HB:=zh (ho.out.below HB.out HB.out.size (by have:=Lgo.out;have:=M3.out;omega));have Kgb:=zl ho Kgb (by have:=M2.out;have:=M3.out;have:=M4.out;omega);have Kgo:=zl ho Kgo (by have:=M2.out;have:=M3.out;have:=M4.out;omega);have Kgu:=zl ho Kgu (by have:=M2.out;have:=M3.out;have:=M4.out;omega);have k5:=zb Kg.out 5 (.int .i64 e2);clear hk ho)))
  | (go_at_call 46;go_must (refine (HWH.out A7 c7 _ HB.out HC5.out HG5.out).mono ?_;rintro e w9 ⟨rfl,hb⟩;have HC5:=zc HC5 hb;have HB:=keepB HB hb;have Kgb:=zk Kgb hb;have Kgo:=zk Kgo hb;have Kg:=zk Kg hb;have Kgu:=zk Kgu hb;clear hb u0 u1 u2)))
 refine wp_region_held_drew (S:=fun W=>W.heap[g]? = some (.cells #[.string b.f0,.int .i64 b.f1,.slice A2 b.f2.length c2,.slice A3 b.f3.length c3,.int .u64 b.f4,.int .i64 e2] 87 (0,0)) ∧ W.cell? ⟨g,5,none⟩ = some (.int .i64 e2) ∧ W.cell? ⟨gb,0,none⟩ = some (.string b.f0) ∧ W.cell? ⟨gb,1,none⟩ = some (.int .i64 b.f1) ∧ W.cell? ⟨gb,2,none⟩ = some (.slice A2 b.f2.length c2) ∧ W.cell? ⟨gb,3,none⟩ = some (.slice A3 b.f3.length c3) ∧ W.cell? ⟨gb,4,none⟩ = some (.int .u64 b.f4) ∧ W.heap[gb]? = some (.cells #[.string b.f0,.int .i64 b.f1,.slice A2 b.f2.length c2,.slice A3 b.f3.length c3,.int .u64 b.f4] 26 (0,0)) ∧ (∃ q0 q1 q2 q3 q4,W.heap[go]? = some (.cells #[q0,q1,q2,q3,q4] 26 (0,0))) ∧ Below w.heap.size w W) (by kernel_rfl) ?_ (fun hHeld=>?_)
 ·exact ⟨blk_drew Kg.out,(blk_cell (blk_drew Kg.out) 5).trans rfl,blk_cell (blk_drew Kgb.out) 0,blk_cell (blk_drew Kgb.out) 1,blk_cell (blk_drew Kgb.out) 2,blk_cell (blk_drew Kgb.out) 3,blk_cell (blk_drew Kgb.out) 4,blk_drew Kgb.out,⟨_,_,_,_,_,blk_drew Kgo.out⟩,HB.out.drew⟩
 clear Kg Kgo Kgb Kgu HB k5 HC5
 refine zt 0 ?_;try simp only [zN];refine zt 1 ?_;try simp only [zN];refine zt 2 ?_;try simp only [zN];refine zt 3 ?_;try simp only [zN];refine zt 4 ?_;try simp only [zN]
 refine wpAnyH_ready (rs:=[5]) (by kernel_rfl) (by simp) ?_
 refine AllReadyH.cons (o:=_) rfl (fun K hK=>?_) AllReadyH.nil
 rw [if_pos (by rfl)]
 obtain ⟨s0,s1,s2,s3,s4,s5,s6,s7,s8,s9⟩:=hHeld
 obtain ⟨q0,q1,q2,q3,q4,s8⟩:=s8
 refine wp_store_row rfl 26 (.tmp 8) (.tmp 69) rfl go 0 _ 26 (.agg #[.string b.f0,.int .i64 b.f1,.slice A2 b.f2.length c2,.slice A3 b.f3.length c3,.int .u64 b.f4]) [.string b.f0,.int .i64 b.f1,.slice A2 b.f2.length c2,.slice A3 b.f3.length c3,.int .u64 b.f4] rfl rfl s8 rfl isz_bucket (by show 0 + 5 ≤ 5;decide) (by simp [Value.oneCell']) ?_
 intro w14 hk ho
 have KZ : Hid (w14.heap[go]? = some (.cells #[.string b.f0,.int .i64 b.f1,.slice A2 b.f2.length c2,.slice A3 b.f3.length c3,.int .u64 b.f4] 26 (0,0))):=hk
 have HBZ:=zh (ho.out.below s9 s9.size Lgo.out)
 have KG2:=zh (ho.out.blk s0 (by have:=M3.out;omega))
 have KB2:=zh (ho.out.blk s7 (by have:=M2.out;omega))
 refine hK.out _ _ ⟨KG2.out,zj KG2 5,zj KB2 0,zj KB2 1,zj KB2 2,zj KB2 3,zj KB2 4,KB2.out,⟨_,_,_,_,_,hk.out⟩,HBZ.out⟩ (fun hHeld=>?_)
 clear hK K hk ho q0 q1 q2 q3 q4 s0 s1 s2 s3 s4 s5 s6 s7 s8 s9
 try simp only [zN]
 refine zt 6 ?_;try simp only [zN];refine zt 7 ?_;try simp only [zN];refine zt 8 ?_;try simp only [zN]
 refine wpAnyH_done (by kernel_rfl) ?_ _
 go_wp2
 have z0:=zb KZ.out 0 (.string b.f0)
 have z1:=zb KZ.out 1 (.int .i64 b.f1)
 have z2:=zb KZ.out 2 (.slice A2 b.f2.length c2)
 have z3:=zb KZ.out 3 (.slice A3 b.f3.length c3)
 have z4:=zb KZ.out 4 (.int .u64 b.f4)
 refine bodyPost_ret (v:=.tuple #[.agg #[.string b.f0,.int .i64 b.f1,.slice A2 b.f2.length c2,.slice A3 b.f3.length c3,.int .u64 b.f4],.int .u64 0,.string ⟨#[]⟩,.int .i64 e2]) (by simp [results,Tryz.results17,go_sem,z0,z1,z2,z3,z4]) rfl ?_
 exact ⟨_,rfl,⟨A2,c2,A3,c3,rfl,G2.out,G3.out,H2.out _ HBZ.out,H3.out _ HBZ.out⟩,HBZ.out⟩
theorem whole_n10 (b : S26) (A2 A3 : Option Addr) (c2 c3 : Nat) (id : Int) (ps : List S43) (A : Option Addr) (c : Nat) (q : Int) (w : World) (h2 : Kd.C k56 w A2 b.f2.length b.f2) (g2 : b.f2.length ≤ c2) (h3 : Kd.C k101 w A3 b.f3.length b.f3) (g3 : b.f3.length ≤ c3) (hl : ps.length < 100) (h4 : Kd.C k43 w A ps.length ps) (e0 : Int) (he0 : openR b anyK = e0) (u : S101) (fe : Int) (hfe : fe ≠ 0) (hf : findR b.f3 id = (u,fe)) (data tx : ByteArray) (hw : wholeR u ps = (data,tx,0)) (e1 e2 : Int) (he1 : noR true fe e0 = e1) (he2 : noR false 0 e1 = e2) (hz : e2 ≠ 0) :
  Calls Tryz.prog 17 #[.agg #[.string b.f0,.int .i64 b.f1,.slice A2 b.f2.length c2,.slice A3 b.f3.length c3,.int .u64 b.f4],.int .u64 id,.slice A ps.length c,.int .i64 q] w (BkPost b [.int .u64 0,.string ⟨#[]⟩,.int .i64 e2] w):=by
 have H2:=zh (fun (W : World) (h : Below w.heap.size w W)=>Kd.C_below h2 h)
 have H3:=zh (fun (W : World) (h : Below w.heap.size w W)=>Kd.C_below h3 h)
 have HOP:=zh (fun (W : World) (h : Below w.heap.size w W)=>open.walk b A2 A3 c2 c3 anyK W (Kd.C_below h2 h) g2 (Kd.C_below h3 h) g3)
 rw [he0] at HOP
 have HFD:=zh (fun (W : World) (h : Below w.heap.size w W)=>find.walk A3 c3 b.f3 id W (Kd.C_below h3 h) g3)
 unfold FindPost at HFD
 rw [hf] at HFD
 dsimp only at HFD
 have HWH:=zh (fun (A7 : Option Addr) (c7 : Nat) (W : World) (hW : Below w.heap.size w W) (hC : Kd.C k40 W A7 u.f2.length u.f2) (hc : u.f2.length ≤ c7)=>whole.walk u A7 c7 A c ps W hl hC hc (Kd.C_below h4 hW))
 rw [hw] at HWH
 unfold wholeV at HWH
 dsimp only at HWH
 have HN1:=zh (fun (g : Nat) (W : World) hW=>no.walk g (.string b.f0) (.int .i64 b.f1) (.slice A2 b.f2.length c2) (.slice A3 b.f3.length c3) (.int .u64 b.f4) e0 fe true W hW)
 rw [he1] at HN1
 have HN2:=zh (fun (g : Nat) (W : World) hW=>no.walk g (.string b.f0) (.int .i64 b.f1) (.slice A2 b.f2.length c2) (.slice A3 b.f3.length c3) (.int .u64 b.f4) e1 0 false W hW)
 rw [he2] at HN2
 have q0 : (fe == 0) = false:=beq_eq_false_iff_ne.2 hfe
 have r0 : (fe != 0) = true:=by rw [bne,q0];rfl
 have q2 : (e2 == 0) = false:=beq_eq_false_iff_ne.2 hz
 have r2 : (e2 != 0) = true:=by rw [bne,q2];rfl
 have G2:=zh g2
 have G3:=zh g3
 have HB:=zh (Below.refl w.heap.size w)
 clear h2 h3 g2 g3 h4 hl he0 hf hw he1 he2 hz
 go_enter Tryz.func17,Tryz.ntmps17
 go_wp2_with (first
  | ((with_reducible refine gate_dst (N:=4) rfl ?_);go_must (refine zx HB (N:=4) (cs:=#[.string b.f0,.int .i64 b.f1,.slice A2 b.f2.length c2,.slice A3 b.f3.length c3,.int .u64 b.f4]) (t:=26) ?hr ?_;(case hr=>first | (go_simp;done) | (go_simp;rfl));intro gb w1 Kgb Lgb HB hbelgb hqgb;clear hbelgb hqgb))
  | ((with_reducible refine gate_dst (N:=8) rfl ?_);go_must (refine zx HB (N:=8) (cs:=#[.string ⟨#[]⟩,.int .i64 0,.slice none 0 0,.slice none 0 0,.int .u64 0]) (t:=26) ?hr ?_;(case hr=>first | (go_simp;done) | (go_simp;rfl));intro go w3 Kgo Lgo HB hbelgo hqgo;have M2:=zh (show gb < go by rw [hqgo];exact blk_lt Kgb.out);have Kgb:=zk Kgb hbelgo;obtain ⟨a0,a1,a2,a3,a4⟩:=zz5 Kgb.out;clear hbelgo hqgo))
  | (go_at_call 32;go_must (refine (HOP.out _ HB.out).mono ?_;rintro e w4 ⟨g,rfl,hgl,hk,hb⟩;have Kg:=hk;have M3:=zh (show go < g from Nat.lt_of_lt_of_le (blk_lt Kgo.out) hgl);have HB:=keepB HB hb.out;have Kgb:=zk Kgb hb.out;have Kgo:=zk Kgo hb.out;have k3:=zb Kg.out 3 (.slice A3 b.f3.length c3);clear hk hb hgl a0 a1 a2 a3 a4))
  | (go_at_call 44;go_must (refine (HFD.out _ HB.out).mono ?_;rintro e w5 ⟨A7,c7,rfl,hc7,hC5,hb⟩;have HC5:=zh hC5;have HG5:=zh hc7;have HB:=keepB HB hb;have Kgb:=zk Kgb hb;have Kgo:=zk Kgo hb;have Kg:=zk Kg hb;clear hb hC5 hc7 k3))
  | ((with_reducible refine gate_dst (N:=13) rfl ?_);go_must (refine zx HB (N:=13) (cs:=#[.int .u64 0,.string ⟨#[]⟩,.slice none 0 0]) (t:=101) ?hr ?_;(case hr=>first | (go_simp;done) | (go_simp;rfl));intro gu w6 Kgu Lgu HB hbelgu hqgu;have M4:=zh (show g < gu by rw [hqgu];exact blk_lt Kg.out);have HD:=zh hbelgu;have LD5:=zh (show w5.heap.size ≤ gu by rw [hqgu];exact Nat.le_refl _);have Kgb:=zk Kgb hbelgu;have Kgo:=zk Kgo hbelgu;have Kg:=zk Kg hbelgu;clear hbelgu hqgu))
  | ((with_reducible refine gate_store (t:=101) (p:=13) (v:=.tmp 29) rfl ?_);go_must (refine zs 101 (.tmp 13) (.tmp 29) gu 0 101 [.int .u64 u.f0,.string u.f1,.slice A7 u.f2.length c7] Kgu (by kernel_rfl) ?_;intro w7 hk ho;have HC5:=zc HC5 (ho.out.below HD.out HD.out.size LD5.out);have Kgu : Hid (w7.heap[gu]? = some (.cells #[.int .u64 u.f0,.string u.f1,.slice A7 u.f2.length c7] 101 (0,0))):=hk;have HB:=zo ho HB Lgu;have Kgb:=zl ho Kgb (by have:=M2.out;have:=M3.out;have:=M4.out;omega);have Kgo:=zl ho Kgo (by have:=M2.out;have:=M3.out;have:=M4.out;omega);have Kg:=zl ho Kg (by have:=M2.out;have:=M3.out;have:=M4.out;omega);have MK1:=zh True.intro;clear HD LD5;clear hk ho))
  | (go_at_call 45;go_must (first
   | (clear MK1;refine (HN1.out g _ Kg.out).mono ?_;rintro e w8 ⟨rfl,hk,ho⟩;have HC5:=zh (keepPt HC5.out Kg.out (work_like b.f0 b.f1 A2 b.f2.length c2 A3 b.f3.length c3 b.f4 e0) ho.out);have Kg:=hk;have HB:=zh (ho.out.below HB.out HB.out.size (by have:=Lgo.out;have:=M3.out;omega));have Kgb:=zl ho Kgb (by have:=M2.out;have:=M3.out;have:=M4.out;omega);have Kgo:=zl ho Kgo (by have:=M2.out;have:=M3.out;have:=M4.out;omega);have Kgu:=zl ho Kgu (by have:=M2.out;have:=M3.out;have:=M4.out;omega);obtain ⟨u0,u1,u2⟩:=zz3 Kgu.out;have MK2:=zh True.intro;clear hk ho)
   | (clear MK2;refine (HN2.out g _ Kg.out).mono ?_;rintro e w8 ⟨rfl,hk,ho⟩;have HC5:=zh (keepPt HC5.out Kg.out (work_like b.f0 b.f1 A2 b.f2.length c2 A3 b.f3.length c3 b.f4 e1) ho.out);have Kg:=hk;have HB:=zh (ho.out.below HB.out HB.out.size (by have:=Lgo.out;have:=M3.out;omega));have Kgb:=zl ho Kgb (by have:=M2.out;have:=M3.out;have:=M4.out;omega);have Kgo:=zl ho Kgo (by have:=M2.out;have:=M3.out;have:=M4.out;omega);have Kgu:=zl ho Kgu (by have:=M2.out;have:=M3.out;have:=M4.out;omega);have k5:=zb Kg.out 5 (.int .i64 e2);clear hk ho)))
  | (go_at_call 46;go_must (refine (HWH.out A7 c7 _ HB.out HC5.out HG5.out).mono ?_;rintro e w9 ⟨rfl,hb⟩;have HC5:=zc HC5 hb;have HB:=keepB HB hb;have Kgb:=zk Kgb hb;have Kgo:=zk Kgo hb;have Kg:=zk Kg hb;have Kgu:=zk Kgu hb;clear hb u0 u1 u2)))
 refine wp_region_held_drew (S:=fun W=>W.heap[g]? = some (.cells #[.string b.f0,.int .i64 b.f1,.slice A2 b.f2.length c2,.slice A3 b.f3.length c3,.int .u64 b.f4,.int .i64 e2] 87 (0,0)) ∧ W.cell? ⟨g,5,none⟩ = some (.int .i64 e2) ∧ W.cell? ⟨gb,0,none⟩ = some (.string b.f0) ∧ W.cell? ⟨gb,1,none⟩ = some (.int .i64 b.f1) ∧ W.cell? ⟨gb,2,none⟩ = some (.slice A2 b.f2.length c2) ∧ W.cell? ⟨gb,3,none⟩ = some (.slice A3 b.f3.length c3) ∧ W.cell? ⟨gb,4,none⟩ = some (.int .u64 b.f4) ∧ W.heap[gb]? = some (.cells #[.string b.f0,.int .i64 b.f1,.slice A2 b.f2.length c2,.slice A3 b.f3.length c3,.int .u64 b.f4] 26 (0,0)) ∧ (∃ q0 q1 q2 q3 q4,W.heap[go]? = some (.cells #[q0,q1,q2,q3,q4] 26 (0,0))) ∧ Below w.heap.size w W) (by kernel_rfl) ?_ (fun hHeld=>?_)
 ·exact ⟨blk_drew Kg.out,(blk_cell (blk_drew Kg.out) 5).trans rfl,blk_cell (blk_drew Kgb.out) 0,blk_cell (blk_drew Kgb.out) 1,blk_cell (blk_drew Kgb.out) 2,blk_cell (blk_drew Kgb.out) 3,blk_cell (blk_drew Kgb.out) 4,blk_drew Kgb.out,⟨_,_,_,_,_,blk_drew Kgo.out⟩,HB.out.drew⟩
 clear Kg Kgo Kgb Kgu HB k5 HC5
 refine zt 0 ?_;try simp only [zN];refine zt 1 ?_;try simp only [zN];refine zt 2 ?_;try simp only [zN];refine zt 3 ?_;try simp only [zN];refine zt 4 ?_;try simp only [zN]
 refine wpAnyH_ready (rs:=[5]) (by kernel_rfl) (by simp) ?_
 refine AllReadyH.cons (o:=_) rfl (fun K hK=>?_) AllReadyH.nil
 rw [if_pos (by rfl)]
 obtain ⟨s0,s1,s2,s3,s4,s5,s6,s7,s8,s9⟩:=hHeld
 obtain ⟨q0,q1,q2,q3,q4,s8⟩:=s8
 refine wp_store_row rfl 26 (.tmp 8) (.tmp 69) rfl go 0 _ 26 (.agg #[.string b.f0,.int .i64 b.f1,.slice A2 b.f2.length c2,.slice A3 b.f3.length c3,.int .u64 b.f4]) [.string b.f0,.int .i64 b.f1,.slice A2 b.f2.length c2,.slice A3 b.f3.length c3,.int .u64 b.f4] rfl rfl s8 rfl isz_bucket (by show 0 + 5 ≤ 5;decide) (by simp [Value.oneCell']) ?_
 intro w14 hk ho
 have KZ : Hid (w14.heap[go]? = some (.cells #[.string b.f0,.int .i64 b.f1,.slice A2 b.f2.length c2,.slice A3 b.f3.length c3,.int .u64 b.f4] 26 (0,0))):=hk
 have HBZ:=zh (ho.out.below s9 s9.size Lgo.out)
 have KG2:=zh (ho.out.blk s0 (by have:=M3.out;omega))
 have KB2:=zh (ho.out.blk s7 (by have:=M2.out;omega))
 refine hK.out _ _ ⟨KG2.out,zj KG2 5,zj KB2 0,zj KB2 1,zj KB2 2,zj KB2 3,zj KB2 4,KB2.out,⟨_,_,_,_,_,hk.out⟩,HBZ.out⟩ (fun hHeld=>?_)
 clear hK K hk ho q0 q1 q2 q3 q4 s0 s1 s2 s3 s4 s5 s6 s7 s8 s9
 try simp only [zN]
 refine zt 6 ?_;try simp only [zN];refine zt 7 ?_;try simp only [zN];refine zt 8 ?_;try simp only [zN]
 refine wpAnyH_done (by kernel_rfl) ?_ _
 go_wp2
 have z0:=zb KZ.out 0 (.string b.f0)
 have z1:=zb KZ.out 1 (.int .i64 b.f1)
 have z2:=zb KZ.out 2 (.slice A2 b.f2.length c2)
 have z3:=zb KZ.out 3 (.slice A3 b.f3.length c3)
 have z4:=zb KZ.out 4 (.int .u64 b.f4)
 refine bodyPost_ret (v:=.tuple #[.agg #[.string b.f0,.int .i64 b.f1,.slice A2 b.f2.length c2,.slice A3 b.f3.length c3,.int .u64 b.f4],.int .u64 0,.string ⟨#[]⟩,.int .i64 e2]) (by simp [results,Tryz.results17,go_sem,z0,z1,z2,z3,z4]) rfl ?_
 exact ⟨_,rfl,⟨A2,c2,A3,c3,rfl,G2.out,G3.out,H2.out _ HBZ.out,H3.out _ HBZ.out⟩,HBZ.out⟩
theorem whole_n11 (b : S26) (A2 A3 : Option Addr) (c2 c3 : Nat) (id : Int) (ps : List S43) (A : Option Addr) (c : Nat) (q : Int) (w : World) (h2 : Kd.C k56 w A2 b.f2.length b.f2) (g2 : b.f2.length ≤ c2) (h3 : Kd.C k101 w A3 b.f3.length b.f3) (g3 : b.f3.length ≤ c3) (hl : ps.length < 100) (h4 : Kd.C k43 w A ps.length ps) (e0 : Int) (he0 : openR b anyK = e0) (u : S101) (fe : Int) (hfe : fe ≠ 0) (hf : findR b.f3 id = (u,fe)) (data tx : ByteArray) (we : Int) (hwe : we ≠ 0) (hw : wholeR u ps = (data,tx,we)) (e1 e2 : Int) (he1 : noR true fe e0 = e1) (he2 : noR true we e1 = e2) (hz : e2 ≠ 0) :
  Calls Tryz.prog 17 #[.agg #[.string b.f0,.int .i64 b.f1,.slice A2 b.f2.length c2,.slice A3 b.f3.length c3,.int .u64 b.f4],.int .u64 id,.slice A ps.length c,.int .i64 q] w (BkPost b [.int .u64 0,.string ⟨#[]⟩,.int .i64 e2] w):=by
 have H2:=zh (fun (W : World) (h : Below w.heap.size w W)=>Kd.C_below h2 h)
 have H3:=zh (fun (W : World) (h : Below w.heap.size w W)=>Kd.C_below h3 h)
 have HOP:=zh (fun (W : World) (h : Below w.heap.size w W)=>open.walk b A2 A3 c2 c3 anyK W (Kd.C_below h2 h) g2 (Kd.C_below h3 h) g3)
 rw [he0] at HOP
 have HFD:=zh (fun (W : World) (h : Below w.heap.size w W)=>find.walk A3 c3 b.f3 id W (Kd.C_below h3 h) g3)
 unfold FindPost at HFD
 rw [hf] at HFD
 dsimp only at HFD
 have HWH:=zh (fun (A7 : Option Addr) (c7 : Nat) (W : World) (hW : Below w.heap.size w W) (hC : Kd.C k40 W A7 u.f2.length u.f2) (hc : u.f2.length ≤ c7)=>whole.walk u A7 c7 A c ps W hl hC hc (Kd.C_below h4 hW))
 rw [hw] at HWH
 unfold wholeV at HWH
 dsimp only at HWH
 have HN1:=zh (fun (g : Nat) (W : World) hW=>no.walk g (.string b.f0) (.int .i64 b.f1) (.slice A2 b.f2.length c2) (.slice A3 b.f3.length c3) (.int .u64 b.f4) e0 fe true W hW)
 rw [he1] at HN1
 have HN2:=zh (fun (g : Nat) (W : World) hW=>no.walk g (.string b.f0) (.int .i64 b.f1) (.slice A2 b.f2.length c2) (.slice A3 b.f3.length c3) (.int .u64 b.f4) e1 we true W hW)
 rw [he2] at HN2
 have q0 : (fe == 0) = false:=beq_eq_false_iff_ne.2 hfe
 have r0 : (fe != 0) = true:=by rw [bne,q0];rfl
 have q1 : (we == 0) = false:=beq_eq_false_iff_ne.2 hwe
 have r1 : (we != 0) = true:=by rw [bne,q1];rfl
 have q2 : (e2 == 0) = false:=beq_eq_false_iff_ne.2 hz
 have r2 : (e2 != 0) = true:=by rw [bne,q2];rfl
 have G2:=zh g2
 have G3:=zh g3
 have HB:=zh (Below.refl w.heap.size w)
 clear h2 h3 g2 g3 h4 hl he0 hf hw he1 he2 hz
 go_enter Tryz.func17,Tryz.ntmps17
 go_wp2_with (first
  | ((with_reducible refine gate_dst (N:=4) rfl ?_);go_must (refine zx HB (N:=4) (cs:=#[.string b.f0,.int .i64 b.f1,.slice A2 b.f2.length c2,.slice A3 b.f3.length c3,.int .u64 b.f4]) (t:=26) ?hr ?_;(case hr=>first | (go_simp;done) | (go_simp;rfl));intro gb w1 Kgb Lgb HB hbelgb hqgb;clear hbelgb hqgb))
  | ((with_reducible refine gate_dst (N:=8) rfl ?_);go_must (refine zx HB (N:=8) (cs:=#[.string ⟨#[]⟩,.int .i64 0,.slice none 0 0,.slice none 0 0,.int .u64 0]) (t:=26) ?hr ?_;(case hr=>first | (go_simp;done) | (go_simp;rfl));intro go w3 Kgo Lgo HB hbelgo hqgo;have M2:=zh (show gb < go by rw [hqgo];exact blk_lt Kgb.out);have Kgb:=zk Kgb hbelgo;obtain ⟨a0,a1,a2,a3,a4⟩:=zz5 Kgb.out;clear hbelgo hqgo))
  | (go_at_call 32;go_must (refine (HOP.out _ HB.out).mono ?_;rintro e w4 ⟨g,rfl,hgl,hk,hb⟩;have Kg:=hk;have M3:=zh (show go < g from Nat.lt_of_lt_of_le (blk_lt Kgo.out) hgl);have HB:=keepB HB hb.out;have Kgb:=zk Kgb hb.out;have Kgo:=zk Kgo hb.out;have k3:=zb Kg.out 3 (.slice A3 b.f3.length c3);clear hk hb hgl a0 a1 a2 a3 a4))
  | (go_at_call 44;go_must (refine (HFD.out _ HB.out).mono ?_;rintro e w5 ⟨A7,c7,rfl,hc7,hC5,hb⟩;have HC5:=zh hC5;have HG5:=zh hc7;have HB:=keepB HB hb;have Kgb:=zk Kgb hb;have Kgo:=zk Kgo hb;have Kg:=zk Kg hb;clear hb hC5 hc7 k3))
  | ((with_reducible refine gate_dst (N:=13) rfl ?_);go_must (refine zx HB (N:=13) (cs:=#[.int .u64 0,.string ⟨#[]⟩,.slice none 0 0]) (t:=101) ?hr ?_;(case hr=>first | (go_simp;done) | (go_simp;rfl));intro gu w6 Kgu Lgu HB hbelgu hqgu;have M4:=zh (show g < gu by rw [hqgu];exact blk_lt Kg.out);have HD:=zh hbelgu;have LD5:=zh (show w5.heap.size ≤ gu by rw [hqgu];exact Nat.le_refl _);have Kgb:=zk Kgb hbelgu;have Kgo:=zk Kgo hbelgu;have Kg:=zk Kg hbelgu;clear hbelgu hqgu))
  | ((with_reducible refine gate_store (t:=101) (p:=13) (v:=.tmp 29) rfl ?_);go_must (refine zs 101 (.tmp 13) (.tmp 29) gu 0 101 [.int .u64 u.f0,.string u.f1,.slice A7 u.f2.length c7] Kgu (by kernel_rfl) ?_;intro w7 hk ho;have HC5:=zc HC5 (ho.out.below HD.out HD.out.size LD5.out);have Kgu : Hid (w7.heap[gu]? = some (.cells #[.int .u64 u.f0,.string u.f1,.slice A7 u.f2.length c7] 101 (0,0))):=hk;have HB:=zo ho HB Lgu;have Kgb:=zl ho Kgb (by have:=M2.out;have:=M3.out;have:=M4.out;omega);have Kgo:=zl ho Kgo (by have:=M2.out;have:=M3.out;have:=M4.out;omega);have Kg:=zl ho Kg (by have:=M2.out;have:=M3.out;have:=M4.out;omega);have MK1:=zh True.intro;clear HD LD5;clear hk ho))
  | (go_at_call 45;go_must (first
   | (clear MK1;refine (HN1.out g _ Kg.out).mono ?_;rintro e w8 ⟨rfl,hk,ho⟩;have HC5:=zh (keepPt HC5.out Kg.out (work_like b.f0 b.f1 A2 b.f2.length c2 A3 b.f3.length c3 b.f4 e0) ho.out);have Kg:=hk;have HB:=zh (ho.out.below HB.out HB.out.size (by have:=Lgo.out;have:=M3.out;omega));have Kgb:=zl ho Kgb (by have:=M2.out;have:=M3.out;have:=M4.out;omega);have Kgo:=zl ho Kgo (by have:=M2.out;have:=M3.out;have:=M4.out;omega);have Kgu:=zl ho Kgu (by have:=M2.out;have:=M3.out;have:=M4.out;omega);obtain ⟨u0,u1,u2⟩:=zz3 Kgu.out;have MK2:=zh True.intro;clear hk ho)
   | (clear MK2;refine (HN2.out g _ Kg.out).mono ?_;rintro e w8 ⟨rfl,hk,ho⟩;have HC5:=zh (keepPt HC5.out Kg.out (work_like b.f0 b.f1 A2 b.f2.length c2 A3 b.f3.length c3 b.f4 e1) ho.out);have Kg:=hk;have HB:=zh (ho.out.below HB.out HB.out.size (by have:=Lgo.out;have:=M3.out;omega));have Kgb:=zl ho Kgb (by have:=M2.out;have:=M3.out;have:=M4.out;omega);have Kgo:=zl ho Kgo (by have:=M2.out;have:=M3.out;have:=M4.out;omega);have Kgu:=zl ho Kgu (by have:=M2.out;have:=M3.out;have:=M4.out;omega);have k5:=zb Kg.out 5 (.int .i64 e2);clear hk ho)))
  | (go_at_call 46;go_must (refine (HWH.out A7 c7 _ HB.out HC5.out HG5.out).mono ?_;rintro e w9 ⟨rfl,hb⟩;have HC5:=zc HC5 hb;have HB:=keepB HB hb;have Kgb:=zk Kgb hb;have Kgo:=zk Kgo hb;have Kg:=zk Kg hb;have Kgu:=zk Kgu hb;clear hb u0 u1 u2)))
 refine wp_region_held_drew (S:=fun W=>W.heap[g]? = some (.cells #[.string b.f0,.int .i64 b.f1,.slice A2 b.f2.length c2,.slice A3 b.f3.length c3,.int .u64 b.f4,.int .i64 e2] 87 (0,0)) ∧ W.cell? ⟨g,5,none⟩ = some (.int .i64 e2) ∧ W.cell? ⟨gb,0,none⟩ = some (.string b.f0) ∧ W.cell? ⟨gb,1,none⟩ = some (.int .i64 b.f1) ∧ W.cell? ⟨gb,2,none⟩ = some (.slice A2 b.f2.length c2) ∧ W.cell? ⟨gb,3,none⟩ = some (.slice A3 b.f3.length c3) ∧ W.cell? ⟨gb,4,none⟩ = some (.int .u64 b.f4) ∧ W.heap[gb]? = some (.cells #[.string b.f0,.int .i64 b.f1,.slice A2 b.f2.length c2,.slice A3 b.f3.length c3,.int .u64 b.f4] 26 (0,0)) ∧ (∃ q0 q1 q2 q3 q4,W.heap[go]? = some (.cells #[q0,q1,q2,q3,q4] 26 (0,0))) ∧ Below w.heap.size w W) (by kernel_rfl) ?_ (fun hHeld=>?_)
 ·exact ⟨blk_drew Kg.out,(blk_cell (blk_drew Kg.out) 5).trans rfl,blk_cell (blk_drew Kgb.out) 0,blk_cell (blk_drew Kgb.out) 1,blk_cell (blk_drew Kgb.out) 2,blk_cell (blk_drew Kgb.out) 3,blk_cell (blk_drew Kgb.out) 4,blk_drew Kgb.out,⟨_,_,_,_,_,blk_drew Kgo.out⟩,HB.out.drew⟩
 clear Kg Kgo Kgb Kgu HB k5 HC5
 refine zt 0 ?_;try simp only [zN];refine zt 1 ?_;try simp only [zN];refine zt 2 ?_;try simp only [zN];refine zt 3 ?_;try simp only [zN];refine zt 4 ?_;try simp only [zN]
 refine wpAnyH_ready (rs:=[5]) (by kernel_rfl) (by simp) ?_
 refine AllReadyH.cons (o:=_) rfl (fun K hK=>?_) AllReadyH.nil
 rw [if_pos (by rfl)]
 obtain ⟨s0,s1,s2,s3,s4,s5,s6,s7,s8,s9⟩:=hHeld
 obtain ⟨q0,q1,q2,q3,q4,s8⟩:=s8
 refine wp_store_row rfl 26 (.tmp 8) (.tmp 69) rfl go 0 _ 26 (.agg #[.string b.f0,.int .i64 b.f1,.slice A2 b.f2.length c2,.slice A3 b.f3.length c3,.int .u64 b.f4]) [.string b.f0,.int .i64 b.f1,.slice A2 b.f2.length c2,.slice A3 b.f3.length c3,.int .u64 b.f4] rfl rfl s8 rfl isz_bucket (by show 0 + 5 ≤ 5;decide) (by simp [Value.oneCell']) ?_
 intro w14 hk ho
 have KZ : Hid (w14.heap[go]? = some (.cells #[.string b.f0,.int .i64 b.f1,.slice A2 b.f2.length c2,.slice A3 b.f3.length c3,.int .u64 b.f4] 26 (0,0))):=hk
 have HBZ:=zh (ho.out.below s9 s9.size Lgo.out)
 have KG2:=zh (ho.out.blk s0 (by have:=M3.out;omega))
 have KB2:=zh (ho.out.blk s7 (by have:=M2.out;omega))
 refine hK.out _ _ ⟨KG2.out,zj KG2 5,zj KB2 0,zj KB2 1,zj KB2 2,zj KB2 3,zj KB2 4,KB2.out,⟨_,_,_,_,_,hk.out⟩,HBZ.out⟩ (fun hHeld=>?_)
 clear hK K hk ho q0 q1 q2 q3 q4 s0 s1 s2 s3 s4 s5 s6 s7 s8 s9
 try simp only [zN]
 refine zt 6 ?_;try simp only [zN];refine zt 7 ?_;try simp only [zN];refine zt 8 ?_;try simp only [zN]
 refine wpAnyH_done (by kernel_rfl) ?_ _
 go_wp2
 have z0:=zb KZ.out 0 (.string b.f0)
 have z1:=zb KZ.out 1 (.int .i64 b.f1)
 have z2:=zb KZ.out 2 (.slice A2 b.f2.length c2)
 have z3:=zb KZ.out 3 (.slice A3 b.f3.length c3)
 have z4:=zb KZ.out 4 (.int .u64 b.f4)
 refine bodyPost_ret (v:=.tuple #[.agg #[.string b.f0,.int .i64 b.f1,.slice A2 b.f2.length c2,.slice A3 b.f3.length c3,.int .u64 b.f4],.int .u64 0,.string ⟨#[]⟩,.int .i64 e2]) (by simp [results,Tryz.results17,go_sem,z0,z1,z2,z3,z4]) rfl ?_
 exact ⟨_,rfl,⟨A2,c2,A3,c3,rfl,G2.out,G3.out,H2.out _ HBZ.out,H3.out _ HBZ.out⟩,HBZ.out⟩
end
section
open Go.WideMaps Go.Maps
attribute [local go_sem] Oper.semAt_some
section
variable {P : Program} {o : Oper} {a : Act} {Q : Exit → Act → World → Prop} {K : Act → World → Prop}
/-- a box made in a drawn region: its block and the world letters -/
theorem wp_box_row {W : World} {N : Tmp} (hd : o.dst = some N) {cs : Array Value} {t : TypeId}
  (hrun : (execOp a.eval o).run P W = .ok (.value (.pointer (some ⟨W.heap.size,0,none⟩))) (W.alloc (.cells cs t (0,0))))
  (h : ∀ g,g = W.heap.size → ∀ w1,w1.heap[g]? = some (.cells cs t (0,0)) → Below W.heap.size W w1 → K (a.put o.dst (.pointer (some ⟨g,0,none⟩))) w1) : Oper.wp P o a W K Q:=by
 unfold Oper.wp
 rw [hrun]
 exact h _ rfl _ (blk_new W _) (below_alloc (Below.refl _ _) _)
end
theorem whole_gg (b : S26) (A2 A3 : Option Addr) (c2 c3 : Nat) (id : Int) (ps : List S43) (A : Option Addr) (c : Nat) (q : Int) (w : World) (h2 : Kd.C k56 w A2 b.f2.length b.f2) (g2 : b.f2.length ≤ c2) (h3 : Kd.C k101 w A3 b.f3.length b.f3) (g3 : b.f3.length ≤ c3) (hl : ps.length < 100) (h4 : Kd.C k43 w A ps.length ps) (he0 : openR b anyK = 0) (u : S101) (hf : findR b.f3 id = (u,0)) (data tx : ByteArray) (hw : wholeR u ps = (data,tx,0)) (r3 : List S101) (hr : abortR b.f3 id = (r3,0)) (pb : S26) (pl : Int) (hp : laidR (⟨b.f0,b.f1,b.f2,r3,b.f4⟩ : S26) u.f1 (fun l id=>putV l b.f1 ⟨id,data,false,q⟩) = (pb,pl,0)) :
  Calls Tryz.prog 17 #[.agg #[.string b.f0,.int .i64 b.f1,.slice A2 b.f2.length c2,.slice A3 b.f3.length c3,.int .u64 b.f4],.int .u64 id,.slice A ps.length c,.int .i64 q] w (BkPost pb [.int .u64 pl,.string tx,.int .i64 0] w):=by
 have H2:=zh (fun (W : World) (h : Below w.heap.size w W)=>Kd.C_below h2 h)
 have H3:=zh (fun (W : World) (h : Below w.heap.size w W)=>Kd.C_below h3 h)
 have HOP:=zh (fun (W : World) (h : Below w.heap.size w W)=>open.walk b A2 A3 c2 c3 anyK W (Kd.C_below h2 h) g2 (Kd.C_below h3 h) g3)
 rw [he0] at HOP
 have HFD:=zh (fun (W : World) (h : Below w.heap.size w W)=>find.walk A3 c3 b.f3 id W (Kd.C_below h3 h) g3)
 unfold FindPost at HFD
 rw [hf] at HFD
 dsimp only at HFD
 have HWH:=zh (fun (A7 : Option Addr) (c7 : Nat) (W : World) (hW : Below w.heap.size w W) (hC : Kd.C k40 W A7 u.f2.length u.f2) (hc : u.f2.length ≤ c7)=>whole.walk u A7 c7 A c ps W hl hC hc (Kd.C_below h4 hW))
 rw [hw] at HWH
 unfold wholeV at HWH
 dsimp only at HWH
 have n00 : noR false 0 0 = 0:=by unfold noR;rw [if_neg (by decide)]
 have n01 : noR (!((0 : Int) == 0)) 0 0 = 0:=n00
 have HN1:=zh (fun (g : Nat) (W : World) hW=>no.walk g (.string b.f0) (.int .i64 b.f1) (.slice A2 b.f2.length c2) (.slice A3 b.f3.length c3) (.int .u64 b.f4) 0 0 false W hW)
 rw [n00] at HN1
 have HN2:=HN1
 have HAB:=zh (fun (W : World) (h : Below w.heap.size w W)=>abort.walk A3 c3 b.f3 id W (Kd.C_below h3 h) g3)
 rw [hr] at HAB
 have HUP:=zh (fun (g : Nat) (A4 : Option Addr) (c4 : Nat) (W : World) hW=>uploadsW.walk g (.string b.f0) (.int .i64 b.f1) (.slice A2 b.f2.length c2) (.slice A3 b.f3.length c3) (.int .u64 b.f4) A4 r3.length c4 0 0 W hW)
 rw [n01] at HUP
 have HPT:=zh (fun (A4 : Option Addr) (c4 : Nat) (W : World) (hW : Below w.heap.size w W) (hC : Kd.C k101 W A4 r3.length r3) (hc : r3.length ≤ c4)=>putB.walk (⟨b.f0,b.f1,b.f2,r3,b.f4⟩ : S26) A2 A4 c2 c4 u.f1 data q W (Kd.C_below h2 hW) g2 hC hc)
 dsimp only at HPT
 rw [hp] at HPT
 have G2:=zh g2
 have G3:=zh g3
 have HB:=zh (Below.refl w.heap.size w)
 clear h2 h3 g2 g3 h4 hl he0 hf hw hr hp n00 n01
 go_enter Tryz.func17,Tryz.ntmps17
 go_wp2_with (first
  | ((with_reducible refine gate_dst (N:=4) rfl ?_);go_must (refine zx HB (N:=4) (cs:=#[.string b.f0,.int .i64 b.f1,.slice A2 b.f2.length c2,.slice A3 b.f3.length c3,.int .u64 b.f4]) (t:=26) ?hr ?_;(case hr=>first | (go_simp;done) | (go_simp;rfl));intro gb w1 Kgb Lgb HB hbelgb hqgb;clear hbelgb hqgb))
  | ((with_reducible refine gate_dst (N:=8) rfl ?_);go_must (refine zx HB (N:=8) (cs:=#[.string ⟨#[]⟩,.int .i64 0,.slice none 0 0,.slice none 0 0,.int .u64 0]) (t:=26) ?hr ?_;(case hr=>first | (go_simp;done) | (go_simp;rfl));intro go w3 Kgo Lgo HB hbelgo hqgo;have M2:=zh (show gb < go by rw [hqgo];exact blk_lt Kgb.out);have Kgb:=zk Kgb hbelgo;obtain ⟨a0,a1,a2,a3,a4⟩:=zz5 Kgb.out;clear hbelgo hqgo))
  | (go_at_call 32;go_must (refine (HOP.out _ HB.out).mono ?_;rintro e w4 ⟨g,rfl,hgl,hk,hb⟩;have Kg:=hk;have M3:=zh (show go < g from Nat.lt_of_lt_of_le (blk_lt Kgo.out) hgl);have HB:=keepB HB hb.out;have Kgb:=zk Kgb hb.out;have Kgo:=zk Kgo hb.out;have k3:=zb Kg.out 3 (.slice A3 b.f3.length c3);clear hk hb hgl a0 a1 a2 a3 a4))
  | (go_at_call 44;go_must (refine (HFD.out _ HB.out).mono ?_;rintro e w5 ⟨A7,c7,rfl,hc7,hC5,hb⟩;have HC5:=zh hC5;have HG5:=zh hc7;have HB:=keepB HB hb;have Kgb:=zk Kgb hb;have Kgo:=zk Kgo hb;have Kg:=zk Kg hb;clear hb hC5 hc7 k3))
  | ((with_reducible refine gate_dst (N:=13) rfl ?_);go_must (refine zx HB (N:=13) (cs:=#[.int .u64 0,.string ⟨#[]⟩,.slice none 0 0]) (t:=101) ?hr ?_;(case hr=>first | (go_simp;done) | (go_simp;rfl));intro gu w6 Kgu Lgu HB hbelgu hqgu;have M4:=zh (show g < gu by rw [hqgu];exact blk_lt Kg.out);have HD:=zh hbelgu;have LD5:=zh (show w5.heap.size ≤ gu by rw [hqgu];exact Nat.le_refl _);have Kgb:=zk Kgb hbelgu;have Kgo:=zk Kgo hbelgu;have Kg:=zk Kg hbelgu;clear hbelgu hqgu))
  | ((with_reducible refine gate_store (t:=101) (p:=13) (v:=.tmp 29) rfl ?_);go_must (refine zs 101 (.tmp 13) (.tmp 29) gu 0 101 [.int .u64 u.f0,.string u.f1,.slice A7 u.f2.length c7] Kgu (by kernel_rfl) ?_;intro w7 hk ho;have HC5:=zc HC5 (ho.out.below HD.out HD.out.size LD5.out);have Kgu : Hid (w7.heap[gu]? = some (.cells #[.int .u64 u.f0,.string u.f1,.slice A7 u.f2.length c7] 101 (0,0))):=hk;have HB:=zo ho HB Lgu;have Kgb:=zl ho Kgb (by have:=M2.out;have:=M3.out;have:=M4.out;omega);have Kgo:=zl ho Kgo (by have:=M2.out;have:=M3.out;have:=M4.out;omega);have Kg:=zl ho Kg (by have:=M2.out;have:=M3.out;have:=M4.out;omega);have MK1:=zh True.intro;clear HD LD5;clear hk ho))
  | (go_at_call 45;go_must (first
   | (clear MK1;refine (HN1.out g _ Kg.out).mono ?_;rintro e w8 ⟨rfl,hk,ho⟩;have HC5:=zh (keepPt HC5.out Kg.out (work_like b.f0 b.f1 A2 b.f2.length c2 A3 b.f3.length c3 b.f4 0) ho.out);have Kg:=hk;have HB:=zh (ho.out.below HB.out HB.out.size (by have:=Lgo.out;have:=M3.out;omega));have Kgb:=zl ho Kgb (by have:=M2.out;have:=M3.out;have:=M4.out;omega);have Kgo:=zl ho Kgo (by have:=M2.out;have:=M3.out;have:=M4.out;omega);have Kgu:=zl ho Kgu (by have:=M2.out;have:=M3.out;have:=M4.out;omega);obtain ⟨u0,u1,u2⟩:=zz3 Kgu.out;have MK2:=zh True.intro;clear hk ho)
   | (clear MK2;refine (HN2.out g _ Kg.out).mono ?_;rintro e w8 ⟨rfl,hk,ho⟩;have HC5:=zh (keepPt HC5.out Kg.out (work_like b.f0 b.f1 A2 b.f2.length c2 A3 b.f3.length c3 b.f4 0) ho.out);have Kg:=hk;have HB:=zh (ho.out.below HB.out HB.out.size (by have:=Lgo.out;have:=M3.out;omega));have Kgb:=zl ho Kgb (by have:=M2.out;have:=M3.out;have:=M4.out;omega);have Kgo:=zl ho Kgo (by have:=M2.out;have:=M3.out;have:=M4.out;omega);have Kgu:=zl ho Kgu (by have:=M2.out;have:=M3.out;have:=M4.out;omega);have k3:=zb Kg.out 3 (.slice A3 b.f3.length c3);have k5:=zb Kg.out 5 (.int .i64 0);clear hk ho)))
  | (go_at_call 46;go_must (refine (HWH.out A7 c7 _ HB.out HC5.out HG5.out).mono ?_;rintro e w9 ⟨rfl,hb⟩;have HC5:=zc HC5 hb;have HB:=keepB HB hb;have Kgb:=zk Kgb hb;have Kgo:=zk Kgo hb;have Kg:=zk Kg hb;have Kgu:=zk Kgu hb;clear hb u0 u1 u2))
  | (go_at_call 47;go_must (refine (HAB.out _ HB.out).mono ?_;rintro e w10 ⟨A4,c4,rfl,hc4,hC4,hb⟩;have HC4:=zh hC4;have HB:=keepB HB hb;have Kgb:=zk Kgb hb;have Kgo:=zk Kgo hb;have Kg:=zk Kg hb;have Kgu:=zk Kgu hb;clear hb hC4 k3 k5))
  | (go_at_call 34;go_must (refine (HUP.out g A4 c4 _ Kg.out).mono ?_;rintro e w11 ⟨rfl,hk,ho⟩;have HC4:=zh (keepU HC4.out Kg.out (work_like b.f0 b.f1 A2 b.f2.length c2 A3 b.f3.length c3 b.f4 0) ho.out);have Kg:=hk;have HB:=zh (ho.out.below HB.out HB.out.size (by have:=Lgo.out;have:=M3.out;omega));have Kgb:=zl ho Kgb (by have:=M2.out;have:=M3.out;have:=M4.out;omega);have Kgo:=zl ho Kgo (by have:=M2.out;have:=M3.out;have:=M4.out;omega);have Kgu:=zl ho Kgu (by have:=M2.out;have:=M3.out;have:=M4.out;omega);have k5:=zb Kg.out 5 (.int .i64 0);clear hk ho)))
 refine wp_region_held_drew (S:=fun W=>W.heap[g]? = some (.cells #[.string b.f0,.int .i64 b.f1,.slice A2 b.f2.length c2,.slice A4 r3.length c4,.int .u64 b.f4,.int .i64 0] 87 (0,0)) ∧ W.cell? ⟨g,0,none⟩ = some (.string b.f0) ∧ W.cell? ⟨g,1,none⟩ = some (.int .i64 b.f1) ∧ W.cell? ⟨g,2,none⟩ = some (.slice A2 b.f2.length c2) ∧ W.cell? ⟨g,3,none⟩ = some (.slice A4 r3.length c4) ∧ W.cell? ⟨g,4,none⟩ = some (.int .u64 b.f4) ∧ W.heap[gu]? = some (.cells #[.int .u64 u.f0,.string u.f1,.slice A7 u.f2.length c7] 101 (0,0)) ∧ W.cell? ⟨gu,1,none⟩ = some (.string u.f1) ∧ W.heap[gb]? = some (.cells #[.string b.f0,.int .i64 b.f1,.slice A2 b.f2.length c2,.slice A3 b.f3.length c3,.int .u64 b.f4] 26 (0,0)) ∧ W.heap[go]? = some (.cells #[.string ⟨#[]⟩,.int .i64 0,.slice none 0 0,.slice none 0 0,.int .u64 0] 26 (0,0)) ∧ Kd.C k101 W A4 r3.length r3 ∧ Below w.heap.size w W) (by kernel_rfl) ?_ (fun hHeld=>?_)
 ·exact ⟨blk_drew Kg.out,(blk_cell (blk_drew Kg.out) 0).trans rfl,(blk_cell (blk_drew Kg.out) 1).trans rfl,(blk_cell (blk_drew Kg.out) 2).trans rfl,(blk_cell (blk_drew Kg.out) 3).trans rfl,(blk_cell (blk_drew Kg.out) 4).trans rfl,blk_drew Kgu.out,(blk_cell (blk_drew Kgu.out) 1).trans rfl,blk_drew Kgb.out,blk_drew Kgo.out,Kd.C_below HC4.out (below_drew (Below.refl _ _)),HB.out.drew⟩
 clear Kg Kgo Kgb Kgu HB k5 HC4 HC5
 refine zt 0 ?_;try simp only [zN];refine zt 1 ?_;try simp only [zN];refine zt 2 ?_;try simp only [zN];refine zt 3 ?_;try simp only [zN];refine zt 4 ?_;try simp only [zN];refine zt 5 ?_;try simp only [zN];refine zt 6 ?_;try simp only [zN];refine zt 7 ?_;try simp only [zN]
 refine wpAnyH_ready (rs:=[8,13]) (by kernel_rfl) (by simp) ?_
 refine AllReadyH.cons (o:=_) rfl (fun K hK=>?_) (AllReadyH.cons (o:=_) rfl (fun K hK=>?_) AllReadyH.nil)
 ·skip
  rw [if_pos (by rfl)]
  go_simp
  obtain ⟨s0,s1,s2,s3,s4,s5,s6,s7,s8,s9,s10,s11⟩:=hHeld
  refine (HPT.out A4 c4 _ s11 s10 hc4).mono ?_
  rintro e8 w8 ⟨v8,rfl,⟨A5,c5,A6,c6,rfl,y1,y2,y3,y4⟩,hb8⟩
  have Y3:=zh y3
  have Y4:=zh y4
  clear y3 y4
  refine hK.out _ _ ⟨blk_below s0 hb8,keepc hb8 s1,keepc hb8 s2,keepc hb8 s3,keepc hb8 s4,keepc hb8 s5,blk_below s6 hb8,keepc hb8 s7,blk_below s8 hb8,blk_below s9 hb8,Kd.C_below s10 hb8,s11.trans (hb8.mono s11.size)⟩ (fun hHeld=>?_)
  clear hK K hb8 s0 s1 s2 s3 s4 s5 s6 s7 s8 s9 s10 s11
  try simp only [zN]
  refine zt 9 ?_;try simp only [zN];refine zt 10 ?_;try simp only [zN];refine zt 11 ?_;try simp only [zN];refine zt 12 ?_;try simp only [zN]
  refine wpAnyH_ready (rs:=[13]) (by kernel_rfl) (by simp) ?_
  refine AllReadyH.cons (o:=_) rfl (fun K hK=>?_) AllReadyH.nil
  rw [if_pos (by rfl)]
  obtain ⟨s0,s1,s2,s3,s4,s5,s6,s7,s8,s9,s10,s11⟩:=hHeld
  refine wp_box_row (N:=17) rfl (cs:=#[.string ⟨#[]⟩,.int .i64 0,.slice none 0 0,.slice none 0 0,.int .u64 0]) (t:=26) (by first | (go_simp;done) | (go_simp;rfl)) ?_
  intro gx hgx w12 hkx hbx
  have Kgx:=zh hkx
  have M5:=zh (show go < gx by rw [hgx];exact blk_lt s9)
  have M6:=zh (show g < gx by rw [hgx];exact blk_lt s0)
  have M7:=zh (show gu < gx by rw [hgx];exact blk_lt s6)
  have Lgx:=zh (show w.heap.size ≤ gx by rw [hgx];exact s11.size)
  have Y3:=zc Y3 hbx
  have Y4:=zc Y4 hbx
  refine hK.out _ _ ⟨blk_below s0 hbx,keepc hbx s1,keepc hbx s2,keepc hbx s3,keepc hbx s4,keepc hbx s5,blk_below s6 hbx,keepc hbx s7,blk_below s8 hbx,blk_below s9 hbx,Kd.C_below s10 hbx,s11.trans (hbx.mono s11.size)⟩ (fun hHeld=>?_)
  clear hK K hkx hbx hgx s0 s1 s2 s3 s4 s5 s6 s7 s8 s9 s10 s11
  try simp only [zN]
  refine wpAnyH_ready (rs:=[14]) (by kernel_rfl) (by simp) ?_
  refine AllReadyH.cons (o:=_) rfl (fun K hK=>?_) AllReadyH.nil
  rw [if_pos (by rfl)]
  obtain ⟨s0,s1,s2,s3,s4,s5,s6,s7,s8,s9,s10,s11⟩:=hHeld
  refine wp_store_row rfl 26 (.tmp 17) (.tmp 84) rfl gx 0 _ 26 (.agg #[.string pb.f0,.int .i64 pb.f1,.slice A5 pb.f2.length c5,.slice A6 pb.f3.length c6,.int .u64 pb.f4]) [.string pb.f0,.int .i64 pb.f1,.slice A5 pb.f2.length c5,.slice A6 pb.f3.length c6,.int .u64 pb.f4] rfl rfl Kgx.out rfl isz_bucket (by show 0 + 5 ≤ 5;decide) (by simp [Value.oneCell']) ?_
  intro w14 hk ho
  have Y3:=zh (keepE Y3.out Kgx.out (bk_like _ _ _ _ _ _ _ _ _) ho.out)
  have Y4:=zh (keepU Y4.out Kgx.out (bk_like _ _ _ _ _ _ _ _ _) ho.out)
  have C4:=zh (keepU s10 Kgx.out (bk_like _ _ _ _ _ _ _ _ _) ho.out)
  have Kgx : Hid (w14.heap[gx]? = some (.cells #[.string pb.f0,.int .i64 pb.f1,.slice A5 pb.f2.length c5,.slice A6 pb.f3.length c6,.int .u64 pb.f4] 26 (0,0))):=hk
  have HB:=zh (ho.out.below s11 s11.size Lgx.out)
  have Kg:=zh (ho.out.blk s0 (by have:=M6.out;omega))
  have Kgu:=zh (ho.out.blk s6 (by have:=M7.out;omega))
  have Kgb:=zh (ho.out.blk s8 (by have:=M2.out;have:=M5.out;omega))
  have Kgo:=zh (ho.out.blk s9 (by have:=M5.out;omega))
  refine hK.out _ _ ⟨Kg.out,zj Kg 0,zj Kg 1,zj Kg 2,zj Kg 3,zj Kg 4,Kgu.out,zj Kgu 1,Kgb.out,Kgo.out,C4.out,HB.out⟩ (fun hHeld=>?_)
  clear hK K hk ho C4 s0 s1 s2 s3 s4 s5 s6 s7 s8 s9 s10 s11
  try simp only [zN]
  refine zt 15 ?_;try simp only [zN];refine zt 16 ?_;try simp only [zN]
  refine wpAnyH_done (by kernel_rfl) ?_ _
  have p0:=zb Kgx.out 0 (.string pb.f0)
  have p1:=zb Kgx.out 1 (.int .i64 pb.f1)
  have p2:=zb Kgx.out 2 (.slice A5 pb.f2.length c5)
  have p3:=zb Kgx.out 3 (.slice A6 pb.f3.length c6)
  have p4:=zb Kgx.out 4 (.int .u64 pb.f4)
  clear hHeld Kg Kgu
  go_wp2_with (((with_reducible refine gate_store (t:=26) (p:=8) (v:=.tmp 91) rfl ?_);go_must (refine zs 26 (.tmp 8) (.tmp 91) go 0 26 [.string pb.f0,.int .i64 pb.f1,.slice A5 pb.f2.length c5,.slice A6 pb.f3.length c6,.int .u64 pb.f4] Kgo isz_bucket ?_;intro w15 hk ho;have Y3:=zh (keepE Y3.out Kgo.out (bk_like _ _ _ _ _ _ _ _ _) ho.out);have Y4:=zh (keepU Y4.out Kgo.out (bk_like _ _ _ _ _ _ _ _ _) ho.out);have HB:=zo ho HB Lgo;obtain ⟨z0,z1,z2,z3,z4⟩:=zz5 hk.out;clear hk ho)))
  refine bodyPost_ret (v:=.tuple #[.agg #[.string pb.f0,.int .i64 pb.f1,.slice A5 pb.f2.length c5,.slice A6 pb.f3.length c6,.int .u64 pb.f4],.int .u64 pl,.string tx,.int .i64 0]) (by simp [results,Tryz.results17,go_sem,z0,z1,z2,z3,z4]) rfl ?_
  exact ⟨_,rfl,⟨A5,c5,A6,c6,rfl,y1,y2,Y3.out,Y4.out⟩,HB.out⟩
 ·skip
  rw [if_pos (by rfl)]
  obtain ⟨s0,s1,s2,s3,s4,s5,s6,s7,s8,s9,s10,s11⟩:=hHeld
  refine wp_box_row (N:=17) rfl (cs:=#[.string ⟨#[]⟩,.int .i64 0,.slice none 0 0,.slice none 0 0,.int .u64 0]) (t:=26) (by first | (go_simp;done) | (go_simp;rfl)) ?_
  intro gx hgx w12 hkx hbx
  have Kgx:=zh hkx
  have M5:=zh (show go < gx by rw [hgx];exact blk_lt s9)
  have M6:=zh (show g < gx by rw [hgx];exact blk_lt s0)
  have M7:=zh (show gu < gx by rw [hgx];exact blk_lt s6)
  have Lgx:=zh (show w.heap.size ≤ gx by rw [hgx];exact s11.size)
  refine hK.out _ _ ⟨blk_below s0 hbx,keepc hbx s1,keepc hbx s2,keepc hbx s3,keepc hbx s4,keepc hbx s5,blk_below s6 hbx,keepc hbx s7,blk_below s8 hbx,blk_below s9 hbx,Kd.C_below s10 hbx,s11.trans (hbx.mono s11.size)⟩ (fun hHeld=>?_)
  clear hK K hkx hbx hgx s0 s1 s2 s3 s4 s5 s6 s7 s8 s9 s10 s11
  try simp only [zN]
  refine wpAnyH_ready (rs:=[8]) (by kernel_rfl) (by simp) ?_
  refine AllReadyH.cons (o:=_) rfl (fun K hK=>?_) AllReadyH.nil
  rw [if_pos (by rfl)]
  go_simp
  obtain ⟨s0,s1,s2,s3,s4,s5,s6,s7,s8,s9,s10,s11⟩:=hHeld
  refine (HPT.out A4 c4 _ s11 s10 hc4).mono ?_
  rintro e8 w8 ⟨v8,rfl,⟨A5,c5,A6,c6,rfl,y1,y2,y3,y4⟩,hb8⟩
  have Y3:=zh y3
  have Y4:=zh y4
  clear y3 y4
  have Kgx:=zk Kgx hb8
  refine hK.out _ _ ⟨blk_below s0 hb8,keepc hb8 s1,keepc hb8 s2,keepc hb8 s3,keepc hb8 s4,keepc hb8 s5,blk_below s6 hb8,keepc hb8 s7,blk_below s8 hb8,blk_below s9 hb8,Kd.C_below s10 hb8,s11.trans (hb8.mono s11.size)⟩ (fun hHeld=>?_)
  clear hK K hb8 s0 s1 s2 s3 s4 s5 s6 s7 s8 s9 s10 s11
  try simp only [zN]
  refine zt 9 ?_;try simp only [zN];refine zt 10 ?_;try simp only [zN];refine zt 11 ?_;try simp only [zN];refine zt 12 ?_;try simp only [zN]
  refine wpAnyH_ready (rs:=[14]) (by kernel_rfl) (by simp) ?_
  refine AllReadyH.cons (o:=_) rfl (fun K hK=>?_) AllReadyH.nil
  rw [if_pos (by rfl)]
  obtain ⟨s0,s1,s2,s3,s4,s5,s6,s7,s8,s9,s10,s11⟩:=hHeld
  refine wp_store_row rfl 26 (.tmp 17) (.tmp 84) rfl gx 0 _ 26 (.agg #[.string pb.f0,.int .i64 pb.f1,.slice A5 pb.f2.length c5,.slice A6 pb.f3.length c6,.int .u64 pb.f4]) [.string pb.f0,.int .i64 pb.f1,.slice A5 pb.f2.length c5,.slice A6 pb.f3.length c6,.int .u64 pb.f4] rfl rfl Kgx.out rfl isz_bucket (by show 0 + 5 ≤ 5;decide) (by simp [Value.oneCell']) ?_
  intro w14 hk ho
  have Y3:=zh (keepE Y3.out Kgx.out (bk_like _ _ _ _ _ _ _ _ _) ho.out)
  have Y4:=zh (keepU Y4.out Kgx.out (bk_like _ _ _ _ _ _ _ _ _) ho.out)
  have C4:=zh (keepU s10 Kgx.out (bk_like _ _ _ _ _ _ _ _ _) ho.out)
  have Kgx : Hid (w14.heap[gx]? = some (.cells #[.string pb.f0,.int .i64 pb.f1,.slice A5 pb.f2.length c5,.slice A6 pb.f3.length c6,.int .u64 pb.f4] 26 (0,0))):=hk
  have HB:=zh (ho.out.below s11 s11.size Lgx.out)
  have Kg:=zh (ho.out.blk s0 (by have:=M6.out;omega))
  have Kgu:=zh (ho.out.blk s6 (by have:=M7.out;omega))
  have Kgb:=zh (ho.out.blk s8 (by have:=M2.out;have:=M5.out;omega))
  have Kgo:=zh (ho.out.blk s9 (by have:=M5.out;omega))
  refine hK.out _ _ ⟨Kg.out,zj Kg 0,zj Kg 1,zj Kg 2,zj Kg 3,zj Kg 4,Kgu.out,zj Kgu 1,Kgb.out,Kgo.out,C4.out,HB.out⟩ (fun hHeld=>?_)
  clear hK K hk ho C4 s0 s1 s2 s3 s4 s5 s6 s7 s8 s9 s10 s11
  try simp only [zN]
  refine zt 15 ?_;try simp only [zN];refine zt 16 ?_;try simp only [zN]
  refine wpAnyH_done (by kernel_rfl) ?_ _
  have p0:=zb Kgx.out 0 (.string pb.f0)
  have p1:=zb Kgx.out 1 (.int .i64 pb.f1)
  have p2:=zb Kgx.out 2 (.slice A5 pb.f2.length c5)
  have p3:=zb Kgx.out 3 (.slice A6 pb.f3.length c6)
  have p4:=zb Kgx.out 4 (.int .u64 pb.f4)
  clear hHeld Kg Kgu
  go_wp2_with (((with_reducible refine gate_store (t:=26) (p:=8) (v:=.tmp 91) rfl ?_);go_must (refine zs 26 (.tmp 8) (.tmp 91) go 0 26 [.string pb.f0,.int .i64 pb.f1,.slice A5 pb.f2.length c5,.slice A6 pb.f3.length c6,.int .u64 pb.f4] Kgo isz_bucket ?_;intro w15 hk ho;have Y3:=zh (keepE Y3.out Kgo.out (bk_like _ _ _ _ _ _ _ _ _) ho.out);have Y4:=zh (keepU Y4.out Kgo.out (bk_like _ _ _ _ _ _ _ _ _) ho.out);have HB:=zo ho HB Lgo;obtain ⟨z0,z1,z2,z3,z4⟩:=zz5 hk.out;clear hk ho)))
  refine bodyPost_ret (v:=.tuple #[.agg #[.string pb.f0,.int .i64 pb.f1,.slice A5 pb.f2.length c5,.slice A6 pb.f3.length c6,.int .u64 pb.f4],.int .u64 pl,.string tx,.int .i64 0]) (by simp [results,Tryz.results17,go_sem,z0,z1,z2,z3,z4]) rfl ?_
  exact ⟨_,rfl,⟨A5,c5,A6,c6,rfl,y1,y2,Y3.out,Y4.out⟩,HB.out⟩
theorem whole_gn (b : S26) (A2 A3 : Option Addr) (c2 c3 : Nat) (id : Int) (ps : List S43) (A : Option Addr) (c : Nat) (q : Int) (w : World) (h2 : Kd.C k56 w A2 b.f2.length b.f2) (g2 : b.f2.length ≤ c2) (h3 : Kd.C k101 w A3 b.f3.length b.f3) (g3 : b.f3.length ≤ c3) (hl : ps.length < 100) (h4 : Kd.C k43 w A ps.length ps) (he0 : openR b anyK = 0) (u : S101) (hf : findR b.f3 id = (u,0)) (data tx : ByteArray) (hw : wholeR u ps = (data,tx,0)) (r3 : List S101) (hr : abortR b.f3 id = (r3,0)) (pb : S26) (pl : Int) (pe : Int) (hz : pe ≠ 0) (hp : laidR (⟨b.f0,b.f1,b.f2,r3,b.f4⟩ : S26) u.f1 (fun l id=>putV l b.f1 ⟨id,data,false,q⟩) = (pb,pl,pe)) :
  Calls Tryz.prog 17 #[.agg #[.string b.f0,.int .i64 b.f1,.slice A2 b.f2.length c2,.slice A3 b.f3.length c3,.int .u64 b.f4],.int .u64 id,.slice A ps.length c,.int .i64 q] w (BkPost b [.int .u64 0,.string ⟨#[]⟩,.int .i64 pe] w):=by
 have H2:=zh (fun (W : World) (h : Below w.heap.size w W)=>Kd.C_below h2 h)
 have H3:=zh (fun (W : World) (h : Below w.heap.size w W)=>Kd.C_below h3 h)
 have HOP:=zh (fun (W : World) (h : Below w.heap.size w W)=>open.walk b A2 A3 c2 c3 anyK W (Kd.C_below h2 h) g2 (Kd.C_below h3 h) g3)
 rw [he0] at HOP
 have HFD:=zh (fun (W : World) (h : Below w.heap.size w W)=>find.walk A3 c3 b.f3 id W (Kd.C_below h3 h) g3)
 unfold FindPost at HFD
 rw [hf] at HFD
 dsimp only at HFD
 have HWH:=zh (fun (A7 : Option Addr) (c7 : Nat) (W : World) (hW : Below w.heap.size w W) (hC : Kd.C k40 W A7 u.f2.length u.f2) (hc : u.f2.length ≤ c7)=>whole.walk u A7 c7 A c ps W hl hC hc (Kd.C_below h4 hW))
 rw [hw] at HWH
 unfold wholeV at HWH
 dsimp only at HWH
 have n00 : noR false 0 0 = 0:=by unfold noR;rw [if_neg (by decide)]
 have n01 : noR (!((0 : Int) == 0)) 0 0 = 0:=n00
 have HN1:=zh (fun (g : Nat) (W : World) hW=>no.walk g (.string b.f0) (.int .i64 b.f1) (.slice A2 b.f2.length c2) (.slice A3 b.f3.length c3) (.int .u64 b.f4) 0 0 false W hW)
 rw [n00] at HN1
 have HN2:=HN1
 have HAB:=zh (fun (W : World) (h : Below w.heap.size w W)=>abort.walk A3 c3 b.f3 id W (Kd.C_below h3 h) g3)
 rw [hr] at HAB
 have HUP:=zh (fun (g : Nat) (A4 : Option Addr) (c4 : Nat) (W : World) hW=>uploadsW.walk g (.string b.f0) (.int .i64 b.f1) (.slice A2 b.f2.length c2) (.slice A3 b.f3.length c3) (.int .u64 b.f4) A4 r3.length c4 0 0 W hW)
 rw [n01] at HUP
 have HPT:=zh (fun (A4 : Option Addr) (c4 : Nat) (W : World) (hW : Below w.heap.size w W) (hC : Kd.C k101 W A4 r3.length r3) (hc : r3.length ≤ c4)=>putB.walk (⟨b.f0,b.f1,b.f2,r3,b.f4⟩ : S26) A2 A4 c2 c4 u.f1 data q W (Kd.C_below h2 hW) g2 hC hc)
 dsimp only at HPT
 rw [hp] at HPT
 have q2 : (pe == 0) = false:=beq_eq_false_iff_ne.2 hz
 have r2 : (pe != 0) = true:=by rw [bne,q2];rfl
 have G2:=zh g2
 have G3:=zh g3
 have HB:=zh (Below.refl w.heap.size w)
 clear h2 h3 g2 g3 h4 hl he0 hf hw hr hp n00 n01 hz
 go_enter Tryz.func17,Tryz.ntmps17
 go_wp2_with (first
  | ((with_reducible refine gate_dst (N:=4) rfl ?_);go_must (refine zx HB (N:=4) (cs:=#[.string b.f0,.int .i64 b.f1,.slice A2 b.f2.length c2,.slice A3 b.f3.length c3,.int .u64 b.f4]) (t:=26) ?hr ?_;(case hr=>first | (go_simp;done) | (go_simp;rfl));intro gb w1 Kgb Lgb HB hbelgb hqgb;clear hbelgb hqgb))
  | ((with_reducible refine gate_dst (N:=8) rfl ?_);go_must (refine zx HB (N:=8) (cs:=#[.string ⟨#[]⟩,.int .i64 0,.slice none 0 0,.slice none 0 0,.int .u64 0]) (t:=26) ?hr ?_;(case hr=>first | (go_simp;done) | (go_simp;rfl));intro go w3 Kgo Lgo HB hbelgo hqgo;have M2:=zh (show gb < go by rw [hqgo];exact blk_lt Kgb.out);have Kgb:=zk Kgb hbelgo;obtain ⟨a0,a1,a2,a3,a4⟩:=zz5 Kgb.out;clear hbelgo hqgo))
  | (go_at_call 32;go_must (refine (HOP.out _ HB.out).mono ?_;rintro e w4 ⟨g,rfl,hgl,hk,hb⟩;have Kg:=hk;have M3:=zh (show go < g from Nat.lt_of_lt_of_le (blk_lt Kgo.out) hgl);have HB:=keepB HB hb.out;have Kgb:=zk Kgb hb.out;have Kgo:=zk Kgo hb.out;have k3:=zb Kg.out 3 (.slice A3 b.f3.length c3);clear hk hb hgl a0 a1 a2 a3 a4))
  | (go_at_call 44;go_must (refine (HFD.out _ HB.out).mono ?_;rintro e w5 ⟨A7,c7,rfl,hc7,hC5,hb⟩;have HC5:=zh hC5;have HG5:=zh hc7;have HB:=keepB HB hb;have Kgb:=zk Kgb hb;have Kgo:=zk Kgo hb;have Kg:=zk Kg hb;clear hb hC5 hc7 k3))
  | ((with_reducible refine gate_dst (N:=13) rfl ?_);go_must (refine zx HB (N:=13) (cs:=#[.int .u64 0,.string ⟨#[]⟩,.slice none 0 0]) (t:=101) ?hr ?_;(case hr=>first | (go_simp;done) | (go_simp;rfl));intro gu w6 Kgu Lgu HB hbelgu hqgu;have M4:=zh (show g < gu by rw [hqgu];exact blk_lt Kg.out);have HD:=zh hbelgu;have LD5:=zh (show w5.heap.size ≤ gu by rw [hqgu];exact Nat.le_refl _);have Kgb:=zk Kgb hbelgu;have Kgo:=zk Kgo hbelgu;have Kg:=zk Kg hbelgu;clear hbelgu hqgu))
  | ((with_reducible refine gate_store (t:=101) (p:=13) (v:=.tmp 29) rfl ?_);go_must (refine zs 101 (.tmp 13) (.tmp 29) gu 0 101 [.int .u64 u.f0,.string u.f1,.slice A7 u.f2.length c7] Kgu (by kernel_rfl) ?_;intro w7 hk ho;have HC5:=zc HC5 (ho.out.below HD.out HD.out.size LD5.out);have Kgu : Hid (w7.heap[gu]? = some (.cells #[.int .u64 u.f0,.string u.f1,.slice A7 u.f2.length c7] 101 (0,0))):=hk;have HB:=zo ho HB Lgu;have Kgb:=zl ho Kgb (by have:=M2.out;have:=M3.out;have:=M4.out;omega);have Kgo:=zl ho Kgo (by have:=M2.out;have:=M3.out;have:=M4.out;omega);have Kg:=zl ho Kg (by have:=M2.out;have:=M3.out;have:=M4.out;omega);have MK1:=zh True.intro;clear HD LD5;clear hk ho))
  | (go_at_call 45;go_must (first
   | (clear MK1;refine (HN1.out g _ Kg.out).mono ?_;rintro e w8 ⟨rfl,hk,ho⟩;have HC5:=zh (keepPt HC5.out Kg.out (work_like b.f0 b.f1 A2 b.f2.length c2 A3 b.f3.length c3 b.f4 0) ho.out);have Kg:=hk;have HB:=zh (ho.out.below HB.out HB.out.size (by have:=Lgo.out;have:=M3.out;omega));have Kgb:=zl ho Kgb (by have:=M2.out;have:=M3.out;have:=M4.out;omega);have Kgo:=zl ho Kgo (by have:=M2.out;have:=M3.out;have:=M4.out;omega);have Kgu:=zl ho Kgu (by have:=M2.out;have:=M3.out;have:=M4.out;omega);obtain ⟨u0,u1,u2⟩:=zz3 Kgu.out;have MK2:=zh True.intro;clear hk ho)
   | (clear MK2;refine (HN2.out g _ Kg.out).mono ?_;rintro e w8 ⟨rfl,hk,ho⟩;have HC5:=zh (keepPt HC5.out Kg.out (work_like b.f0 b.f1 A2 b.f2.length c2 A3 b.f3.length c3 b.f4 0) ho.out);have Kg:=hk;have HB:=zh (ho.out.below HB.out HB.out.size (by have:=Lgo.out;have:=M3.out;omega));have Kgb:=zl ho Kgb (by have:=M2.out;have:=M3.out;have:=M4.out;omega);have Kgo:=zl ho Kgo (by have:=M2.out;have:=M3.out;have:=M4.out;omega);have Kgu:=zl ho Kgu (by have:=M2.out;have:=M3.out;have:=M4.out;omega);have k3:=zb Kg.out 3 (.slice A3 b.f3.length c3);have k5:=zb Kg.out 5 (.int .i64 0);clear hk ho)))
  | (go_at_call 46;go_must (refine (HWH.out A7 c7 _ HB.out HC5.out HG5.out).mono ?_;rintro e w9 ⟨rfl,hb⟩;have HC5:=zc HC5 hb;have HB:=keepB HB hb;have Kgb:=zk Kgb hb;have Kgo:=zk Kgo hb;have Kg:=zk Kg hb;have Kgu:=zk Kgu hb;clear hb u0 u1 u2))
  | (go_at_call 47;go_must (refine (HAB.out _ HB.out).mono ?_;rintro e w10 ⟨A4,c4,rfl,hc4,hC4,hb⟩;have HC4:=zh hC4;have HB:=keepB HB hb;have Kgb:=zk Kgb hb;have Kgo:=zk Kgo hb;have Kg:=zk Kg hb;have Kgu:=zk Kgu hb;clear hb hC4 k3 k5))
  | (go_at_call 34;go_must (refine (HUP.out g A4 c4 _ Kg.out).mono ?_;rintro e w11 ⟨rfl,hk,ho⟩;have HC4:=zh (keepU HC4.out Kg.out (work_like b.f0 b.f1 A2 b.f2.length c2 A3 b.f3.length c3 b.f4 0) ho.out);have Kg:=hk;have HB:=zh (ho.out.below HB.out HB.out.size (by have:=Lgo.out;have:=M3.out;omega));have Kgb:=zl ho Kgb (by have:=M2.out;have:=M3.out;have:=M4.out;omega);have Kgo:=zl ho Kgo (by have:=M2.out;have:=M3.out;have:=M4.out;omega);have Kgu:=zl ho Kgu (by have:=M2.out;have:=M3.out;have:=M4.out;omega);have k5:=zb Kg.out 5 (.int .i64 0);clear hk ho)))
 refine wp_region_held_drew (S:=fun W=>W.heap[g]? = some (.cells #[.string b.f0,.int .i64 b.f1,.slice A2 b.f2.length c2,.slice A4 r3.length c4,.int .u64 b.f4,.int .i64 0] 87 (0,0)) ∧ W.cell? ⟨g,0,none⟩ = some (.string b.f0) ∧ W.cell? ⟨g,1,none⟩ = some (.int .i64 b.f1) ∧ W.cell? ⟨g,2,none⟩ = some (.slice A2 b.f2.length c2) ∧ W.cell? ⟨g,3,none⟩ = some (.slice A4 r3.length c4) ∧ W.cell? ⟨g,4,none⟩ = some (.int .u64 b.f4) ∧ W.heap[gu]? = some (.cells #[.int .u64 u.f0,.string u.f1,.slice A7 u.f2.length c7] 101 (0,0)) ∧ W.cell? ⟨gu,1,none⟩ = some (.string u.f1) ∧ W.heap[gb]? = some (.cells #[.string b.f0,.int .i64 b.f1,.slice A2 b.f2.length c2,.slice A3 b.f3.length c3,.int .u64 b.f4] 26 (0,0)) ∧ W.heap[go]? = some (.cells #[.string ⟨#[]⟩,.int .i64 0,.slice none 0 0,.slice none 0 0,.int .u64 0] 26 (0,0)) ∧ Kd.C k101 W A4 r3.length r3 ∧ Below w.heap.size w W) (by kernel_rfl) ?_ (fun hHeld=>?_)
 ·exact ⟨blk_drew Kg.out,(blk_cell (blk_drew Kg.out) 0).trans rfl,(blk_cell (blk_drew Kg.out) 1).trans rfl,(blk_cell (blk_drew Kg.out) 2).trans rfl,(blk_cell (blk_drew Kg.out) 3).trans rfl,(blk_cell (blk_drew Kg.out) 4).trans rfl,blk_drew Kgu.out,(blk_cell (blk_drew Kgu.out) 1).trans rfl,blk_drew Kgb.out,blk_drew Kgo.out,Kd.C_below HC4.out (below_drew (Below.refl _ _)),HB.out.drew⟩
 clear Kg Kgo Kgb Kgu HB k5 HC4 HC5
 refine zt 0 ?_;try simp only [zN];refine zt 1 ?_;try simp only [zN];refine zt 2 ?_;try simp only [zN];refine zt 3 ?_;try simp only [zN];refine zt 4 ?_;try simp only [zN];refine zt 5 ?_;try simp only [zN];refine zt 6 ?_;try simp only [zN];refine zt 7 ?_;try simp only [zN]
 refine wpAnyH_ready (rs:=[8,13]) (by kernel_rfl) (by simp) ?_
 refine AllReadyH.cons (o:=_) rfl (fun K hK=>?_) (AllReadyH.cons (o:=_) rfl (fun K hK=>?_) AllReadyH.nil)
 ·skip
  rw [if_pos (by rfl)]
  go_simp
  obtain ⟨s0,s1,s2,s3,s4,s5,s6,s7,s8,s9,s10,s11⟩:=hHeld
  refine (HPT.out A4 c4 _ s11 s10 hc4).mono ?_
  rintro e8 w8 ⟨v8,rfl,⟨A5,c5,A6,c6,rfl,y1,y2,y3,y4⟩,hb8⟩
  have Y3:=zh y3
  have Y4:=zh y4
  clear y3 y4
  refine hK.out _ _ ⟨blk_below s0 hb8,keepc hb8 s1,keepc hb8 s2,keepc hb8 s3,keepc hb8 s4,keepc hb8 s5,blk_below s6 hb8,keepc hb8 s7,blk_below s8 hb8,blk_below s9 hb8,Kd.C_below s10 hb8,s11.trans (hb8.mono s11.size)⟩ (fun hHeld=>?_)
  clear hK K hb8 s0 s1 s2 s3 s4 s5 s6 s7 s8 s9 s10 s11
  try simp only [zN]
  refine zt 9 ?_;try simp only [zN];refine zt 10 ?_;try simp only [zN];refine zt 11 ?_;try simp only [zN];refine zt 12 ?_;try simp only [zN]
  refine wpAnyH_ready (rs:=[13]) (by kernel_rfl) (by simp) ?_
  refine AllReadyH.cons (o:=_) rfl (fun K hK=>?_) AllReadyH.nil
  rw [if_pos (by rfl)]
  obtain ⟨s0,s1,s2,s3,s4,s5,s6,s7,s8,s9,s10,s11⟩:=hHeld
  refine wp_box_row (N:=17) rfl (cs:=#[.string ⟨#[]⟩,.int .i64 0,.slice none 0 0,.slice none 0 0,.int .u64 0]) (t:=26) (by first | (go_simp;done) | (go_simp;rfl)) ?_
  intro gx hgx w12 hkx hbx
  have Kgx:=zh hkx
  have M5:=zh (show go < gx by rw [hgx];exact blk_lt s9)
  have M6:=zh (show g < gx by rw [hgx];exact blk_lt s0)
  have M7:=zh (show gu < gx by rw [hgx];exact blk_lt s6)
  have Lgx:=zh (show w.heap.size ≤ gx by rw [hgx];exact s11.size)
  have Y3:=zc Y3 hbx
  have Y4:=zc Y4 hbx
  refine hK.out _ _ ⟨blk_below s0 hbx,keepc hbx s1,keepc hbx s2,keepc hbx s3,keepc hbx s4,keepc hbx s5,blk_below s6 hbx,keepc hbx s7,blk_below s8 hbx,blk_below s9 hbx,Kd.C_below s10 hbx,s11.trans (hbx.mono s11.size)⟩ (fun hHeld=>?_)
  clear hK K hkx hbx hgx s0 s1 s2 s3 s4 s5 s6 s7 s8 s9 s10 s11
  try simp only [zN]
  refine wpAnyH_ready (rs:=[14]) (by kernel_rfl) (by simp) ?_
  refine AllReadyH.cons (o:=_) rfl (fun K hK=>?_) AllReadyH.nil
  rw [if_pos (by rfl)]
  obtain ⟨s0,s1,s2,s3,s4,s5,s6,s7,s8,s9,s10,s11⟩:=hHeld
  refine wp_store_row rfl 26 (.tmp 17) (.tmp 84) rfl gx 0 _ 26 (.agg #[.string pb.f0,.int .i64 pb.f1,.slice A5 pb.f2.length c5,.slice A6 pb.f3.length c6,.int .u64 pb.f4]) [.string pb.f0,.int .i64 pb.f1,.slice A5 pb.f2.length c5,.slice A6 pb.f3.length c6,.int .u64 pb.f4] rfl rfl Kgx.out rfl isz_bucket (by show 0 + 5 ≤ 5;decide) (by simp [Value.oneCell']) ?_
  intro w14 hk ho
  have Y3:=zh (keepE Y3.out Kgx.out (bk_like _ _ _ _ _ _ _ _ _) ho.out)
  have Y4:=zh (keepU Y4.out Kgx.out (bk_like _ _ _ _ _ _ _ _ _) ho.out)
  have C4:=zh (keepU s10 Kgx.out (bk_like _ _ _ _ _ _ _ _ _) ho.out)
  have Kgx : Hid (w14.heap[gx]? = some (.cells #[.string pb.f0,.int .i64 pb.f1,.slice A5 pb.f2.length c5,.slice A6 pb.f3.length c6,.int .u64 pb.f4] 26 (0,0))):=hk
  have HB:=zh (ho.out.below s11 s11.size Lgx.out)
  have Kg:=zh (ho.out.blk s0 (by have:=M6.out;omega))
  have Kgu:=zh (ho.out.blk s6 (by have:=M7.out;omega))
  have Kgb:=zh (ho.out.blk s8 (by have:=M2.out;have:=M5.out;omega))
  have Kgo:=zh (ho.out.blk s9 (by have:=M5.out;omega))
  refine hK.out _ _ ⟨Kg.out,zj Kg 0,zj Kg 1,zj Kg 2,zj Kg 3,zj Kg 4,Kgu.out,zj Kgu 1,Kgb.out,Kgo.out,C4.out,HB.out⟩ (fun hHeld=>?_)
  clear hK K hk ho C4 s0 s1 s2 s3 s4 s5 s6 s7 s8 s9 s10 s11
  try simp only [zN]
  refine zt 15 ?_;try simp only [zN];refine zt 16 ?_;try simp only [zN]
  refine wpAnyH_done (by kernel_rfl) ?_ _
  have p0:=zb Kgb.out 0 (.string b.f0)
  have p1:=zb Kgb.out 1 (.int .i64 b.f1)
  have p2:=zb Kgb.out 2 (.slice A2 b.f2.length c2)
  have p3:=zb Kgb.out 3 (.slice A3 b.f3.length c3)
  have p4:=zb Kgb.out 4 (.int .u64 b.f4)
  clear hHeld Kg Kgu
  go_wp2_with (((with_reducible refine gate_store (t:=26) (p:=8) (v:=.tmp 89) rfl ?_);go_must (refine zs 26 (.tmp 8) (.tmp 89) go 0 26 [.string b.f0,.int .i64 b.f1,.slice A2 b.f2.length c2,.slice A3 b.f3.length c3,.int .u64 b.f4] Kgo isz_bucket ?_;intro w15 hk ho;have HB:=zo ho HB Lgo;obtain ⟨z0,z1,z2,z3,z4⟩:=zz5 hk.out;clear hk ho)))
  refine bodyPost_ret (v:=.tuple #[.agg #[.string b.f0,.int .i64 b.f1,.slice A2 b.f2.length c2,.slice A3 b.f3.length c3,.int .u64 b.f4],.int .u64 0,.string ⟨#[]⟩,.int .i64 pe]) (by simp [results,Tryz.results17,go_sem,z0,z1,z2,z3,z4]) rfl ?_
  exact ⟨_,rfl,⟨A2,c2,A3,c3,rfl,G2.out,G3.out,H2.out _ HB.out,H3.out _ HB.out⟩,HB.out⟩
 ·skip
  rw [if_pos (by rfl)]
  obtain ⟨s0,s1,s2,s3,s4,s5,s6,s7,s8,s9,s10,s11⟩:=hHeld
  refine wp_box_row (N:=17) rfl (cs:=#[.string ⟨#[]⟩,.int .i64 0,.slice none 0 0,.slice none 0 0,.int .u64 0]) (t:=26) (by first | (go_simp;done) | (go_simp;rfl)) ?_
  intro gx hgx w12 hkx hbx
  have Kgx:=zh hkx
  have M5:=zh (show go < gx by rw [hgx];exact blk_lt s9)
  have M6:=zh (show g < gx by rw [hgx];exact blk_lt s0)
  have M7:=zh (show gu < gx by rw [hgx];exact blk_lt s6)
  have Lgx:=zh (show w.heap.size ≤ gx by rw [hgx];exact s11.size)
  refine hK.out _ _ ⟨blk_below s0 hbx,keepc hbx s1,keepc hbx s2,keepc hbx s3,keepc hbx s4,keepc hbx s5,blk_below s6 hbx,keepc hbx s7,blk_below s8 hbx,blk_below s9 hbx,Kd.C_below s10 hbx,s11.trans (hbx.mono s11.size)⟩ (fun hHeld=>?_)
  clear hK K hkx hbx hgx s0 s1 s2 s3 s4 s5 s6 s7 s8 s9 s10 s11
  try simp only [zN]
  refine wpAnyH_ready (rs:=[8]) (by kernel_rfl) (by simp) ?_
  refine AllReadyH.cons (o:=_) rfl (fun K hK=>?_) AllReadyH.nil
  rw [if_pos (by rfl)]
  go_simp
  obtain ⟨s0,s1,s2,s3,s4,s5,s6,s7,s8,s9,s10,s11⟩:=hHeld
  refine (HPT.out A4 c4 _ s11 s10 hc4).mono ?_
  rintro e8 w8 ⟨v8,rfl,⟨A5,c5,A6,c6,rfl,y1,y2,y3,y4⟩,hb8⟩
  have Y3:=zh y3
  have Y4:=zh y4
  clear y3 y4
  have Kgx:=zk Kgx hb8
  refine hK.out _ _ ⟨blk_below s0 hb8,keepc hb8 s1,keepc hb8 s2,keepc hb8 s3,keepc hb8 s4,keepc hb8 s5,blk_below s6 hb8,keepc hb8 s7,blk_below s8 hb8,blk_below s9 hb8,Kd.C_below s10 hb8,s11.trans (hb8.mono s11.size)⟩ (fun hHeld=>?_)
  clear hK K hb8 s0 s1 s2 s3 s4 s5 s6 s7 s8 s9 s10 s11
  try simp only [zN]
  refine zt 9 ?_;try simp only [zN];refine zt 10 ?_;try simp only [zN];refine zt 11 ?_;try simp only [zN];refine zt 12 ?_;try simp only [zN]
  refine wpAnyH_ready (rs:=[14]) (by kernel_rfl) (by simp) ?_
  refine AllReadyH.cons (o:=_) rfl (fun K hK=>?_) AllReadyH.nil
  rw [if_pos (by rfl)]
  obtain ⟨s0,s1,s2,s3,s4,s5,s6,s7,s8,s9,s10,s11⟩:=hHeld
  refine wp_store_row rfl 26 (.tmp 17) (.tmp 84) rfl gx 0 _ 26 (.agg #[.string pb.f0,.int .i64 pb.f1,.slice A5 pb.f2.length c5,.slice A6 pb.f3.length c6,.int .u64 pb.f4]) [.string pb.f0,.int .i64 pb.f1,.slice A5 pb.f2.length c5,.slice A6 pb.f3.length c6,.int .u64 pb.f4] rfl rfl Kgx.out rfl isz_bucket (by show 0 + 5 ≤ 5;decide) (by simp [Value.oneCell']) ?_
  intro w14 hk ho
  have Y3:=zh (keepE Y3.out Kgx.out (bk_like _ _ _ _ _ _ _ _ _) ho.out)
  have Y4:=zh (keepU Y4.out Kgx.out (bk_like _ _ _ _ _ _ _ _ _) ho.out)
  have C4:=zh (keepU s10 Kgx.out (bk_like _ _ _ _ _ _ _ _ _) ho.out)
  have Kgx : Hid (w14.heap[gx]? = some (.cells #[.string pb.f0,.int .i64 pb.f1,.slice A5 pb.f2.length c5,.slice A6 pb.f3.length c6,.int .u64 pb.f4] 26 (0,0))):=hk
  have HB:=zh (ho.out.below s11 s11.size Lgx.out)
  have Kg:=zh (ho.out.blk s0 (by have:=M6.out;omega))
  have Kgu:=zh (ho.out.blk s6 (by have:=M7.out;omega))
  have Kgb:=zh (ho.out.blk s8 (by have:=M2.out;have:=M5.out;omega))
  have Kgo:=zh (ho.out.blk s9 (by have:=M5.out;omega))
  refine hK.out _ _ ⟨Kg.out,zj Kg 0,zj Kg 1,zj Kg 2,zj Kg 3,zj Kg 4,Kgu.out,zj Kgu 1,Kgb.out,Kgo.out,C4.out,HB.out⟩ (fun hHeld=>?_)
  clear hK K hk ho C4 s0 s1 s2 s3 s4 s5 s6 s7 s8 s9 s10 s11
  try simp only [zN]
  refine zt 15 ?_;try simp only [zN];refine zt 16 ?_;try simp only [zN]
  refine wpAnyH_done (by kernel_rfl) ?_ _
  have p0:=zb Kgb.out 0 (.string b.f0)
  have p1:=zb Kgb.out 1 (.int .i64 b.f1)
  have p2:=zb Kgb.out 2 (.slice A2 b.f2.length c2)
  have p3:=zb Kgb.out 3 (.slice A3 b.f3.length c3)
  have p4:=zb Kgb.out 4 (.int .u64 b.f4)
  clear hHeld Kg Kgu
  go_wp2_with (((with_reducible refine gate_store (t:=26) (p:=8) (v:=.tmp 89) rfl ?_);go_must (refine zs 26 (.tmp 8) (.tmp 89) go 0 26 [.string b.f0,.int .i64 b.f1,.slice A2 b.f2.length c2,.slice A3 b.f3.length c3,.int .u64 b.f4] Kgo isz_bucket ?_;intro w15 hk ho;have HB:=zo ho HB Lgo;obtain ⟨z0,z1,z2,z3,z4⟩:=zz5 hk.out;clear hk ho)))
  refine bodyPost_ret (v:=.tuple #[.agg #[.string b.f0,.int .i64 b.f1,.slice A2 b.f2.length c2,.slice A3 b.f3.length c3,.int .u64 b.f4],.int .u64 0,.string ⟨#[]⟩,.int .i64 pe]) (by simp [results,Tryz.results17,go_sem,z0,z1,z2,z3,z4]) rfl ?_
  exact ⟨_,rfl,⟨A2,c2,A3,c3,rfl,G2.out,G3.out,H2.out _ HB.out,H3.out _ HB.out⟩,HB.out⟩
def wholeB (b : S26) (id : Int) (ps : List S43) (q : Int) : S26 × Int × ByteArray × Int :=
 let f:=findR b.f3 id
 let x:=wholeR f.1 ps
 let e2:=noR (!(x.2.2 == 0)) x.2.2 (noR (!(f.2 == 0)) f.2 (openR b anyK))
 if e2 = 0 then
  let p:=laidR ⟨b.f0,b.f1,b.f2,(abortR b.f3 id).1,b.f4⟩ f.1.f1 (fun l id=>putV l b.f1 ⟨id,x.1,false,q⟩)
  if p.2.2 = 0 then (p.1,p.2.1,x.2.1,0) else (b,0,⟨#[]⟩,p.2.2)
 else (b,0,⟨#[]⟩,e2)
theorem find_abort {l : List S101} {id : Int} {u : S101} (h : findR l id = (u,0)) : abortR l id = ((abortR l id).1,0):=by
 unfold findR at h
 unfold abortR
 cases hc : checkB l with
 | false=>rw [hc] at h;cases h
 | true =>
  rw [hc] at h
  cases hp : posU l id with
  | none=>rw [hp] at h;cases h
  | some i=>rfl
theorem wholeB.walk (b : S26) (A2 A3 : Option Addr) (c2 c3 : Nat) (id : Int) (ps : List S43) (A : Option Addr) (c : Nat) (q : Int) (w : World) (h2 : Kd.C k56 w A2 b.f2.length b.f2) (g2 : b.f2.length ≤ c2) (h3 : Kd.C k101 w A3 b.f3.length b.f3) (g3 : b.f3.length ≤ c3) (hl : ps.length < 100) (h4 : Kd.C k43 w A ps.length ps) :
  Calls Tryz.prog 17 #[.agg #[.string b.f0,.int .i64 b.f1,.slice A2 b.f2.length c2,.slice A3 b.f3.length c3,.int .u64 b.f4],.int .u64 id,.slice A ps.length c,.int .i64 q] w (BkPost (wholeB b id ps q).1 [.int .u64 (wholeB b id ps q).2.1,.string (wholeB b id ps q).2.2.1,.int .i64 (wholeB b id ps q).2.2.2] w):=by
 obtain ⟨⟨u,fe⟩,hf⟩ : ∃ f,findR b.f3 id = f:=⟨_,rfl⟩
 obtain ⟨⟨data,tx,we⟩,hw⟩ : ∃ f,wholeR u ps = f:=⟨_,rfl⟩
 by_cases hz : noR (!(we == 0)) we (noR (!(fe == 0)) fe (openR b anyK)) = 0
 ·obtain ⟨hwe,h1⟩:=noR_ok hz
  obtain ⟨hfe,he0⟩:=noR_ok h1
  subst hwe hfe
  obtain ⟨⟨pb,pl,pe⟩,hp⟩ : ∃ p,laidR ⟨b.f0,b.f1,b.f2,(abortR b.f3 id).1,b.f4⟩ u.f1 (fun l id=>putV l b.f1 ⟨id,data,false,q⟩) = p:=⟨_,rfl⟩
  have e : wholeB b id ps q = if pe = 0 then (pb,pl,tx,0) else (b,0,⟨#[]⟩,pe):=by
   unfold wholeB
   simp only [hf,hw,hp]
   rw [if_pos hz]
  rw [e]
  by_cases hpe : pe = 0
  ·rw [if_pos hpe]
   subst hpe
   exact whole_gg b A2 A3 c2 c3 id ps A c q w h2 g2 h3 g3 hl h4 he0 u hf data tx hw _ (find_abort hf) pb pl hp
  ·rw [if_neg hpe]
   exact whole_gn b A2 A3 c2 c3 id ps A c q w h2 g2 h3 g3 hl h4 he0 u hf data tx hw _ (find_abort hf) pb pl pe hpe hp
 ·have e : wholeB b id ps q = (b,0,⟨#[]⟩,noR (!(we == 0)) we (noR (!(fe == 0)) fe (openR b anyK))):=by
   unfold wholeB
   simp only [hf,hw]
   rw [if_neg hz]
  rw [e]
  have tt : ∀ x : Int,x ≠ 0 → (!(x == 0)) = true:=fun x h=>by rw [beq_eq_false_iff_ne.2 h];rfl
  by_cases hfe : fe = 0
  ·subst hfe
   by_cases hwe : we = 0
   ·subst hwe;exact whole_n00 b A2 A3 c2 c3 id ps A c q w h2 g2 h3 g3 hl h4 _ rfl u hf data tx hw _ _ rfl rfl hz
   ·have t1:=tt we hwe
    rw [t1] at hz ⊢
    exact whole_n01 b A2 A3 c2 c3 id ps A c q w h2 g2 h3 g3 hl h4 _ rfl u hf data tx we hwe hw _ _ rfl rfl hz
  ·have t2:=tt fe hfe
   rw [t2] at hz ⊢
   by_cases hwe : we = 0
   ·subst hwe;exact whole_n10 b A2 A3 c2 c3 id ps A c q w h2 g2 h3 g3 hl h4 _ rfl u fe hfe hf data tx hw _ _ rfl rfl hz
   ·have t1:=tt we hwe
    rw [t1] at hz ⊢
    exact whole_n11 b A2 A3 c2 c3 id ps A c q w h2 g2 h3 g3 hl h4 _ rfl u fe hfe hf data tx we hwe hw _ _ rfl rfl hz
end
section
open Go.WideMaps Go.Maps
attribute [local go_sem] Oper.semAt_some
theorem one_P {w : World} {x : S43} {c : List Value} {g : Nat} (h : k43.K w x c) (hr : RawAt w ⟨g,0,none⟩ c) : Kd.C k43 w (some ⟨g,0,none⟩) 1 [x]:=by
 have:=rows_C (RowsOf.one_ x c h) (by simpa using hr) (by simp)
 simpa using this
theorem awake_gen (B1 B2 G B3 C D U1 U2 U3 : S26) (i6 q6 i8 q8 i13 q13 : Int) (s6 t11 : ByteArray) (m6 m8 m13 : Bool) (tg n9 n11 : Int) (h1 : laidR (⟨⟨#[98,111,120]⟩,0,[],[],0⟩ : S26) ⟨#[97]⟩ (fun l id=>putV l (⟨⟨#[98,111,120]⟩,0,[],[],0⟩ : S26).f1 ⟨id,⟨#[120]⟩,false,0⟩) = (B1,0,0)) (h2 : laidR B1 ⟨#[97]⟩ (fun l id=>putV l B1.f1 ⟨id,⟨#[121]⟩,false,0⟩) = (B2,0,0)) (h3 : laidR B2 ⟨#[97]⟩ (fun l id=>deleteV l B2.f1 id 0) = (G,0,0)) (h4 : turnB B2 1 = (B3,0)) (h5 : laidR B3 ⟨#[97]⟩ (fun l id=>deleteV l B3.f1 id 1) = (C,1,0)) (h6 : getB C ⟨#[97]⟩ = (⟨i6,s6,m6,q6⟩,13)) (h7 : dropB C ⟨#[97]⟩ 1 = (D,0)) (h8 : getB D ⟨#[97]⟩ = (⟨i8,⟨#[121]⟩,m8,q8⟩,0)) (h9 : beginB B3 ⟨#[107]⟩ = (U1,n9,0)) (h10 : layB U1 n9 ⟨1,⟨#[119,104,111,108,101]⟩⟩ = (U2,tg,0)) (h11 : wholeB U2 n9 [⟨1,tg⟩] 2 = (U3,n11,t11,0)) (h12 : getB U3 ⟨#[107]⟩ = (⟨i13,⟨#[119,104,111,108,101]⟩,m13,q13⟩,0)) (hg : G.f2.length = 0 ∧ G.f3.length = 0) (w : World) :
  Calls Tryz.prog 14 #[] w fun e w'=>e = .returned (.bool true) ∧ Below w.heap.size w w':=by
 have H0:=zh (fun (W : World)=>newB_ok ⟨#[98,111,120]⟩ W (by kernel_rfl))
 have H1 : Hid (∀ W,Calls Tryz.prog 19 #[.agg #[.string ⟨#[98,111,120]⟩,.int .i64 0,.slice none 0 0,.slice none 0 0,.int .u64 0],.string ⟨#[97]⟩,.string ⟨#[120]⟩,.int .i64 0] W (BkPost B1 [.int .u64 0,.int .i64 0] W)):=fun W=>by
  have x:=putB.walk (⟨⟨#[98,111,120]⟩,0,[],[],0⟩ : S26) none none 0 0 ⟨#[97]⟩ ⟨#[120]⟩ 0 W (C_mt _ _ _) (Nat.le_refl _) (C_mt _ _ _) (Nat.le_refl _)
  rw [h1] at x
  exact x
 have H2 : Hid (∀ (AB1 DB1 : Option Addr) (cB1 dB1 : Nat) (W : World),Kd.C k56 W AB1 B1.f2.length B1.f2 → B1.f2.length ≤ cB1 → Kd.C k101 W DB1 B1.f3.length B1.f3 → B1.f3.length ≤ dB1 → Calls Tryz.prog 19 #[.agg #[.string B1.f0,.int .i64 B1.f1,.slice AB1 B1.f2.length cB1,.slice DB1 B1.f3.length dB1,.int .u64 B1.f4],.string ⟨#[97]⟩,.string ⟨#[121]⟩,.int .i64 0] W (BkPost B2 [.int .u64 0,.int .i64 0] W)):=fun A D c d W e2 g2 e3 g3=>by
  have x:=putB.walk B1 A D c d ⟨#[97]⟩ ⟨#[121]⟩ 0 W e2 g2 e3 g3
  rw [h2] at x
  exact x
 have H3 : Hid (∀ (AB2 DB2 : Option Addr) (cB2 dB2 : Nat) (W : World),Kd.C k56 W AB2 B2.f2.length B2.f2 → B2.f2.length ≤ cB2 → Kd.C k101 W DB2 B2.f3.length B2.f3 → B2.f3.length ≤ dB2 → Calls Tryz.prog 39 #[.agg #[.string B2.f0,.int .i64 B2.f1,.slice AB2 B2.f2.length cB2,.slice DB2 B2.f3.length dB2,.int .u64 B2.f4],.string ⟨#[97]⟩,.int .i64 0] W (BkPost G [.int .u64 0,.int .i64 0] W)):=fun A D c d W e2 g2 e3 g3=>by
  have x:=delB.walk B2 A D c d ⟨#[97]⟩ 0 W e2 g2 e3 g3
  rw [h3] at x
  exact x
 have H4 : Hid (∀ (AB2 DB2 : Option Addr) (cB2 dB2 : Nat) (W : World),Kd.C k56 W AB2 B2.f2.length B2.f2 → B2.f2.length ≤ cB2 → Kd.C k101 W DB2 B2.f3.length B2.f3 → B2.f3.length ≤ dB2 → Calls Tryz.prog 27 #[.agg #[.string B2.f0,.int .i64 B2.f1,.slice AB2 B2.f2.length cB2,.slice DB2 B2.f3.length dB2,.int .u64 B2.f4],.int .i64 1] W (BkPost B3 [.int .i64 0] W)):=fun A D c d W e2 g2 e3 g3=>by
  have x:=turnB.walk B2 A D c d 1 W e2 g2 e3 g3
  rw [h4] at x
  exact x
 have H5 : Hid (∀ (AB3 DB3 : Option Addr) (cB3 dB3 : Nat) (W : World),Kd.C k56 W AB3 B3.f2.length B3.f2 → B3.f2.length ≤ cB3 → Kd.C k101 W DB3 B3.f3.length B3.f3 → B3.f3.length ≤ dB3 → Calls Tryz.prog 39 #[.agg #[.string B3.f0,.int .i64 B3.f1,.slice AB3 B3.f2.length cB3,.slice DB3 B3.f3.length dB3,.int .u64 B3.f4],.string ⟨#[97]⟩,.int .i64 1] W (BkPost C [.int .u64 1,.int .i64 0] W)):=fun A D c d W e2 g2 e3 g3=>by
  have x:=delB.walk B3 A D c d ⟨#[97]⟩ 1 W e2 g2 e3 g3
  rw [h5] at x
  exact x
 have H6 : Hid (∀ (AC DC : Option Addr) (cC dC : Nat) (W : World),Kd.C k56 W AC C.f2.length C.f2 → C.f2.length ≤ cC → Kd.C k101 W DC C.f3.length C.f3 → C.f3.length ≤ dC → Calls Tryz.prog 18 #[.agg #[.string C.f0,.int .i64 C.f1,.slice AC C.f2.length cC,.slice DC C.f3.length dC,.int .u64 C.f4],.string ⟨#[97]⟩] W (OnePost ⟨i6,s6,m6,q6⟩ 13 W)):=fun A D c d W e2 g2 e3 g3=>by
  have x:=getB.walk C A D c d ⟨#[97]⟩ W e2 g2 e3 g3
  rw [h6] at x
  exact x
 have H7 : Hid (∀ (AC DC : Option Addr) (cC dC : Nat) (W : World),Kd.C k56 W AC C.f2.length C.f2 → C.f2.length ≤ cC → Kd.C k101 W DC C.f3.length C.f3 → C.f3.length ≤ dC → Calls Tryz.prog 40 #[.agg #[.string C.f0,.int .i64 C.f1,.slice AC C.f2.length cC,.slice DC C.f3.length dC,.int .u64 C.f4],.string ⟨#[97]⟩,.int .u64 1] W (BkPost D [.int .i64 0] W)):=fun A D' c d W e2 g2 e3 g3=>by
  have x:=dropB.walk C A D' c d ⟨#[97]⟩ 1 W e2 g2 e3 g3
  rw [h7] at x
  exact x
 have H8 : Hid (∀ (AD DD : Option Addr) (cD dD : Nat) (W : World),Kd.C k56 W AD D.f2.length D.f2 → D.f2.length ≤ cD → Kd.C k101 W DD D.f3.length D.f3 → D.f3.length ≤ dD → Calls Tryz.prog 18 #[.agg #[.string D.f0,.int .i64 D.f1,.slice AD D.f2.length cD,.slice DD D.f3.length dD,.int .u64 D.f4],.string ⟨#[97]⟩] W (OnePost ⟨i8,⟨#[121]⟩,m8,q8⟩ 0 W)):=fun A D' c d W e2 g2 e3 g3=>by
  have x:=getB.walk D A D' c d ⟨#[97]⟩ W e2 g2 e3 g3
  rw [h8] at x
  exact x
 have H9 : Hid (∀ (AB3 DB3 : Option Addr) (cB3 dB3 : Nat) (W : World),Kd.C k56 W AB3 B3.f2.length B3.f2 → B3.f2.length ≤ cB3 → Kd.C k101 W DB3 B3.f3.length B3.f3 → B3.f3.length ≤ dB3 → Calls Tryz.prog 12 #[.agg #[.string B3.f0,.int .i64 B3.f1,.slice AB3 B3.f2.length cB3,.slice DB3 B3.f3.length dB3,.int .u64 B3.f4],.string ⟨#[107]⟩] W (BkPost U1 [.int .u64 n9,.int .i64 0] W)):=fun A D c d W e2 g2 e3 g3=>by
  have x:=beginB.walk B3 A D c d ⟨#[107]⟩ W e2 g2 e3 g3
  rw [h9] at x
  exact x
 have H10 : Hid (∀ (AU1 DU1 : Option Addr) (cU1 dU1 : Nat) (W : World),Kd.C k56 W AU1 U1.f2.length U1.f2 → U1.f2.length ≤ cU1 → Kd.C k101 W DU1 U1.f3.length U1.f3 → U1.f3.length ≤ dU1 → Calls Tryz.prog 15 #[.agg #[.string U1.f0,.int .i64 U1.f1,.slice AU1 U1.f2.length cU1,.slice DU1 U1.f3.length dU1,.int .u64 U1.f4],.int .u64 n9,.agg #[.int .i64 1,.string ⟨#[119,104,111,108,101]⟩]] W (BkPost U2 [.int .u32 tg,.int .i64 0] W)):=fun A D c d W e2 g2 e3 g3=>by
  have x:=layB.walk U1 A D c d n9 ⟨1,⟨#[119,104,111,108,101]⟩⟩ W e2 g2 e3 g3
  rw [h10] at x
  exact x
 have H11 : Hid (∀ (AU2 DU2 : Option Addr) (cU2 dU2 : Nat) (W : World),Kd.C k56 W AU2 U2.f2.length U2.f2 → U2.f2.length ≤ cU2 → Kd.C k101 W DU2 U2.f3.length U2.f3 → U2.f3.length ≤ dU2 → ∀ gl : Nat,W.heap[gl]? = some (.cells #[.int .i64 1,.int .u32 tg] 43 (0,0)) → Calls Tryz.prog 17 #[.agg #[.string U2.f0,.int .i64 U2.f1,.slice AU2 U2.f2.length cU2,.slice DU2 U2.f3.length dU2,.int .u64 U2.f4],.int .u64 n9,.slice (some ⟨gl,0,none⟩) 1 1,.int .i64 2] W (BkPost U3 [.int .u64 n11,.string t11,.int .i64 0] W)):=fun A D c d W e2 g2 e3 g3 gl kl=>by
  have x:=wholeB.walk U2 A D c d n9 [⟨1,tg⟩] (some ⟨gl,0,none⟩) 1 2 W e2 g2 e3 g3 (by show 1 < 100;decide) (one_P (k43_mk W (⟨1,tg⟩ : S43)) (blkRaw (cs:=[.int .i64 1,.int .u32 tg]) kl))
  rw [h11] at x
  exact x
 have H12 : Hid (∀ (AU3 DU3 : Option Addr) (cU3 dU3 : Nat) (W : World),Kd.C k56 W AU3 U3.f2.length U3.f2 → U3.f2.length ≤ cU3 → Kd.C k101 W DU3 U3.f3.length U3.f3 → U3.f3.length ≤ dU3 → Calls Tryz.prog 18 #[.agg #[.string U3.f0,.int .i64 U3.f1,.slice AU3 U3.f2.length cU3,.slice DU3 U3.f3.length dU3,.int .u64 U3.f4],.string ⟨#[107]⟩] W (OnePost ⟨i13,⟨#[119,104,111,108,101]⟩,m13,q13⟩ 0 W)):=fun A D c d W e2 g2 e3 g3=>by
  have x:=getB.walk U3 A D c d ⟨#[107]⟩ W e2 g2 e3 g3
  rw [h12] at x
  exact x
 have HE : Hid (∀ (AG DG : Option Addr) (cG dG : Nat) (W : World),Kd.C k56 W AG G.f2.length G.f2 → G.f2.length ≤ cG → Kd.C k101 W DG G.f3.length G.f3 → G.f3.length ≤ dG → Calls Tryz.prog 41 #[.agg #[.string G.f0,.int .i64 G.f1,.slice AG G.f2.length cG,.slice DG G.f3.length dG,.int .u64 G.f4]] W (fun e w'=>e = .returned (.bool true) ∧ Below W.heap.size W w')):=fun A D c d W e2 g2 e3 g3=>by
  have x:=bucket_Empty.calls G.f0 G.f1 A c G.f2 D d G.f3 G.f4 true W e2 g2 e3 g3 (by unfold bucket_Empty.f;rw [hg.1,hg.2];rfl)
  exact x
 have HB:=zh (Below.refl w.heap.size w)
 clear h1 h2 h3 h4 h5 h6 h7 h8 h9 h10 h11 h12 hg
 go_enter Tryz.func14,Tryz.ntmps14
 go_wp2_with (first
  | ((with_reducible refine gate_dst (N:=1) rfl ?_);go_must (refine zx HB (N:=1) (cs:=#[.string ⟨#[]⟩,.int .i64 0,.slice none 0 0,.slice none 0 0,.int .u64 0]) (t:=26) ?hr ?_;(case hr=>first | (go_simp;done) | (go_simp;rfl));intro gB wb0 KgB LgB HB hbelgB hqgB;have HD:=zh hbelgB;have WD:=zh (show _ ≤ gB by rw [hqgB];exact Nat.le_refl _);clear hbelgB hqgB))
  | ((with_reducible refine gate_dst (N:=7) rfl ?_);go_must (refine zx HB (N:=7) (cs:=#[.string ⟨#[]⟩,.int .i64 0,.slice none 0 0,.slice none 0 0,.int .u64 0]) (t:=26) ?hr ?_;(case hr=>first | (go_simp;done) | (go_simp;rfl));intro gG wb3 KgG LgG HB hbelgG hqgG;have NgBgG:=zh (show gB < gG by rw [hqgG];exact blk_lt KgB.out);have HD:=zh hbelgG;have WD:=zh (show _ ≤ gG by rw [hqgG];exact Nat.le_refl _);have KgB:=zk KgB hbelgG;clear hbelgG hqgG))
  | ((with_reducible refine gate_dst (N:=11) rfl ?_);go_must (refine zx HB (N:=11) (cs:=#[.string ⟨#[]⟩,.int .i64 0,.slice none 0 0,.slice none 0 0,.int .u64 0]) (t:=26) ?hr ?_;(case hr=>first | (go_simp;done) | (go_simp;rfl));intro gC wb5 KgC LgC HB hbelgC hqgC;have NgBgC:=zh (show gB < gC by rw [hqgC];exact blk_lt KgB.out);have NgGgC:=zh (show gG < gC by rw [hqgC];exact blk_lt KgG.out);have HD:=zh hbelgC;have WD:=zh (show _ ≤ gC by rw [hqgC];exact Nat.le_refl _);have KgB:=zk KgB hbelgC;have KgG:=zk KgG hbelgC;clear hbelgC hqgC))
  | ((with_reducible refine gate_dst (N:=14) rfl ?_);go_must (refine zx HB (N:=14) (cs:=#[.int .u64 0,.string ⟨#[]⟩,.bool false,.int .i64 0]) (t:=47) ?hr ?_;(case hr=>first | (go_simp;done) | (go_simp;rfl));intro gv wb6 Kgv Lgv HB hbelgv hqgv;have NgBgv:=zh (show gB < gv by rw [hqgv];exact blk_lt KgB.out);have NgGgv:=zh (show gG < gv by rw [hqgv];exact blk_lt KgG.out);have NgCgv:=zh (show gC < gv by rw [hqgv];exact blk_lt KgC.out);have HD:=zh hbelgv;have WD:=zh (show _ ≤ gv by rw [hqgv];exact Nat.le_refl _);have KgB:=zk KgB hbelgv;have KgG:=zk KgG hbelgv;have KgC:=zk KgC hbelgv;clear hbelgv hqgv))
  | ((with_reducible refine gate_dst (N:=16) rfl ?_);go_must (refine zx HB (N:=16) (cs:=#[.string ⟨#[]⟩,.int .i64 0,.slice none 0 0,.slice none 0 0,.int .u64 0]) (t:=26) ?hr ?_;(case hr=>first | (go_simp;done) | (go_simp;rfl));intro gD wb7 KgD LgD HB hbelgD hqgD;have NgBgD:=zh (show gB < gD by rw [hqgD];exact blk_lt KgB.out);have NgGgD:=zh (show gG < gD by rw [hqgD];exact blk_lt KgG.out);have NgCgD:=zh (show gC < gD by rw [hqgD];exact blk_lt KgC.out);have HD:=zh hbelgD;have WD:=zh (show _ ≤ gD by rw [hqgD];exact Nat.le_refl _);have KgB:=zk KgB hbelgD;have KgG:=zk KgG hbelgD;have KgC:=zk KgC hbelgD;clear hbelgD hqgD))
  | ((with_reducible refine gate_dst (N:=18) rfl ?_);go_must (refine zx HB (N:=18) (cs:=#[.int .u64 0,.string ⟨#[]⟩,.bool false,.int .i64 0]) (t:=47) ?hr ?_;(case hr=>first | (go_simp;done) | (go_simp;rfl));intro gV wb8 KgV LgV HB hbelgV hqgV;have NgBgV:=zh (show gB < gV by rw [hqgV];exact blk_lt KgB.out);have NgGgV:=zh (show gG < gV by rw [hqgV];exact blk_lt KgG.out);have NgDgV:=zh (show gD < gV by rw [hqgV];exact blk_lt KgD.out);have HD:=zh hbelgV;have WD:=zh (show _ ≤ gV by rw [hqgV];exact Nat.le_refl _);have KgB:=zk KgB hbelgV;have KgG:=zk KgG hbelgV;have KgD:=zk KgD hbelgV;clear hbelgV hqgV))
  | ((with_reducible refine gate_dst (N:=20) rfl ?_);go_must (refine zx HB (N:=20) (cs:=#[.string ⟨#[]⟩,.int .i64 0,.slice none 0 0,.slice none 0 0,.int .u64 0]) (t:=26) ?hr ?_;(case hr=>first | (go_simp;done) | (go_simp;rfl));intro gU wb9 KgU LgU HB hbelgU hqgU;have NgBgU:=zh (show gB < gU by rw [hqgU];exact blk_lt KgB.out);have NgGgU:=zh (show gG < gU by rw [hqgU];exact blk_lt KgG.out);have NgVgU:=zh (show gV < gU by rw [hqgU];exact blk_lt KgV.out);have HD:=zh hbelgU;have WD:=zh (show _ ≤ gU by rw [hqgU];exact Nat.le_refl _);have KgB:=zk KgB hbelgU;have KgG:=zk KgG hbelgU;have KgV:=zk KgV hbelgU;clear hbelgU hqgU))
  | ((with_reducible refine gate_dst (N:=28) rfl ?_);go_must (refine zx HB (N:=28) (cs:=#[.int .u64 0,.string ⟨#[]⟩,.bool false,.int .i64 0]) (t:=47) ?hr ?_;(case hr=>first | (go_simp;done) | (go_simp;rfl));intro gW wb12 KgW LgW HB hbelgW hqgW;have NgGgW:=zh (show gG < gW by rw [hqgW];exact blk_lt KgG.out);have NgVgW:=zh (show gV < gW by rw [hqgW];exact blk_lt KgV.out);have NgUgW:=zh (show gU < gW by rw [hqgW];exact blk_lt KgU.out);have HD:=zh hbelgW;have WD:=zh (show _ ≤ gW by rw [hqgW];exact Nat.le_refl _);have KgG:=zk KgG hbelgW;have KgV:=zk KgV hbelgW;have KgU:=zk KgU hbelgW;clear hbelgW hqgW))
  | ((with_reducible refine gate_dst (N:=98) rfl ?_);go_must (refine lit_event ?hg (N:=98) ?hd (cs:=#[.int .i64 1,.int .u32 tg]) (t:=43) 1 ?hr ?_;(case hd=>rfl);(case hg=>rfl);(case hr=>first | (go_simp;done) | (go_simp;rfl));intro gl hql wl hbl hbell;have Kl:=zh hbl;have HB:=keepB HB hbell;have KgG:=zk KgG hbell;have KgV:=zk KgV hbell;have KgU:=zk KgU hbell;have EG:=zc EG hbell;have UG:=zc UG hbell;have EU2:=zc EU2 hbell;have UU2:=zc UU2 hbell;obtain ⟨a0,a1,a2,a3,a4⟩:=zz5 KgU.out;clear hbl hbell hql))
  | (go_at_call 26;go_must (first
    | (refine (H0.out _).mono ?_;rintro e w' ⟨rfl,hb⟩;have HB:=keepB HB hb;clear hb)))
  | (go_at_call 19;go_must (first
    | (clear MK1;refine (H1.out _).mono ?_;rintro e w' ⟨v,rfl,⟨AB1,cB1,DB1,dB1,rfl,x2,x3,y2,y3⟩,hb⟩;have HB:=keepB HB hb;have KgB:=zk KgB hb;have XB1:=zh x2;have YB1:=zh x3;have EB1:=zh y2;have UB1:=zh y3;clear x2 x3 y2 y3;clear a0 a1 a2 a3 a4;clear hb)
    | (clear MK2;refine (H2.out AB1 DB1 cB1 dB1 _ EB1.out XB1.out UB1.out YB1.out).mono ?_;rintro e w' ⟨v,rfl,⟨AB2,cB2,DB2,dB2,rfl,x2,x3,y2,y3⟩,hb⟩;have HB:=keepB HB hb;have KgB:=zk KgB hb;have EB1:=zc EB1 hb;have UB1:=zc UB1 hb;have XB2:=zh x2;have YB2:=zh x3;have EB2:=zh y2;have UB2:=zh y3;clear x2 x3 y2 y3;clear a0 a1 a2 a3 a4;clear hb)))
  | (go_at_call 39;go_must (first
    | (clear MK3;refine (H3.out AB2 DB2 cB2 dB2 _ EB2.out XB2.out UB2.out YB2.out).mono ?_;rintro e w' ⟨v,rfl,⟨AG,cG,DG,dG,rfl,x2,x3,y2,y3⟩,hb⟩;have HB:=keepB HB hb;have KgB:=zk KgB hb;have EB2:=zc EB2 hb;have UB2:=zc UB2 hb;have XG:=zh x2;have YG:=zh x3;have EG:=zh y2;have UG:=zh y3;clear x2 x3 y2 y3;clear a0 a1 a2 a3 a4;clear hb)
    | (clear MK5;refine (H5.out AB3 DB3 cB3 dB3 _ EB3.out XB3.out UB3.out YB3.out).mono ?_;rintro e w' ⟨v,rfl,⟨AC,cC,DC,dC,rfl,x2,x3,y2,y3⟩,hb⟩;have HB:=keepB HB hb;have KgB:=zk KgB hb;have KgG:=zk KgG hb;have EB3:=zc EB3 hb;have UB3:=zc UB3 hb;have EG:=zc EG hb;have UG:=zc UG hb;have XC:=zh x2;have YC:=zh x3;have EC:=zh y2;have UC:=zh y3;clear x2 x3 y2 y3;clear a0 a1 a2 a3 a4;clear hb)))
  | (go_at_call 27;go_must (first
    | (clear MK4;refine (H4.out AB2 DB2 cB2 dB2 _ EB2.out XB2.out UB2.out YB2.out).mono ?_;rintro e w' ⟨v,rfl,⟨AB3,cB3,DB3,dB3,rfl,x2,x3,y2,y3⟩,hb⟩;have HB:=keepB HB hb;have KgB:=zk KgB hb;have KgG:=zk KgG hb;have EB2:=zc EB2 hb;have UB2:=zc UB2 hb;have EG:=zc EG hb;have UG:=zc UG hb;have XB3:=zh x2;have YB3:=zh x3;have EB3:=zh y2;have UB3:=zh y3;clear x2 x3 y2 y3;clear a0 a1 a2 a3 a4;clear hb)))
  | (go_at_call 18;go_must (first
    | (clear MK6;refine (H6.out AC DC cC dC _ EC.out XC.out UC.out YC.out).mono ?_;rintro e w' ⟨rfl,hb⟩;have HB:=keepB HB hb;have KgB:=zk KgB hb;have KgG:=zk KgG hb;have KgC:=zk KgC hb;have EB3:=zc EB3 hb;have UB3:=zc UB3 hb;have EG:=zc EG hb;have UG:=zc UG hb;have EC:=zc EC hb;have UC:=zc UC hb;clear a0 a1 a2 a3 a4;clear hb)
    | (clear MK8;refine (H8.out AD DD cD dD _ ED.out XD.out UD.out YD.out).mono ?_;rintro e w' ⟨rfl,hb⟩;have HB:=keepB HB hb;have KgB:=zk KgB hb;have KgG:=zk KgG hb;have KgD:=zk KgD hb;have EB3:=zc EB3 hb;have UB3:=zc UB3 hb;have EG:=zc EG hb;have UG:=zc UG hb;have ED:=zc ED hb;have UD:=zc UD hb;clear a0 a1 a2 a3 a4;clear hb)
    | (clear MK12;refine (H12.out AU3 DU3 cU3 dU3 _ EU3.out XU3.out UU3.out YU3.out).mono ?_;rintro e w' ⟨rfl,hb⟩;have HB:=keepB HB hb;have KgG:=zk KgG hb;have KgV:=zk KgV hb;have KgU:=zk KgU hb;have EG:=zc EG hb;have UG:=zc UG hb;have EU3:=zc EU3 hb;have UU3:=zc UU3 hb;clear a0 a1 a2 a3 a4;clear hb)))
  | (go_at_call 40;go_must (first
    | (clear MK7;refine (H7.out AC DC cC dC _ EC.out XC.out UC.out YC.out).mono ?_;rintro e w' ⟨v,rfl,⟨AD,cD,DD,dD,rfl,x2,x3,y2,y3⟩,hb⟩;have HB:=keepB HB hb;have KgB:=zk KgB hb;have KgG:=zk KgG hb;have KgC:=zk KgC hb;have EB3:=zc EB3 hb;have UB3:=zc UB3 hb;have EG:=zc EG hb;have UG:=zc UG hb;have EC:=zc EC hb;have UC:=zc UC hb;have XD:=zh x2;have YD:=zh x3;have ED:=zh y2;have UD:=zh y3;clear x2 x3 y2 y3;clear a0 a1 a2 a3 a4;clear hb)))
  | (go_at_call 12;go_must (first
    | (clear MK9;refine (H9.out AB3 DB3 cB3 dB3 _ EB3.out XB3.out UB3.out YB3.out).mono ?_;rintro e w' ⟨v,rfl,⟨AU1,cU1,DU1,dU1,rfl,x2,x3,y2,y3⟩,hb⟩;have HB:=keepB HB hb;have KgB:=zk KgB hb;have KgG:=zk KgG hb;have KgV:=zk KgV hb;have EB3:=zc EB3 hb;have UB3:=zc UB3 hb;have EG:=zc EG hb;have UG:=zc UG hb;have XU1:=zh x2;have YU1:=zh x3;have EU1:=zh y2;have UU1:=zh y3;clear x2 x3 y2 y3;clear a0 a1 a2 a3 a4;clear hb)))
  | (go_at_call 15;go_must (first
    | (clear MK10;refine (H10.out AU1 DU1 cU1 dU1 _ EU1.out XU1.out UU1.out YU1.out).mono ?_;rintro e w' ⟨v,rfl,⟨AU2,cU2,DU2,dU2,rfl,x2,x3,y2,y3⟩,hb⟩;have HB:=keepB HB hb;have KgG:=zk KgG hb;have KgV:=zk KgV hb;have KgU:=zk KgU hb;have EG:=zc EG hb;have UG:=zc UG hb;have EU1:=zc EU1 hb;have UU1:=zc UU1 hb;have XU2:=zh x2;have YU2:=zh x3;have EU2:=zh y2;have UU2:=zh y3;clear x2 x3 y2 y3;clear a0 a1 a2 a3 a4;clear hb)))
  | (go_at_call 17;go_must (first
    | (clear MK11;refine (H11.out AU2 DU2 cU2 dU2 _ EU2.out XU2.out UU2.out YU2.out gl Kl.out).mono ?_;rintro e w' ⟨v,rfl,⟨AU3,cU3,DU3,dU3,rfl,x2,x3,y2,y3⟩,hb⟩;have HB:=keepB HB hb;have KgG:=zk KgG hb;have KgV:=zk KgV hb;have KgU:=zk KgU hb;have EG:=zc EG hb;have UG:=zc UG hb;have EU2:=zc EU2 hb;have UU2:=zc UU2 hb;have XU3:=zh x2;have YU3:=zh x3;have EU3:=zh y2;have UU3:=zh y3;clear x2 x3 y2 y3;clear a0 a1 a2 a3 a4;clear hb)))
  | (go_at_call 41;go_must (refine (HE.out AG DG cG dG _ EG.out XG.out UG.out YG.out).mono ?_;rintro e w' ⟨rfl,hb⟩;have HB:=keepB HB hb;have KgV:=zk KgV hb;have KgW:=zk KgW hb;obtain ⟨b0,b1,b2,b3⟩:=zz4 KgV.out;obtain ⟨d0,d1,d2,d3⟩:=zz4 KgW.out;clear hb))
  | ((with_reducible refine gate_store (t:=26) (p:=1) (v:=.tmp 32) rfl ?_);go_must (refine zs 26 (.tmp 1) (.tmp 32) gB 0 26 [.string ⟨#[98,111,120]⟩,.int .i64 0,.slice none 0 0,.slice none 0 0,.int .u64 0] KgB isz_bucket ?_;intro ws0 hk ho;clear HD WD;have KgB : Hid (ws0.heap[gB]? = some (.cells #[.string ⟨#[98,111,120]⟩,.int .i64 0,.slice none 0 0,.slice none 0 0,.int .u64 0] 26 (0,0))):=hk;have HB:=zo ho HB LgB;obtain ⟨a0,a1,a2,a3,a4⟩:=zz5 KgB.out;have MK1:=zh True.intro;clear hk ho))
  | ((with_reducible refine gate_store (t:=26) (p:=1) (v:=.tmp 37) rfl ?_);go_must (refine zs 26 (.tmp 1) (.tmp 37) gB 0 26 [.string B1.f0,.int .i64 B1.f1,.slice AB1 B1.f2.length cB1,.slice DB1 B1.f3.length dB1,.int .u64 B1.f4] KgB isz_bucket ?_;intro ws1 hk ho;have EB1:=zh (keepE EB1.out KgB.out (bk_like _ _ _ _ _ _ _ _ _) ho.out);have UB1:=zh (keepU UB1.out KgB.out (bk_like _ _ _ _ _ _ _ _ _) ho.out);have KgB : Hid (ws1.heap[gB]? = some (.cells #[.string B1.f0,.int .i64 B1.f1,.slice AB1 B1.f2.length cB1,.slice DB1 B1.f3.length dB1,.int .u64 B1.f4] 26 (0,0))):=hk;have HB:=zo ho HB LgB;obtain ⟨a0,a1,a2,a3,a4⟩:=zz5 KgB.out;have MK2:=zh True.intro;clear hk ho))
  | ((with_reducible refine gate_store (t:=26) (p:=1) (v:=.tmp 43) rfl ?_);go_must (refine zs 26 (.tmp 1) (.tmp 43) gB 0 26 [.string B2.f0,.int .i64 B2.f1,.slice AB2 B2.f2.length cB2,.slice DB2 B2.f3.length dB2,.int .u64 B2.f4] KgB isz_bucket ?_;intro ws2 hk ho;have EB2:=zh (keepE EB2.out KgB.out (bk_like _ _ _ _ _ _ _ _ _) ho.out);have UB2:=zh (keepU UB2.out KgB.out (bk_like _ _ _ _ _ _ _ _ _) ho.out);have KgB : Hid (ws2.heap[gB]? = some (.cells #[.string B2.f0,.int .i64 B2.f1,.slice AB2 B2.f2.length cB2,.slice DB2 B2.f3.length dB2,.int .u64 B2.f4] 26 (0,0))):=hk;have HB:=zo ho HB LgB;obtain ⟨a0,a1,a2,a3,a4⟩:=zz5 KgB.out;have MK3:=zh True.intro;clear hk ho))
  | ((with_reducible refine gate_store (t:=26) (p:=7) (v:=.tmp 49) rfl ?_);go_must (refine zs 26 (.tmp 7) (.tmp 49) gG 0 26 [.string G.f0,.int .i64 G.f1,.slice AG G.f2.length cG,.slice DG G.f3.length dG,.int .u64 G.f4] KgG isz_bucket ?_;intro ws3 hk ho;have EB2:=zc EB2 (ho.out.below HD.out HD.out.size WD.out);have UB2:=zc UB2 (ho.out.below HD.out HD.out.size WD.out);have EG:=zc EG (ho.out.below HD.out HD.out.size WD.out);have UG:=zc UG (ho.out.below HD.out HD.out.size WD.out);clear HD WD;have KgG : Hid (ws3.heap[gG]? = some (.cells #[.string G.f0,.int .i64 G.f1,.slice AG G.f2.length cG,.slice DG G.f3.length dG,.int .u64 G.f4] 26 (0,0))):=hk;have HB:=zo ho HB LgG;have KgB:=zl ho KgB (by have:=NgBgG.out;omega);obtain ⟨a0,a1,a2,a3,a4⟩:=zz5 KgB.out;have MK4:=zh True.intro;clear hk ho))
  | ((with_reducible refine gate_store (t:=26) (p:=1) (v:=.tmp 55) rfl ?_);go_must (refine zs 26 (.tmp 1) (.tmp 55) gB 0 26 [.string B3.f0,.int .i64 B3.f1,.slice AB3 B3.f2.length cB3,.slice DB3 B3.f3.length dB3,.int .u64 B3.f4] KgB isz_bucket ?_;intro ws4 hk ho;have EB3:=zh (keepE EB3.out KgB.out (bk_like _ _ _ _ _ _ _ _ _) ho.out);have UB3:=zh (keepU UB3.out KgB.out (bk_like _ _ _ _ _ _ _ _ _) ho.out);have EG:=zh (keepE EG.out KgB.out (bk_like _ _ _ _ _ _ _ _ _) ho.out);have UG:=zh (keepU UG.out KgB.out (bk_like _ _ _ _ _ _ _ _ _) ho.out);have KgB : Hid (ws4.heap[gB]? = some (.cells #[.string B3.f0,.int .i64 B3.f1,.slice AB3 B3.f2.length cB3,.slice DB3 B3.f3.length dB3,.int .u64 B3.f4] 26 (0,0))):=hk;have HB:=zo ho HB LgB;have KgG:=zl ho KgG (by have:=NgBgG.out;omega);obtain ⟨a0,a1,a2,a3,a4⟩:=zz5 KgB.out;have MK5:=zh True.intro;clear hk ho))
  | ((with_reducible refine gate_store (t:=26) (p:=11) (v:=.tmp 60) rfl ?_);go_must (refine zs 26 (.tmp 11) (.tmp 60) gC 0 26 [.string C.f0,.int .i64 C.f1,.slice AC C.f2.length cC,.slice DC C.f3.length dC,.int .u64 C.f4] KgC isz_bucket ?_;intro ws5 hk ho;have EB3:=zc EB3 (ho.out.below HD.out HD.out.size WD.out);have UB3:=zc UB3 (ho.out.below HD.out HD.out.size WD.out);have EG:=zc EG (ho.out.below HD.out HD.out.size WD.out);have UG:=zc UG (ho.out.below HD.out HD.out.size WD.out);have EC:=zc EC (ho.out.below HD.out HD.out.size WD.out);have UC:=zc UC (ho.out.below HD.out HD.out.size WD.out);clear HD WD;have KgC : Hid (ws5.heap[gC]? = some (.cells #[.string C.f0,.int .i64 C.f1,.slice AC C.f2.length cC,.slice DC C.f3.length dC,.int .u64 C.f4] 26 (0,0))):=hk;have HB:=zo ho HB LgC;have KgB:=zl ho KgB (by have:=NgBgC.out;omega);have KgG:=zl ho KgG (by have:=NgGgC.out;omega);obtain ⟨a0,a1,a2,a3,a4⟩:=zz5 KgC.out;have MK6:=zh True.intro;clear hk ho))
  | ((with_reducible refine gate_store (t:=47) (p:=14) (v:=.tmp 66) rfl ?_);go_must (refine zs 47 (.tmp 14) (.tmp 66) gv 0 47 [.int .u64 i6,.string s6,.bool m6,.int .i64 q6] Kgv (by kernel_rfl) ?_;intro ws6 hk ho;have EB3:=zc EB3 (ho.out.below HD.out HD.out.size WD.out);have UB3:=zc UB3 (ho.out.below HD.out HD.out.size WD.out);have EG:=zc EG (ho.out.below HD.out HD.out.size WD.out);have UG:=zc UG (ho.out.below HD.out HD.out.size WD.out);have EC:=zc EC (ho.out.below HD.out HD.out.size WD.out);have UC:=zc UC (ho.out.below HD.out HD.out.size WD.out);clear HD WD;have Kgv : Hid (ws6.heap[gv]? = some (.cells #[.int .u64 i6,.string s6,.bool m6,.int .i64 q6] 47 (0,0))):=hk;have HB:=zo ho HB Lgv;have KgB:=zl ho KgB (by have:=NgBgv.out;omega);have KgG:=zl ho KgG (by have:=NgGgv.out;omega);have KgC:=zl ho KgC (by have:=NgCgv.out;omega);obtain ⟨a0,a1,a2,a3,a4⟩:=zz5 KgC.out;have MK7:=zh True.intro;clear hk ho))
  | ((with_reducible refine gate_store (t:=26) (p:=16) (v:=.tmp 72) rfl ?_);go_must (refine zs 26 (.tmp 16) (.tmp 72) gD 0 26 [.string D.f0,.int .i64 D.f1,.slice AD D.f2.length cD,.slice DD D.f3.length dD,.int .u64 D.f4] KgD isz_bucket ?_;intro ws7 hk ho;have EB3:=zc EB3 (ho.out.below HD.out HD.out.size WD.out);have UB3:=zc UB3 (ho.out.below HD.out HD.out.size WD.out);have EG:=zc EG (ho.out.below HD.out HD.out.size WD.out);have UG:=zc UG (ho.out.below HD.out HD.out.size WD.out);have ED:=zc ED (ho.out.below HD.out HD.out.size WD.out);have UD:=zc UD (ho.out.below HD.out HD.out.size WD.out);clear HD WD;have KgD : Hid (ws7.heap[gD]? = some (.cells #[.string D.f0,.int .i64 D.f1,.slice AD D.f2.length cD,.slice DD D.f3.length dD,.int .u64 D.f4] 26 (0,0))):=hk;have HB:=zo ho HB LgD;have KgB:=zl ho KgB (by have:=NgBgD.out;omega);have KgG:=zl ho KgG (by have:=NgGgD.out;omega);obtain ⟨a0,a1,a2,a3,a4⟩:=zz5 KgD.out;have MK8:=zh True.intro;clear hk ho))
  | ((with_reducible refine gate_store (t:=47) (p:=18) (v:=.tmp 77) rfl ?_);go_must (refine zs 47 (.tmp 18) (.tmp 77) gV 0 47 [.int .u64 i8,.string ⟨#[121]⟩,.bool m8,.int .i64 q8] KgV (by kernel_rfl) ?_;intro ws8 hk ho;have EB3:=zc EB3 (ho.out.below HD.out HD.out.size WD.out);have UB3:=zc UB3 (ho.out.below HD.out HD.out.size WD.out);have EG:=zc EG (ho.out.below HD.out HD.out.size WD.out);have UG:=zc UG (ho.out.below HD.out HD.out.size WD.out);clear HD WD;have KgV : Hid (ws8.heap[gV]? = some (.cells #[.int .u64 i8,.string ⟨#[121]⟩,.bool m8,.int .i64 q8] 47 (0,0))):=hk;have HB:=zo ho HB LgV;have KgB:=zl ho KgB (by have:=NgBgV.out;omega);have KgG:=zl ho KgG (by have:=NgGgV.out;omega);obtain ⟨a0,a1,a2,a3,a4⟩:=zz5 KgB.out;have MK9:=zh True.intro;clear hk ho))
  | ((with_reducible refine gate_store (t:=26) (p:=20) (v:=.tmp 82) rfl ?_);go_must (refine zs 26 (.tmp 20) (.tmp 82) gU 0 26 [.string U1.f0,.int .i64 U1.f1,.slice AU1 U1.f2.length cU1,.slice DU1 U1.f3.length dU1,.int .u64 U1.f4] KgU isz_bucket ?_;intro ws9 hk ho;have EG:=zc EG (ho.out.below HD.out HD.out.size WD.out);have UG:=zc UG (ho.out.below HD.out HD.out.size WD.out);have EU1:=zc EU1 (ho.out.below HD.out HD.out.size WD.out);have UU1:=zc UU1 (ho.out.below HD.out HD.out.size WD.out);clear HD WD;have KgU : Hid (ws9.heap[gU]? = some (.cells #[.string U1.f0,.int .i64 U1.f1,.slice AU1 U1.f2.length cU1,.slice DU1 U1.f3.length dU1,.int .u64 U1.f4] 26 (0,0))):=hk;have HB:=zo ho HB LgU;have KgG:=zl ho KgG (by have:=NgGgU.out;omega);have KgV:=zl ho KgV (by have:=NgVgU.out;omega);obtain ⟨a0,a1,a2,a3,a4⟩:=zz5 KgU.out;have MK10:=zh True.intro;clear hk ho))
  | ((with_reducible refine gate_store (t:=26) (p:=20) (v:=.tmp 90) rfl ?_);go_must (refine zs 26 (.tmp 20) (.tmp 90) gU 0 26 [.string U2.f0,.int .i64 U2.f1,.slice AU2 U2.f2.length cU2,.slice DU2 U2.f3.length dU2,.int .u64 U2.f4] KgU isz_bucket ?_;intro ws10 hk ho;have EG:=zh (keepE EG.out KgU.out (bk_like _ _ _ _ _ _ _ _ _) ho.out);have UG:=zh (keepU UG.out KgU.out (bk_like _ _ _ _ _ _ _ _ _) ho.out);have EU2:=zh (keepE EU2.out KgU.out (bk_like _ _ _ _ _ _ _ _ _) ho.out);have UU2:=zh (keepU UU2.out KgU.out (bk_like _ _ _ _ _ _ _ _ _) ho.out);have KgU : Hid (ws10.heap[gU]? = some (.cells #[.string U2.f0,.int .i64 U2.f1,.slice AU2 U2.f2.length cU2,.slice DU2 U2.f3.length dU2,.int .u64 U2.f4] 26 (0,0))):=hk;have HB:=zo ho HB LgU;have KgG:=zl ho KgG (by have:=NgGgU.out;omega);have KgV:=zl ho KgV (by have:=NgVgU.out;omega);obtain ⟨a0,a1,a2,a3,a4⟩:=zz5 KgU.out;have MK11:=zh True.intro;clear hk ho))
  | ((with_reducible refine gate_store (t:=26) (p:=20) (v:=.tmp 100) rfl ?_);go_must (refine zs 26 (.tmp 20) (.tmp 100) gU 0 26 [.string U3.f0,.int .i64 U3.f1,.slice AU3 U3.f2.length cU3,.slice DU3 U3.f3.length dU3,.int .u64 U3.f4] KgU isz_bucket ?_;intro ws11 hk ho;have EG:=zh (keepE EG.out KgU.out (bk_like _ _ _ _ _ _ _ _ _) ho.out);have UG:=zh (keepU UG.out KgU.out (bk_like _ _ _ _ _ _ _ _ _) ho.out);have EU3:=zh (keepE EU3.out KgU.out (bk_like _ _ _ _ _ _ _ _ _) ho.out);have UU3:=zh (keepU UU3.out KgU.out (bk_like _ _ _ _ _ _ _ _ _) ho.out);have KgU : Hid (ws11.heap[gU]? = some (.cells #[.string U3.f0,.int .i64 U3.f1,.slice AU3 U3.f2.length cU3,.slice DU3 U3.f3.length dU3,.int .u64 U3.f4] 26 (0,0))):=hk;have HB:=zo ho HB LgU;have KgG:=zl ho KgG (by have:=NgGgU.out;omega);have KgV:=zl ho KgV (by have:=NgVgU.out;omega);obtain ⟨a0,a1,a2,a3,a4⟩:=zz5 KgU.out;have MK12:=zh True.intro;clear hk ho))
  | ((with_reducible refine gate_store (t:=47) (p:=28) (v:=.tmp 107) rfl ?_);go_must (refine zs 47 (.tmp 28) (.tmp 107) gW 0 47 [.int .u64 i13,.string ⟨#[119,104,111,108,101]⟩,.bool m13,.int .i64 q13] KgW (by kernel_rfl) ?_;intro ws12 hk ho;have EG:=zc EG (ho.out.below HD.out HD.out.size WD.out);have UG:=zc UG (ho.out.below HD.out HD.out.size WD.out);clear HD WD;have KgW : Hid (ws12.heap[gW]? = some (.cells #[.int .u64 i13,.string ⟨#[119,104,111,108,101]⟩,.bool m13,.int .i64 q13] 47 (0,0))):=hk;have HB:=zo ho HB LgW;have KgG:=zl ho KgG (by have:=NgGgW.out;omega);have KgV:=zl ho KgV (by have:=NgVgW.out;omega);have MK13:=zh True.intro;obtain ⟨a0,a1,a2,a3,a4⟩:=zz5 KgG.out;obtain ⟨b0,b1,b2,b3⟩:=zz4 KgV.out;obtain ⟨d0,d1,d2,d3⟩:=zz4 KgW.out;clear hk ho)))
 refine bodyPost_ret (v:=.bool true) (by simp [results,Tryz.results14,go_sem]) rfl ?_
 exact ⟨rfl,HB.out⟩
end
section
open Go.WideMaps Go.Maps
def aB1 : S26:=(laidR (⟨⟨#[98,111,120]⟩,0,[],[],0⟩ : S26) ⟨#[97]⟩ (fun l id=>putV l (⟨⟨#[98,111,120]⟩,0,[],[],0⟩ : S26).f1 ⟨id,⟨#[120]⟩,false,0⟩)).1
def aB2 : S26:=(laidR aB1 ⟨#[97]⟩ (fun l id=>putV l aB1.f1 ⟨id,⟨#[121]⟩,false,0⟩)).1
def aG : S26:=(laidR aB2 ⟨#[97]⟩ (fun l id=>deleteV l aB2.f1 id 0)).1
def aB3 : S26:=(turnB aB2 1).1
def aC : S26:=(laidR aB3 ⟨#[97]⟩ (fun l id=>deleteV l aB3.f1 id 1)).1
def aD : S26:=(dropB aC ⟨#[97]⟩ 1).1
def aU1 : S26:=(beginB aB3 ⟨#[107]⟩).1
def aU2 : S26:=(layB aU1 (beginB aB3 ⟨#[107]⟩).2.1 ⟨1,⟨#[119,104,111,108,101]⟩⟩).1
def aU3 : S26:=(wholeB aU2 (beginB aB3 ⟨#[107]⟩).2.1 [⟨1,(layB aU1 (beginB aB3 ⟨#[107]⟩).2.1 ⟨1,⟨#[119,104,111,108,101]⟩⟩).2.1⟩] 2).1
theorem awake.walk (w : World) : Calls Tryz.prog 14 #[] w fun e w'=>e = .returned (.bool true) ∧ Below w.heap.size w w' :=
 awake_gen aB1 aB2 aG aB3 aC aD aU1 aU2 aU3 (getB aC ⟨#[97]⟩).1.f0 (getB aC ⟨#[97]⟩).1.f3 (getB aD ⟨#[97]⟩).1.f0 (getB aD ⟨#[97]⟩).1.f3 (getB aU3 ⟨#[107]⟩).1.f0 (getB aU3 ⟨#[107]⟩).1.f3 (getB aC ⟨#[97]⟩).1.f1 (wholeB aU2 (beginB aB3 ⟨#[107]⟩).2.1 [⟨1,(layB aU1 (beginB aB3 ⟨#[107]⟩).2.1 ⟨1,⟨#[119,104,111,108,101]⟩⟩).2.1⟩] 2).2.2.1 (getB aC ⟨#[97]⟩).1.f2 (getB aD ⟨#[97]⟩).1.f2 (getB aU3 ⟨#[107]⟩).1.f2 ((layB aU1 (beginB aB3 ⟨#[107]⟩).2.1 ⟨1,⟨#[119,104,111,108,101]⟩⟩).2.1) ((beginB aB3 ⟨#[107]⟩).2.1) (wholeB aU2 (beginB aB3 ⟨#[107]⟩).2.1 [⟨1,(layB aU1 (beginB aB3 ⟨#[107]⟩).2.1 ⟨1,⟨#[119,104,111,108,101]⟩⟩).2.1⟩] 2).2.1
  (by kernel_rfl) (by kernel_rfl) (by kernel_rfl) (by kernel_rfl) (by kernel_rfl) (by kernel_rfl) (by kernel_rfl) (by kernel_rfl) (by kernel_rfl) (by kernel_rfl) (by kernel_rfl) (by kernel_rfl) ⟨by kernel_rfl,by kernel_rfl⟩ w
end
section
open Go.WideMaps Go.Maps
attribute [local go_sem] Oper.semAt_some
end
section
open Go.WideMaps Go.Maps
section
variable {w w1 : World} {g : Nat} {cs : Array Value} {t : TypeId} {fr : Nat × Nat} {A : Option Addr} {n : Nat}
end
end
section
open Go.WideMaps Go.Maps
attribute [local go_sem] Oper.semAt_some
end
section
open Go.WideMaps Go.Maps
attribute [local go_sem] Oper.semAt_some
end
section
open Go.WideMaps Go.Maps
attribute [local go_sem] Oper.semAt_some
end
section
open Go.WideMaps Go.Maps
attribute [local go_sem] Oper.semAt_some
structure Did where
 b : S26
 id : Int
 tg : ByteArray
 er : Int
structure Act where
 kd : Int
 key : ByteArray
 data : ByteArray
 id : Int
 n : Int
 q : Int
 ps : List S43
def d3 (r : S26 × Int × Int) : Did:=⟨r.1,r.2.1,⟨#[]⟩,r.2.2⟩
def d2 (r : S26 × Int) : Did:=⟨r.1,0,⟨#[]⟩,r.2⟩
def doR (b : S26) (a : Act) : Did :=
 if Int.tmod a.kd 9 = 0 then d3 (laidR b a.key (fun l id=>putV l b.f1 ⟨id,a.data,false,a.q⟩))
 else if Int.tmod a.kd 9 = 1 then d3 (laidR b a.key (fun l id=>putV l b.f1 ⟨id,a.data,false,a.q⟩))
 else if Int.tmod a.kd 9 = 2 then d3 (laidR b a.key (fun l id=>deleteV l b.f1 id a.q))
 else if Int.tmod a.kd 9 = 3 then d2 (dropB b a.key a.id)
 else if Int.tmod a.kd 9 = 4 then d2 (turnB b a.n)
 else if Int.tmod a.kd 9 = 5 then d3 (beginB b a.key)
 else if Int.tmod a.kd 9 = 6 then ⟨(layB b a.id ⟨a.n,a.data⟩).1,IntKind.u64.wrap (layB b a.id ⟨a.n,a.data⟩).2.1,⟨#[]⟩,(layB b a.id ⟨a.n,a.data⟩).2.2⟩
 else if Int.tmod a.kd 9 = 7 then d2 (abortB b a.id)
 else ⟨(wholeB b a.id a.ps a.q).1,(wholeB b a.id a.ps a.q).2.1,(wholeB b a.id a.ps a.q).2.2.1,(wholeB b a.id a.ps a.q).2.2.2⟩
end
section
open Go.WideMaps Go.Maps
theorem putV_ok {l : List S47} {st : Int} {x : S47} (h : (putV l st x).2 = 0) :
  chainB l = true ∧ 0 ≤ st ∧ st ≤ 2 ∧ mayV x = true ∧ (0 < l.length → (l.headD z47).f3 ≤ x.f3) ∧ (st = 1 → x.f0 ≠ 0) ∧ (putV l st x).1 = (if st = 1 then x :: l else ⟨0,x.f1,x.f2,x.f3⟩ :: delV 0 l) ∧ (putV l st x).1.length ≤ 20:=by
 unfold putV at h ⊢
 by_cases h1 : chainB l = false ∨ ¬ (0 ≤ st ∧ st ≤ 2) ∨ mayV x = false ∨ (0 < l.length ∧ x.f3 < (l.headD z47).f3)
 ·rw [if_pos h1] at h;cases h
 ·rw [if_neg h1] at h ⊢
  by_cases h2 : (layV st l x).2 ≠ 0
  ·rw [if_pos h2] at h;exact absurd h h2
  ·rw [if_neg h2] at h ⊢
   by_cases h3 : 20 < (layV st l x).1.length
   ·rw [if_pos h3] at h;cases h
   ·rw [if_neg h3]
    have q1 : chainB l = true:=bool_no (fun c=>h1 (Or.inl c))
    have q2 : 0 ≤ st ∧ st ≤ 2:=Decidable.byContradiction (fun c=>h1 (Or.inr (Or.inl c)))
    have q3 : mayV x = true:=bool_no (fun c=>h1 (Or.inr (Or.inr (Or.inl c))))
    refine ⟨q1,q2.1,q2.2,q3,fun hl=>?_,fun hs=>?_,?_,Nat.le_of_not_lt h3⟩
    ·exact Int.not_lt.1 (fun c=>h1 (Or.inr (Or.inr (Or.inr ⟨hl,c⟩))))
    ·intro c
     apply h2
     unfold layV
     rw [if_pos hs,if_pos (by rw [c];rfl)]
     exact (by decide : (1 : Int) ≠ 0)
    ·unfold layV at h2 ⊢
     by_cases hs : st = 1
     ·rw [if_pos hs] at h2
      rw [if_pos hs,if_pos hs]
      by_cases h0 : (x.f0 == 0) = true
      ·rw [if_pos h0] at h2;exact absurd (by decide) h2
      ·rw [if_neg h0] at h2
       rw [if_neg h0]
       by_cases h9 : l.any (geB x.f0) = true
       ·rw [if_pos h9] at h2;exact absurd (by decide) h2
       ·rw [if_neg h9]
     ·rw [if_neg hs,if_neg hs]
theorem dropV_ok {l : List S47} {id : Int} (h : (dropV l id).2 = 0) : chainB l = true ∧ hasId l id = true ∧ (dropV l id).1 = delV id l:=by
 unfold dropV at h ⊢
 by_cases h1 : chainB l = false
 ·rw [if_pos h1] at h;cases h
 ·rw [if_neg h1] at h ⊢
  by_cases h2 : hasId l id = false
  ·rw [if_pos h2] at h;cases h
  ·rw [if_neg h2];exact ⟨bool_no h1,bool_no h2,rfl⟩
theorem delV_mem {id : Int} {l : List S47} {v : S47} (h : v ∈ delV id l) : v ∈ l:=(List.mem_filter.1 h).1
/-- what an act of the first four kinds makes of its key's versions -/
def actC (st : Int) (a : Act) (l : List S47) (id : Int) : List S47 × Int :=
 if Int.tmod a.kd 9 = 2 then deleteV l st id a.q else if Int.tmod a.kd 9 = 3 then dropV l a.id else putV l st ⟨id,a.data,false,a.q⟩
theorem actC_mem {st : Int} {a : Act} {l : List S47} {id : Int} (h : (actC st a l id).2 = 0) : ∀ v ∈ (actC st a l id).1,v ∈ l ∨ v.f0 = 0 ∨ (st = 1 ∧ Int.tmod a.kd 9 ≠ 3 ∧ v.f0 = id):=by
 have hput : ∀ x : S47,(st = 1 → x.f0 = id) → (putV l st x).2 = 0 → ∀ v ∈ (putV l st x).1,v ∈ l ∨ v.f0 = 0 ∨ (st = 1 ∧ v.f0 = id):=by
  intro x hx hp v hv
  obtain ⟨_,_,_,_,_,_,e,_⟩:=putV_ok hp
  rw [e] at hv
  by_cases hs : st = 1
  ·rw [if_pos hs] at hv
   rcases List.mem_cons.1 hv with rfl | hv
   ·exact Or.inr (Or.inr ⟨hs,hx hs⟩)
   ·exact Or.inl hv
  ·rw [if_neg hs] at hv
   rcases List.mem_cons.1 hv with rfl | hv
   ·exact Or.inr (Or.inl rfl)
   ·exact Or.inl (delV_mem hv)
 intro v hv
 unfold actC at h hv
 by_cases h2 : Int.tmod a.kd 9 = 2
 ·rw [if_pos h2] at h hv
  unfold deleteV at h hv
  by_cases hs : st = 0
  ·rw [if_pos hs] at h hv
   rw [(dropV_ok h).2.2] at hv
   exact Or.inl (delV_mem hv)
  ·rw [if_neg hs] at h hv
   rcases hput _ (fun e=>if_neg (by omega)) h v hv with x | x | x
   ·exact Or.inl x
   ·exact Or.inr (Or.inl x)
   ·exact Or.inr (Or.inr ⟨x.1,by omega,x.2⟩)
 ·rw [if_neg h2] at h hv
  by_cases h3 : Int.tmod a.kd 9 = 3
  ·rw [if_pos h3] at h hv
   rw [(dropV_ok h).2.2] at hv
   exact Or.inl (delV_mem hv)
  ·rw [if_neg h3] at h hv
   rcases hput _ (fun _=>rfl) h v hv with x | x | x
   ·exact Or.inl x
   ·exact Or.inr (Or.inl x)
   ·exact Or.inr (Or.inr ⟨x.1,h3,x.2⟩)
/-- the bucket that an act of the first four kinds makes, where it goes -/
def actB (b : S26) (a : Act) : S26:=⟨b.f0,b.f1,putL b.f2 a.key (actC b.f1 a (getE b.f2 a.key) (idR b)).1,b.f3,if Int.tmod a.kd 9 = 3 then b.f4 else lastR b⟩
theorem do4_ok {b : S26} {a : Act} (h0 : 0 ≤ Int.tmod a.kd 9) (h4 : Int.tmod a.kd 9 < 4) (h : (doR b a).er = 0) :
  bucketB b = true ∧ keyB a.key = true ∧ (actC b.f1 a (getE b.f2 a.key) (idR b)).2 = 0 ∧ chainB (actC b.f1 a (getE b.f2 a.key) (idR b)).1 = true ∧
  (putL b.f2 a.key (actC b.f1 a (getE b.f2 a.key) (idR b)).1).length ≤ 60 ∧ octB (putL b.f2 a.key (actC b.f1 a (getE b.f2 a.key) (idR b)).1) b.f3 ≤ 20000 ∧
  (Int.tmod a.kd 9 < 3 → b.f1 = 1 → b.f4 < 281474976710655) ∧ doR b a = ⟨actB b a,if Int.tmod a.kd 9 = 3 then 0 else idR b,⟨#[]⟩,0⟩:=by
 by_cases k3 : Int.tmod a.kd 9 = 3
 ·have e : doR b a = d2 (dropB b a.key a.id):=by
   unfold doR
   rw [if_neg (by omega),if_neg (by omega),if_neg (by omega),if_pos k3]
  rw [e] at h ⊢
  have ea : actC b.f1 a (getE b.f2 a.key) (idR b) = dropV (getE b.f2 a.key) a.id:=by
   unfold actC
   rw [if_neg (by omega),if_pos k3]
  unfold actB
  rw [ea,if_pos k3,if_pos k3]
  obtain ⟨q1,q2,q3,q4,q5,q6,q7⟩:=dropB_ok h
  exact ⟨q1,q2,q3,q4,q5,q6,fun x=>by omega,by rw [q7];rfl⟩
 ·have e : doR b a = d3 (laidR b a.key (actC b.f1 a)):=by
   have ea : (actC b.f1 a) = if Int.tmod a.kd 9 = 2 then (fun l id=>deleteV l b.f1 id a.q) else (fun l id=>putV l b.f1 ⟨id,a.data,false,a.q⟩):=by
    funext l id
    unfold actC
    by_cases k2 : Int.tmod a.kd 9 = 2
    ·rw [if_pos k2,if_pos k2]
    ·rw [if_neg k2,if_neg k3,if_neg k2]
   rw [ea]
   unfold doR
   by_cases k0 : Int.tmod a.kd 9 = 0
   ·rw [if_pos k0,if_neg (by omega)]
   ·rw [if_neg k0]
    by_cases k1 : Int.tmod a.kd 9 = 1
    ·rw [if_pos k1,if_neg (by omega)]
    ·rw [if_neg k1,if_pos (by omega),if_pos (by omega)]
  rw [e] at h ⊢
  unfold actB
  rw [if_neg k3,if_neg k3]
  obtain ⟨q1,q2,q3,q4,q5,q6,q7,q8⟩:=laid_ok (f:=actC b.f1 a) h
  exact ⟨q1,q2,q3,q4,q5,q6,fun _=>q7,by rw [q8];rfl⟩
theorem do4_no {b : S26} {a : Act} (h0 : 0 ≤ Int.tmod a.kd 9) (h4 : Int.tmod a.kd 9 < 4) (h : (doR b a).er ≠ 0) : (doR b a).b = b ∧ (doR b a).id = 0:=by
 unfold doR at h ⊢
 by_cases k0 : Int.tmod a.kd 9 = 0
 ·rw [if_pos k0] at h ⊢;exact laid_no h
 rw [if_neg k0] at h ⊢
 by_cases k1 : Int.tmod a.kd 9 = 1
 ·rw [if_pos k1] at h ⊢;exact laid_no h
 rw [if_neg k1] at h ⊢
 by_cases k2 : Int.tmod a.kd 9 = 2
 ·rw [if_pos k2] at h ⊢;exact laid_no h
 rw [if_neg k2,if_pos (by omega)] at h ⊢
 exact ⟨dropB_no h,rfl⟩
theorem bucket_ix {b : S26} (h : bucketB b = true) : SE b.f2 ∧ indexB b.f2 = true:=⟨((index_iff _).1 (bucket_at h).2.1).2.1,(bucket_at h).2.1⟩
theorem near_get {b : S26} (h : bucketB b = true) (key : ByteArray) : ∀ v ∈ getE b.f2 key,v.f0 ≤ b.f4 ∧ (b.f1 = 0 → v.f0 = 0):=by
 intro v hv
 rcases getE_or key b.f2 with ⟨x,hx,_,e⟩ | ⟨_,e⟩
 ·rw [e] at hv
  have h1:=List.all_eq_true.1 (bucket_at h).2.2.2.2.1 x hx
  unfold nearB at h1
  rw [Bool.not_eq_true',List.any_eq_false] at h1
  have h2:=h1 v hv
  unfold farB at h2
  simp only [Bool.or_eq_true,decide_eq_true_eq,Bool.and_eq_true,beq_iff_eq,Bool.not_eq_true',beq_eq_false_iff_ne,ne_eq,not_or,not_and,Decidable.not_not] at h2
  exact ⟨by omega,fun c=>h2.2 c⟩
 ·rw [e] at hv;cases hv
theorem put_bucket {b : S26} (hb : bucketB b = true) {key : ByteArray} {c : List S47} {L : Int} (hk : keyB key = true) (hc : chainB c = true) (hl : (putL b.f2 key c).length ≤ 60) (ho : octB (putL b.f2 key c) b.f3 ≤ 20000) (h1 : b.f4 ≤ L) (h2 : L ≤ 281474976710655) (hv : ∀ v ∈ c,v.f0 ≤ L ∧ (b.f1 = 0 → v.f0 = 0)) :
  bucketB (⟨b.f0,b.f1,putL b.f2 key c,b.f3,L⟩ : S26) = true:=by
 obtain ⟨q1,q2,q3,q4,q5,q6⟩:=bucket_at hb
 obtain ⟨i1,i2,i3⟩:=(index_iff _).1 q2
 unfold bucketB
 simp only [Bool.and_eq_true,decide_eq_true_eq,Bool.not_eq_true']
 refine ⟨?_,(index_iff _).2 ⟨hl,putL_SE key c i2,fun x hx=>?_⟩,q3,ho,List.all_eq_true.2 (fun x hx=>?_),?_⟩
 ·unfold headB at q1 ⊢
  simp only [Bool.and_eq_true,decide_eq_true_eq] at q1 ⊢
  exact ⟨q1.1,q1.2.1,q1.2.2.1,h2⟩
 ·rcases (putL_mem i2).1 hx with ⟨x1,_⟩ | ⟨x1,rfl⟩
  ·exact i3 x x1
  ·exact ⟨hk,x1,hc⟩
 ·unfold nearB
  rw [Bool.not_eq_true',List.any_eq_false]
  intro v hvx
  have hn : v.f0 ≤ L ∧ (b.f1 = 0 → v.f0 = 0):=by
   rcases (putL_mem i2).1 hx with ⟨x1,_⟩ | ⟨x1,rfl⟩
   ·have e:=getE_mem i2 x1
    rw [← e] at hvx
    have:=near_get hb _ v hvx
    exact ⟨by omega,this.2⟩
   ·exact hv v hvx
  unfold farB
  simp only [Bool.or_eq_true,decide_eq_true_eq,Bool.and_eq_true,beq_iff_eq,Bool.not_eq_true',beq_eq_false_iff_ne,ne_eq,not_or,not_and,Decidable.not_not]
  exact ⟨by omega,hn.2⟩
 ·rw [List.any_eq_false] at q6 ⊢
  intro u hu
  have:=q6 u hu
  unfold updB at this ⊢
  rw [decide_eq_true_eq] at this ⊢
  omega
theorem last_le {b : S26} (hb : bucketB b = true) (h4 : 0 ≤ b.f4) (hl : b.f1 = 1 → b.f4 < 281474976710655) : b.f4 ≤ lastR b ∧ lastR b ≤ 281474976710655 ∧ (b.f1 = 1 → lastR b = b.f4 + 1) ∧ (b.f1 ≠ 1 → lastR b = b.f4) ∧ (b.f1 = 1 → idR b = b.f4 + 1) ∧ (b.f1 ≠ 1 → idR b = 0):=by
 have hm : b.f4 ≤ 281474976710655:=by
  have:=(bucket_at hb).1
  unfold headB at this
  simp only [Bool.and_eq_true,decide_eq_true_eq] at this
  exact this.2.2.2
 unfold lastR idR
 by_cases h : b.f1 = 1
 ·rw [if_pos h,if_pos h,wrap_le h4 hm]
  have:=hl h
  exact ⟨by omega,by omega,fun _=>rfl,fun c=>absurd h c,fun _=>rfl,fun c=>absurd h c⟩
 ·rw [if_neg h,if_neg h]
  exact ⟨Int.le_refl _,hm,fun c=>absurd c h,fun _=>rfl,fun c=>absurd c h,fun _=>rfl⟩
theorem act_bucket {b : S26} {a : Act} (h4 : 0 ≤ b.f4) (k0 : 0 ≤ Int.tmod a.kd 9) (k4 : Int.tmod a.kd 9 < 4) (h : (doR b a).er = 0) : bucketB (actB b a) = true ∧ b.f4 ≤ (actB b a).f4:=by
 obtain ⟨q1,q2,q3,q4,q5,q6,q7,q8⟩:=do4_ok k0 k4 h
 have hm:=actC_mem q3
 unfold actB
 by_cases k3 : Int.tmod a.kd 9 = 3
 ·rw [if_pos k3]
  have hh:=(bucket_at q1).1
  unfold headB at hh
  simp only [Bool.and_eq_true,decide_eq_true_eq] at hh
  refine ⟨put_bucket q1 q2 q4 q5 q6 (Int.le_refl _) hh.2.2.2 (fun v hv=>?_),Int.le_refl _⟩
  rcases hm v hv with x | x | x
  ·exact near_get q1 _ v x
  ·exact ⟨by omega,fun _=>x⟩
  ·exact absurd k3 x.2.1
 ·rw [if_neg k3]
  obtain ⟨l1,l2,l3,l4,l5,l6⟩:=last_le q1 h4 (q7 (by omega))
  refine ⟨put_bucket q1 q2 q4 q5 q6 l1 l2 (fun v hv=>?_),l1⟩
  rcases hm v hv with x | x | x
  ·have:=near_get q1 _ v x
   exact ⟨by omega,this.2⟩
  ·exact ⟨by omega,fun _=>x⟩
  ·rw [x.2.2,l5 x.1,l3 x.1]
   exact ⟨Int.le_refl _,fun c=>by omega⟩
end
section
open Go.WideMaps Go.Maps
def StepOK (b : S26) (x : Did) (six : Bool) : Prop :=
 bucketB x.b = true ∧ b.f4 ≤ x.b.f4 ∧ (x.er ≠ 0 → x.b = b) ∧ (x.er = 0 → six = false → x.id ≠ 0 → x.id = b.f4 + 1 ∧ x.b.f4 = b.f4 + 1)
theorem step_no {b : S26} {x : Did} {six : Bool} (hb : bucketB b = true) (he : x.er ≠ 0) (h : x.b = b) : StepOK b x six :=
 ⟨by rw [h];exact hb,by rw [h];exact Int.le_refl _,fun _=>h,fun c=>absurd c he⟩
theorem head_le {b : S26} (hb : bucketB b = true) : b.f4 ≤ 281474976710655 ∧ 0 ≤ b.f1 ∧ b.f1 ≤ 2:=by
 have:=(bucket_at hb).1
 unfold headB at this
 simp only [Bool.and_eq_true,decide_eq_true_eq] at this
 exact ⟨this.2.2.2,this.2.1,this.2.2.1⟩
theorem act_step {b : S26} {a : Act} (hb : bucketB b = true) (h4 : 0 ≤ b.f4) (k0 : 0 ≤ Int.tmod a.kd 9) (k4 : Int.tmod a.kd 9 < 4) (six : Bool) : StepOK b (doR b a) six:=by
 by_cases he : (doR b a).er = 0
 ·obtain ⟨q1,q2,q3,q4,q5,q6,q7,q8⟩:=do4_ok k0 k4 he
  have hx:=act_bucket h4 k0 k4 he
  rw [q8]
  refine ⟨hx.1,hx.2,fun c=>absurd rfl c,fun _ _ hi=>?_⟩
  unfold actB
  simp only at hi ⊢
  by_cases k3 : Int.tmod a.kd 9 = 3
  ·rw [if_pos k3] at hi;exact absurd rfl hi
  ·rw [if_neg k3] at hi
   rw [if_neg k3,if_neg k3]
   obtain ⟨l1,l2,l3,l4,l5,l6⟩:=last_le q1 h4 (q7 (by omega))
   by_cases h1 : b.f1 = 1
   ·exact ⟨l5 h1,l3 h1⟩
   ·exact absurd (l6 h1) hi
 ·exact step_no hb he (do4_no k0 k4 he).1
end
section
open Go.WideMaps Go.Maps
theorem chain_of {l : List S47} (h1 : l.length ≤ 20) (h2 : ∀ v ∈ l,mayV v = true) (h3 : chB l = true) : chainB l = true:=by
 unfold chainB
 rw [decide_eq_true h1,h3]
 have : l.any badV = false:=by
  rw [List.any_eq_false]
  intro v hv
  have:=h2 v hv
  unfold badV
  rw [this];simp
 rw [this];rfl
end
section
open Go.WideMaps Go.Maps
theorem octE_app (a b : List S56) : octE (a ++ b) = octE a + octE b:=by unfold octE;rw [List.map_append,List.sum_append]
/-- a key that is not there, with one version -/
theorem putL_new {l : List S56} {key : ByteArray} (h : ∀ x ∈ l,x.f0 ≠ key) (v : S47) : octE (putL l key [v]) = octE l + v.f1.size ∧ (putL l key [v]).length = l.length + 1:=by
 have ha : l.any (eqK key) = false:=by
  rw [List.any_eq_false]
  intro x hx
  unfold eqK
  rw [beq_iff_eq]
  exact fun e=>h x hx (bytes_eq e)
 have e : putL l key [v] = l.take (lessN l key) ++ [⟨key,[v]⟩] ++ l.drop (lessN l key):=by
  unfold putL
  rw [ha,if_neg (by simp),if_neg (by simp),Nat.add_zero]
 have h2 : octE (l.take (lessN l key)) + octE (l.drop (lessN l key)) = octE l:=by rw [← octE_app,List.take_append_drop]
 have h3 : octE [(⟨key,[v]⟩ : S56)] = v.f1.size:=by unfold octE octV;simp
 rw [e]
 constructor
 ·rw [octE_app,octE_app,h3];omega
 ·rw [List.length_append,List.length_append,List.length_singleton,List.length_take,List.length_drop];have:=less_le l key;omega
theorem room_ok {b : S26} {key : ByteArray} {f : List S47 → Int → List S47 × Int} (h : (laidR b key f).2.2 = 0) : octB (laidR b key f).1.f2 (laidR b key f).1.f3 ≤ 20000:=by
 obtain ⟨_,_,_,_,_,k6,_,k8⟩:=laid_ok h
 rw [k8];exact k6
theorem close_6 {x b : S26} (h : (closeR x b 0).2 = 6) : 20000 < octB b.f2 b.f3:=by
 unfold closeR at h
 rw [if_pos rfl] at h
 by_cases ho : octB b.f2 b.f3 ≤ 20000
 ·rw [if_pos ho] at h;cases h
 ·omega
/-- a version of a new key for which there is no room: the octets are too many -/
theorem room_no {b : S26} {key data : ByteArray} (h4 : 0 ≤ b.f4) (hd : data.size ≤ 2000) (h : (laidR b key (fun l id=>putV l b.f1 ⟨id,data,false,1099511627775⟩)).2.2 = 6) (hk : ∀ x ∈ b.f2,x.f0 ≠ key) (hl : b.f2.length < 60) (hL : b.f4 < 281474976710655) :
  bucketB b = true ∧ 20000 < octB b.f2 b.f3 + data.size:=by
 have ho : openR b key = 0:=by
  by_cases ho : openR b key = 0
  ·exact ho
  ·have h1 : openR b key = 1:=by unfold openR at ho ⊢;split at ho <;> simp_all
   have hc : ∀ (y x : S26),(closeR y x 1).2 = 1:=fun y x=>by unfold closeR;rw [if_neg (by decide)]
   have hv : ∀ (x : S26) (r : List S47 × Int),versQ x key 1 r = (x,1):=fun x r=>by unfold versQ;rw [if_neg (by decide)]
   have hn : ∀ q,noR q 6 1 = 1:=fun q=>by cases q;exact noR_f _ _;exact noR_n (by decide)
   exfalso
   unfold laidR at h
   simp only [h1,hn] at h
   by_cases hs : b.f1 = 1
   ·rw [if_pos hs,if_pos hs,if_pos hs,hv] at h
    simp only [hc] at h
    rw [if_neg (by decide)] at h
    exact absurd (show (1 : Int) = 6 from h) (by decide)
   ·rw [if_neg hs,if_neg hs,if_neg hs,hv] at h
    simp only [hc] at h
    rw [if_neg (by decide)] at h
    exact absurd (show (1 : Int) = 6 from h) (by decide)
 obtain ⟨hb,hkb⟩:=open_0 ho
 refine ⟨hb,?_⟩
 obtain ⟨hm,s0,s2⟩:=head_le hb
 have hg : getE b.f2 key = []:=getE_none hk
 have hfin : ∀ (c : S26 × Int) (id : Int),((if c.2 = 0 then (c.1,id,0) else (b,0,c.2)) : S26 × Int × Int).2.2 = 6 → c.2 = 6:=by
  intro c id h
  by_cases hc : c.2 = 0
  ·rw [if_pos hc] at h;cases h
  ·rw [if_neg hc] at h;exact h
 have hv : ∀ id : Int,0 ≤ id → id ≤ 281474976710655 → (b.f1 = 1 → id ≠ 0) → ∃ i,putV [] b.f1 ⟨id,data,false,1099511627775⟩ = ([⟨i,data,false,1099511627775⟩],0) ∧ i ≤ 281474976710655:=by
  intro id h0 h1 h2
  have hmv : mayV ⟨id,data,false,1099511627775⟩ = true:=by
   unfold mayV
   simp only [Bool.and_eq_true,decide_eq_true_eq]
   refine ⟨by omega,by omega,rfl,by omega,by omega⟩
  have hlay : ∃ i : Int,layV b.f1 [] ⟨id,data,false,1099511627775⟩ = ([⟨i,data,false,1099511627775⟩],0) ∧ i ≤ 281474976710655:=by
   unfold layV
   by_cases hs : b.f1 = 1
   ·rw [if_pos hs,if_neg (by rw [beq_iff_eq];exact h2 hs),if_neg (by simp)]
    exact ⟨id,rfl,h1⟩
   ·rw [if_neg hs]
    exact ⟨0,rfl,by omega⟩
  obtain ⟨i,hy,hi⟩:=hlay
  refine ⟨i,?_,hi⟩
  unfold putV
  rw [hy]
  rw [if_neg (by
   rintro (c | c | c | c)
   ·exact absurd c (by decide)
   ·exact c ⟨s0,s2⟩
   ·rw [hmv] at c;cases c
   ·exact absurd c.1 (by decide)),if_neg (by simp),if_neg (by simp)]
 have hput : ∀ v : S47,v.f1 = data → v.f0 ≤ 281474976710655 → mayV v = true → putE b.f2 key [v] = (putL b.f2 key [v],0):=by
  intro v hvd hv0 hmv
  have hc : chainB [v] = true:=by
   refine chain_of (by show 1 ≤ 20;decide) (fun x hx=>by rw [List.mem_singleton.1 hx];exact hmv) ?_
   unfold chB
   show chFrom [v] v.f3 281474976710656 false = true
   unfold chFrom
   simp only [Bool.and_eq_true,Bool.not_eq_true',decide_eq_false_iff_not,Bool.and_false]
   refine ⟨by omega,trivial,by omega,?_⟩
   split <;> rfl
  unfold putE
  rw [if_neg (by rw [(bucket_ix hb).2,hkb,hc];simp),if_neg (by rw [(putL_new hk v).2];omega)]
 have fin : ∀ (i : Int) (x : S26) (L : Int),i ≤ 281474976710655 → (closeR x (versQ (⟨b.f0,b.f1,b.f2,b.f3,L⟩ : S26) key 0 ([⟨i,data,false,1099511627775⟩],0)).1 (versQ (⟨b.f0,b.f1,b.f2,b.f3,L⟩ : S26) key 0 ([⟨i,data,false,1099511627775⟩],0)).2).2 = 6 → 20000 < octB b.f2 b.f3 + data.size:=by
  intro i x L hi hh
  have hmv : mayV ⟨i,data,false,1099511627775⟩ = true:=by
   unfold mayV
   simp only [Bool.and_eq_true,decide_eq_true_eq]
   refine ⟨by omega,by omega,rfl,by omega,by omega⟩
  have e : versQ (⟨b.f0,b.f1,b.f2,b.f3,L⟩ : S26) key 0 ([⟨i,data,false,1099511627775⟩],0) = (⟨b.f0,b.f1,putL b.f2 key [⟨i,data,false,1099511627775⟩],b.f3,L⟩,0):=by
   unfold versQ versR
   rw [if_pos rfl,if_pos rfl,hput _ rfl hi hmv]
  rw [e] at hh
  have:=close_6 hh
  unfold octB at this ⊢
  simp only at this
  rw [(putL_new hk _).1] at this
  simp only at this
  omega
 unfold laidR at h
 simp only [ho,hg] at h
 by_cases hs : b.f1 = 1
 ·rw [if_pos hs,if_pos hs,if_pos hs,wrap_le h4 hm,decide_eq_false (by omega),noR_f] at h
  obtain ⟨i,e,hi⟩:=hv (b.f4 + 1) (by omega) (by omega) (fun _=>by omega)
  rw [e] at h
  exact fin i b (b.f4 + 1) hi (hfin _ _ h)
 ·rw [if_neg hs,if_neg hs,if_neg hs] at h
  obtain ⟨i,e,hi⟩:=hv 0 (by omega) (by omega) (fun c=>absurd c hs)
  rw [e] at h
  exact fin i b b.f4 hi (hfin _ _ h)
end
section
open Go.WideMaps Go.Maps
attribute [local go_sem] Oper.semAt_some
def fewKey (s : ByteArray) : ByteArray:=if (s.size : Int) > 80 then s.extract 0 80 else s
def cutP (p : S40) : S40:=⟨p.f0,if (p.f1.size : Int) > 2001 then p.f1.extract 0 2001 else p.f1⟩
def cutU (u : S101) : S101:=⟨u.f0,fewKey u.f1,(u.f2.take 31).map cutP⟩
def fewUs (l : List S101) : List S101:=(l.take 11).map cutU
def cutV (v : S47) : S47:=⟨v.f0,if (v.f1.size : Int) > 2001 then v.f1.extract 0 2001 else v.f1,v.f2,v.f3⟩
def fewV (l : List S47) : List S47:=(l.take 21).map cutV
def cutE (x : S56) : S56:=⟨fewKey x.f0,fewV x.f1⟩
def fewE (l : List S56) : List S56:=(l.take 61).map cutE
def cutB (b : S26) : S26:=⟨fewKey b.f0,b.f1,fewE b.f2,fewUs b.f3,b.f4⟩
theorem few_key (s : ByteArray) : cellarerlaw01_Few.f s = some (fewKey s):=by
 unfold cellarerlaw01_Few.f fewKey
 by_cases h : (s.size : Int) > 80
 ·rw [if_pos h,if_pos (by decide),if_pos (by omega),if_pos h]
 ·rw [if_neg h,if_neg h]
theorem one_part (p : S40) : cellarerlaw08_One.f p.f0 p.f1 = some ((cutP p).f0,(cutP p).f1):=by
 unfold cellarerlaw08_One.f cutP
 by_cases h : (p.f1.size : Int) > 2001
 ·rw [if_pos h,if_pos (by decide),if_pos (by omega)];simp only [if_pos h]
 ·rw [if_neg h];simp only [if_neg h]
theorem one_v (v : S47) : cellarerlaw05_One.f v.f0 v.f1 v.f2 v.f3 = some ((cutV v).f0,(cutV v).f1,(cutV v).f2,(cutV v).f3):=by
 unfold cellarerlaw05_One.f cutV
 by_cases h : (v.f1.size : Int) > 2001
 ·rw [if_pos h,if_pos (by decide),if_pos (by omega)];simp only [if_pos h]
 ·rw [if_neg h];simp only [if_neg h]
theorem belowA (w : World) (o : Obj) : Below w.heap.size w (w.alloc o):=(Below.refl _ _).alloc (Nat.le_refl _) o
theorem tk_snoc {α β : Type} (f : α → β) (l : List α) (k : Nat) (h : k < l.length) : (l.take (k + 1)).map f = (l.take k).map f ++ [f l[k]]:=by
 rw [List.take_add_one,List.getElem?_eq_getElem h,List.map_append];rfl
theorem tk_end {α β : Type} (f : α → β) (l : List α) (k m : Nat) (h : k = l.length ∨ k = m) (hm : k ≤ m) : (l.take k).map f = (l.take m).map f:=by
 rcases h with rfl | rfl
 ·rw [List.take_length,List.take_of_length_le hm]
 ·rfl
theorem fewV.walk (A : Option Addr) (c : Nat) (l : List S47) (w : World) (hr : Kd.C k47 w A l.length l) :
  Calls Tryz.prog 75 #[.slice A l.length c] w fun e w'=>∃ v,e = .returned v ∧ Kd.R k47 47 w' w.heap.size (fun _=>True) v (fewV l) ∧ Below w.heap.size w w':=by
 have HR:=zh hr
 have hlen : (l.length : Int) ≤ 9223372036854775807:=by have:=hr.2.1;omega
 have HB:=zh (Below.refl w.heap.size w)
 clear hr
 go_enter Tryz.func75,Tryz.ntmps75
 go_wp2
 go_loopw [3,4] (fun v3 v4 wr=>∃ k : Nat,v4 = .int .i64 k ∧ k ≤ l.length ∧ k ≤ 21 ∧ Hid (Kd.R k47 47 wr w.heap.size (fun _=>True) v3 ((l.take k).map cutV)) ∧ Hid (Below w.heap.size w wr)) (fun _ v4 _=>l.length - (intOf v4).toNat)
 case atStart=>exact ⟨0,rfl,Nat.zero_le _,by decide,Kd.R_nil _ _ _ _ _,HB⟩
 case round =>
  obtain ⟨k,rfl,hk,hkm,HO,HB⟩:=hrel
  by_cases hlt : k < l.length
  ·by_cases hm : k < 21
   ·have p0 : (0 : Int) ≤ (k : Int):=by omega
    have p1 : (k : Int) < (l.length : Int):=by omega
    have p2 : (k : Int) < 21:=by omega
    have HL:=zh hm
    have HTS:=zh (tk_snoc cutV l k hlt)
    obtain ⟨ad,e',d0,d1,d2,d3⟩:=atVersion HR.out HB.out k hlt
    subst e'
    generalize l[k] = x at *
    go_wp2_with (first
     | (go_at_call 28;go_must (refine (cellarerlaw05_One.calls _ _ _ _ _ _ _ _ _ (one_v x)).mono ?_;rintro e w7 ⟨rfl,hb⟩;have HO:=zh (Kd.R_below HO.out hb);have HB:=keepB HB hb;clear hb))
     | ((with_reducible refine gate_builtin (b:=.append) (xs:=#[.tmp 15,.tmp 21]) rfl ?_);at_builtin;go_must (refine Kd.R_append k47 (w0:=w) w.heap.size rfl (.tmp 15) (.tmp 21) 54 47 (.agg #[(.int .u64 0),(.string ⟨#[]⟩),(.bool false),(.int .i64 0)]) 40 rfl Tryz.underlying54 info47 rfl (by decide) (by decide) _ _ (cutV x : S47) [.int .u64 (cutV x).f0,.string (cutV x).f1,.bool (cutV x).f2,.int .i64 (cutV x).f3] (fun _=>True) (fun _=>False) rfl rfl (k47_mkM _ _ _ (cutV x)) (fun _ hk=>hk.elim) (fun _ _=>trivial) HO.out HB.out HB.out.size (by have:=HL.out;rw [List.length_map,List.length_take];omega) ?_;intro v8 w8 ho hb hg hat;rw [← HTS.out] at ho;have HO:=zh ho;have HB:=zh hb;clear ho hb hg hat)))
    go_roundw
    case rel=>exact ⟨k + 1,by go_num,hlt,hm,HO,HB⟩
    case measure=>simp [intOf];omega
   ·obtain rfl : k = 21:=by omega
    have p1 : (21 : Int) < (l.length : Int):=by omega
    have HE:=HO.out
    rw [tk_end cutV l _ 21 (Or.inr rfl) hkm] at HE
    go_wp2
    go_ret
    exact ⟨_,rfl,HE,HB.out⟩
  ·obtain rfl : k = l.length:=by omega
   have HE:=HO.out
   rw [tk_end cutV l _ 21 (Or.inl rfl) hkm] at HE
   go_wp2
   go_ret
   exact ⟨_,rfl,HE,HB.out⟩
theorem fewE.walk (A : Option Addr) (c : Nat) (l : List S56) (w : World) (hr : Kd.C k56 w A l.length l) :
  Calls Tryz.prog 30 #[.slice A l.length c] w fun e w'=>∃ v,e = .returned v ∧ Kd.R k56 56 w' w.heap.size (fun _=>True) v (fewE l) ∧ Below w.heap.size w w':=by
 have HR:=zh hr
 have hlen : (l.length : Int) ≤ 9223372036854775807:=by have:=hr.2.1;omega
 have HB:=zh (Below.refl w.heap.size w)
 clear hr
 go_enter Tryz.func30,Tryz.ntmps30
 go_wp2
 go_loopw [3,4] (fun v3 v4 wr=>∃ k : Nat,v4 = .int .i64 k ∧ k ≤ l.length ∧ k ≤ 61 ∧ Hid (Kd.R k56 56 wr w.heap.size (fun _=>True) v3 ((l.take k).map cutE)) ∧ Hid (Below w.heap.size w wr)) (fun _ v4 _=>l.length - (intOf v4).toNat)
 case atStart=>exact ⟨0,rfl,Nat.zero_le _,by decide,Kd.R_nil _ _ _ _ _,HB⟩
 case round =>
  obtain ⟨k,rfl,hk,hkm,HO,HB⟩:=hrel
  by_cases hlt : k < l.length
  ·by_cases hm : k < 61
   ·have p0 : (0 : Int) ≤ (k : Int):=by omega
    have p1 : (k : Int) < (l.length : Int):=by omega
    have p2 : (k : Int) < 61:=by omega
    have HL:=zh hm
    have HTS:=zh (tk_snoc cutE l k hlt)
    obtain ⟨ad,A1,c1,e',d0,d1,hle1,hC1⟩:=atEntry HR.out (Below.refl _ _) k hlt
    subst e'
    generalize l[k] = x at *
    go_wp2
    have HO:=zh (Kd.R_drew HO.out)
    refine wp_region_held_drew (S:=fun W=>Below w.heap.size w W) (by kernel_rfl) HB.out.drew (fun hHeld=>?_)
    clear HB
    refine zt 0 (v:=?v0E) (hy:=?y0E) ?r0E
    case y0E=>(intro w' h;go_simp;try with_reducible rfl)
    try simp only [zN]
    refine zt 1 (v:=?v1E) (hy:=?y1E) ?r1E
    case y1E=>(intro w' h;go_simp;try with_reducible rfl)
    try simp only [zN]
    refine zt 2 (v:=?v2E) (hy:=?y2E) ?r2E
    case y2E=>(intro w' h;go_simp;try with_reducible rfl)
    try simp only [zN]
    refine zt 3 (v:=?v3E) (hy:=?y3E) ?r3E
    case y3E=>(intro w' h;go_simp;try with_reducible rfl)
    try simp only [zN]
    refine zt 4 (v:=?v4E) (hy:=?y4E) ?r4E
    case y4E=>(intro w' h;go_simp;try with_reducible rfl)
    try simp only [zN]
    refine zt 5 (v:=?v5E) (hy:=?y5E) ?r5E
    case y5E=>(intro w' h;have a0:=keepc h d0;go_simp;try with_reducible rfl)
    try simp only [zN]
    refine zt 7 (v:=?v7E) (hy:=?y7E) ?r7E
    case y7E=>(intro w' h;go_simp;try with_reducible rfl)
    try simp only [zN]
    refine zt 8 (v:=?v8E) (hy:=?y8E) ?r8E
    case y8E=>(intro w' h;go_simp;try with_reducible rfl)
    try simp only [zN]
    refine zt 9 (v:=?v9E) (hy:=?y9E) ?r9E
    case y9E=>(intro w' h;go_simp;try with_reducible rfl)
    try simp only [zN]
    refine zt 10 (v:=?v10E) (hy:=?y10E) ?r10E
    case y10E=>(intro w' h;go_simp;try with_reducible rfl)
    try simp only [zN]
    refine zt 11 (v:=?v11E) (hy:=?y11E) ?r11E
    case y11E=>(intro w' h;have a1:=keepc h d1;go_simp;try with_reducible rfl)
    try simp only [zN]
    refine wpAnyH_ready (rs:=[6]) (by kernel_rfl) (by simp) ?_
    refine AllReadyH.cons (o:=_) rfl (fun K hK=>?_) AllReadyH.nil
    rw [if_pos (by rfl)]
    go_simp
    refine (cellarerlaw01_Few.calls x.f0 _ _ (few_key x.f0)).mono ?_
    rintro e8 w8 ⟨rfl,hd⟩
    have hb:=outD hd
    have HO:=zh (Kd.R_below HO.out hb)
    clear hd
    refine hK.out _ _ (Below.trans hHeld (hb.mono (Below.size hHeld))) (fun hHeld=>?_)
    clear hK K hb
    try simp only [zN]
    refine wpAnyH_ready (rs:=[12]) (by kernel_rfl) (by simp) ?_
    refine AllReadyH.cons (o:=_) rfl (fun K hK=>?_) AllReadyH.nil
    rw [if_pos (by rfl)]
    go_simp
    refine (fewV.walk A1 c1 x.f1 _ (Kd.C_below hC1 hHeld)).mono ?_
    rintro e8 w8 ⟨vv,rfl,hv,hb⟩
    obtain ⟨Av,cv,rfl⟩:=Kd.R_slice hv
    have HNE:=zh (fun q hq=>((Kd.R_bound HO.out).1 q hq).2.2.1)
    have HV:=zh (Kd.R_lower (Kd.R_mono (Kd.R_bound hv) (fun q hq=>hq.2.1)) (Below.size hHeld))
    have HO:=zh (Kd.R_below HO.out hb)
    clear hv
    refine hK.out _ _ (Below.trans hHeld (hb.mono (Below.size hHeld))) (fun hHeld=>?_)
    clear hK K hb
    try simp only [zN]
    refine zt 13 (v:=?v13E) (hy:=?y13E) ?r13E
    case y13E=>(intro w' h;go_simp;try with_reducible rfl)
    try simp only [zN]
    refine wpAnyH_ready (rs:=[14]) (by kernel_rfl) (by simp) ?_
    refine AllReadyH.cons (o:=_) rfl (fun K hK=>?_) AllReadyH.nil
    rw [if_pos (by rfl)]
    go_simp
    have hH0:=hHeld
    refine hK.out _ _ (Below.trans hHeld ((belowA _ _).mono (Below.size hHeld))) (fun hHeld=>?_)
    clear hK K
    try simp only [zN]
    refine wpAnyH_ready (rs:=[15]) (by kernel_rfl) (by simp) ?_
    refine AllReadyH.cons (o:=_) rfl (fun K hK=>?_) AllReadyH.nil
    refine Kd.R_append_step k56 (w0:=w) w.heap.size (by rfl) (.tmp 15) (.tmp 29) 22 56 (.agg #[(.string ⟨#[]⟩),(.slice none 0 0)]) 40 rfl Tryz.underlying22 info56 rfl (by decide) (by decide) _ _ (cutE x) [.string (fewKey x.f0),.slice Av (fewV x.f1).length cv] (fun _=>True) _ rfl rfl (k56_mkM _ _ _ (cutE x) HV.out) (fun q hq=>⟨trivial,fun e=>by have:=HNE.out q e.symm;omega⟩) (fun _ _=>trivial) HO.out hH0 (Below.size hH0) (by have:=HL.out;rw [List.length_map,List.length_take];omega) ?_
    intro v9 w9 ho hb hg hat
    rw [← HTS.out] at ho
    refine hK.out _ _ hb (fun hHeld=>?_)
    have HO:=zh ho
    clear hK K ho hb hg hat hH0
    try simp only [zN]
    refine zt 16 (v:=?v16E) (hy:=?y16E) ?r16E
    case y16E=>(intro w' h;go_simp;try with_reducible rfl)
    try simp only [zN]
    refine wpAnyH_done (by kernel_rfl) ?_ _
    have HB : Hid (Below w.heap.size w w9):=hHeld
    go_wp2
    go_roundw
    case rel=>exact ⟨k + 1,by go_num,hlt,hm,HO,HB⟩
    case measure=>simp [intOf];omega
   ·obtain rfl : k = 61:=by omega
    have p1 : (61 : Int) < (l.length : Int):=by omega
    have HE:=HO.out
    rw [tk_end cutE l _ 61 (Or.inr rfl) hkm] at HE
    go_wp2
    go_ret
    exact ⟨_,rfl,HE,HB.out⟩
  ·obtain rfl : k = l.length:=by omega
   have HE:=HO.out
   rw [tk_end cutE l _ 61 (Or.inl rfl) hkm] at HE
   go_wp2
   go_ret
   exact ⟨_,rfl,HE,HB.out⟩
end
section
open Go.WideMaps Go.Maps
section
variable {P : Program} {md : Region.Mode} {ops : Array Oper} {Q : Exit → Go.Act → World → Prop} {z : Nat} {S : World → Prop}
def wpAnyZ (P : Program) (md : Region.Mode) (ops : Array Oper) (Q : Exit → Go.Act → World → Prop) (z : Nat) (S : World → Prop) : Nat → Array Bool → Go.Act → World → Prop
 | 0,listed,a,w=>Region.ready md ops listed = [] ∧ Q .normal a w
 | fuel + 1,listed,a,w=>(Region.ready md ops listed = [] → Q .normal a w) ∧
  ∀ i ∈ Region.ready md ops listed,wpOp P ops Q i (fun a' w'=>((listed.setIfInBounds i true).getD z true = true ∨ S w') ∧ wpAnyZ P md ops Q z S fuel (listed.setIfInBounds i true) a' w') a w
theorem wpAny_of_Z : ∀ (fuel : Nat) (listed : Array Bool) (a : Go.Act) (w : World),wpAnyZ P md ops Q z S fuel listed a w → wpAny P md ops Q fuel listed a w
 | 0,_,_,_,h=>h
 | fuel + 1,_,_,_,h=>⟨h.1,fun i hi=>wpOp_mono (fun a' w' h'=>wpAny_of_Z fuel _ a' w' h'.2) (h.2 i hi)⟩
/-- z waits for i. -/
def waits (md : Region.Mode) (ops : Array Oper) (z i : Nat) : Bool:=(ops[z]?.map (fun o=>o.after.toList.any (fun e=>Region.binds md e && e.on == i))).getD false
/-- z waits for i, by the operations between, none of which has come up. -/
def awaitB (md : Region.Mode) (ops : Array Oper) (listed : Array Bool) (z : Nat) : Nat → List Nat → Bool
 | i,[]=>waits md ops z i
 | i,k :: ks=>waits md ops k i && (!(listed.getD k true) && awaitB md ops listed z k ks)
theorem blocked {listed : Array Bool} {i j k : Nat} (hw : waits md ops k i = true) (hu : listed.getD i true = false) (hj : j ∈ Region.ready md ops listed) : j ≠ k:=fun e=>by
 subst e
 obtain ⟨_,oj,hoj,hall⟩:=mem_ready.1 hj
 unfold waits at hw
 rw [hoj,Option.map_some,Option.getD_some,List.any_eq_true] at hw
 obtain ⟨e,he,hb⟩:=hw
 rw [Bool.and_eq_true] at hb
 have q1:=hall e (Array.mem_def.2 he) hb.1
 have e3 : e.on = i:=by simpa using hb.2
 rw [e3] at q1
 rcases Nat.lt_or_ge i listed.size with h' | h'
 ·simp [h'] at hu q1;rw [hu] at q1;cases q1
 ·simp [Array.getElem?_eq_none h'] at q1
theorem chain_step {listed : Array Bool} {j : Nat} (hj : j ∈ Region.ready md ops listed) : ∀ (ks : List Nat) (i : Nat),listed.getD i true = false → awaitB md ops listed z i ks = true → j ≠ z ∧ awaitB md ops (listed.setIfInBounds j true) z i ks = true
 | [],i,hu,h=>⟨blocked h hu hj,h⟩
 | k :: ks,i,hu,h=>by
  unfold awaitB at h ⊢
  rw [Bool.and_eq_true,Bool.and_eq_true,Bool.not_eq_true'] at h
  have hjk:=blocked h.1 hu hj
  obtain ⟨h1,h2⟩:=chain_step hj ks k h.2.1 h.2.2
  exact ⟨h1,by rw [Bool.and_eq_true,Bool.and_eq_true,Bool.not_eq_true',getD_set_ne true hjk];exact ⟨h.1,h.2.1,h2⟩⟩
theorem wpAnyZ_first {i : Nat} {oi : Oper} {v : Value} (hi : ops[i]? = some oi) (hsel : ∀ (j : Nat) (o : Oper) cs b,ops[j]? = some o → o.op ≠ .select cs b)
  (hQ : ∀ c a w,Q (.panic c) (a.put oi.dst v) w → Q (.panic c) a w) (ks : List Nat) (hiz : i ≠ z) :
  ∀ (fuel : Nat) (listed : Array Bool) (a : Go.Act) (w : World),listed.getD z true = false → awaitB md ops listed z i ks = true →
   (∀ j oj,ops[j]? = some oj → j ≠ i → listed.getD j true = false → (∀ e ∈ oj.after,Region.binds md e = true → e.on ≠ i) → oi.apart ops oj = true) →
   i ∈ Region.ready md ops listed → YieldsIf P ops S oi v a → S w →
   wpAnyZ P md ops Q z S fuel (listed.setIfInBounds i true) (a.put oi.dst v) w → wpAnyZ P md ops Q z S (fuel + 1) listed a w:=by
 intro fuel
 induction fuel with
 | zero =>
  intro listed a w hzu hku _ hr hy hS H
  refine ⟨fun h=>(by rw [h] at hr;cases hr),fun j hj=>?_⟩
  by_cases hji : j = i
  ·subst hji;exact hy.wpOp hi hS ⟨.inr hS,H⟩
  ·have:=ready_mono hj hji
   rw [H.1] at this
   cases this
 | succ fuel ih =>
  intro listed a w hzu hku hfree hr hy hS H
  refine ⟨fun h=>(by rw [h] at hr;cases hr),fun j hj=>?_⟩
  by_cases hji : j = i
  ·subst hji;exact hy.wpOp hi hS ⟨.inr hS,H⟩
  ·have h1:=H.2 j (ready_mono hj hji)
   obtain ⟨hjun,oj,hoj,hall⟩:=mem_ready.1 hj
   have hnot : ∀ e ∈ oj.after,Region.binds md e = true → e.on ≠ i:=fun e he hb heq=>by
    have q1:=hall e he hb
    have q0:=(mem_ready.1 hr).1
    rw [heq] at q1
    rcases Nat.lt_or_ge i listed.size with h' | h'
    ·simp [h'] at q0 q1;rw [q0] at q1;cases q1
    ·simp [Array.getElem?_eq_none h'] at q1
   obtain ⟨hjz,hku'⟩:=chain_step hj ks i (by simpa using (mem_ready.1 hr).1) hku
   have h2:=wpOp_putIf hoj (hfree j oj hoj hji hjun hnot) (fun cs b=>hsel i oi cs b hi) (fun cs b=>hsel j oj cs b hoj) hQ hy h1
   have hzu' : (listed.setIfInBounds j true).getD z true = false:=by rw [getD_set_ne true hjz];exact hzu
   have hfree' : ∀ k ok,ops[k]? = some ok → k ≠ i → (listed.setIfInBounds j true).getD k true = false →
     (∀ e ∈ ok.after,Region.binds md e = true → e.on ≠ i) → oi.apart ops ok = true:=fun k ok hk hki hun hno=>by
    refine hfree k ok hk hki ?_ hno
    by_cases hjk : j = k
    ·subst hjk;exact hjun
    ·rw [getD_set_ne true hjk] at hun;exact hun
   refine wpOp_mono (fun a' w' h3=>?_) h2
   have hS' : S w':=by
    rcases h3.2.1 with h | h
    ·rw [getD_set_ne true hjz,getD_set_ne true hiz,hzu] at h;cases h
    ·exact h
   refine ⟨.inr hS',ih (listed.setIfInBounds j true) a' w' hzu' hku' hfree' (ready_mono hr (Ne.symm hji)) h3.1 hS' ?_⟩
   rw [Array.setIfInBounds_comm _ _ hji]
   exact h3.2.2
theorem tkz (ks : List Nat) {i : Nat} {oi : Oper} {v : Value} {fuel : Nat} {listed : Array Bool} {a : Go.Act} {w : World} (hi : ops[i]? = some oi)
  (hS : S w) (hy : YieldsIf P ops S oi v a) (h : wpAnyZ P md ops Q z S fuel (listed.setIfInBounds i true) (a.put oi.dst v) w)
  (hQ : ∀ c a w,Q (.panic c) (a.put oi.dst v) w → Q (.panic c) a w:=by exact fun _ _ _ h=>h)
  (hs : Region.noSelect ops = true:=by kernel_rfl) (hf : Region.free md ops listed i = true:=by kernel_rfl) (hr : (Region.ready md ops listed).contains i = true:=by kernel_rfl)
  (hiz : (i == z) = false:=by kernel_rfl) (hzu : listed.getD z true = false:=by kernel_rfl) (hku : awaitB md ops listed z i ks = true:=by kernel_rfl) :
  wpAnyZ P md ops Q z S (fuel + 1) listed a w:=wpAnyZ_first hi (Region.noSelect_spec hs) hQ ks (by simpa using hiz) fuel listed a w hzu hku (Region.free_spec hi hf) (by simpa using hr) hy hS h
def AllReadyZ (P : Program) (md : Region.Mode) (ops : Array Oper) (Q : Exit → Go.Act → World → Prop) (z : Nat) (S : World → Prop) (fuel : Nat) (listed : Array Bool) (a : Go.Act) (w : World) (rs : List Nat) : Prop :=
 ∀ i ∈ rs,wpOp P ops Q i (fun a' w'=>((listed.setIfInBounds i true).getD z true = true ∨ S w') ∧ wpAnyZ P md ops Q z S fuel (listed.setIfInBounds i true) a' w') a w
theorem AllReadyZ.nil {fuel : Nat} {listed : Array Bool} {a : Go.Act} {w : World} : AllReadyZ P md ops Q z S fuel listed a w []:=fun _ h=>by cases h
theorem AllReadyZ.cons {fuel : Nat} {listed : Array Bool} {a : Go.Act} {w : World} {i : Nat} {o : Oper} {rs : List Nat} (ho : ops[i]? = some o)
  (h : ∀ K' : Go.Act → World → Prop,Shut (∀ a w,S w → (S w → wpAnyZ P md ops Q z S fuel (listed.setIfInBounds i true) a w) → K' a w) → if Region.wanted o (yielded ops a.tmps) = true then Oper.wp P o a w K' Q else K' (a.put o.dst undef) w)
  (hs : AllReadyZ P md ops Q z S fuel listed a w rs) : AllReadyZ P md ops Q z S fuel listed a w (i :: rs):=fun j hj=>by
 rcases List.mem_cons.1 hj with rfl | hj
 ·exact wpOp_step ho (fun K' hK=>h K' (fun a w hS hW=>hK a w ⟨.inr hS,hW hS⟩))
 ·exact hs j hj
theorem wpAnyZ_ready {rs : List Nat} {fuel : Nat} {listed : Array Bool} {a : Go.Act} {w : World} (hr : Region.ready md ops listed = rs) (hne : rs ≠ []) (h : AllReadyZ P md ops Q z S fuel listed a w rs) : wpAnyZ P md ops Q z S (fuel + 1) listed a w :=
 ⟨fun h0=>absurd (hr ▸ h0) hne,hr ▸ h⟩
/-- The last one, z itself: no fact is asked behind it. -/
theorem wpAnyZ_last {fuel : Nat} {listed : Array Bool} {a : Go.Act} {w : World} {o : Oper} (hr : Region.ready md ops listed = [z]) (hz : (listed.setIfInBounds z true).getD z true = true) (ho : ops[z]? = some o)
  (h : ∀ K' : Go.Act → World → Prop,Shut (∀ a w,wpAnyZ P md ops Q z S fuel (listed.setIfInBounds z true) a w → K' a w) → if Region.wanted o (yielded ops a.tmps) = true then Oper.wp P o a w K' Q else K' (a.put o.dst undef) w) : wpAnyZ P md ops Q z S (fuel + 1) listed a w :=
 ⟨fun h0=>absurd (hr ▸ h0) (by simp),fun i hi=>by
  rw [hr] at hi
  obtain rfl : i = z:=by simpa using hi
  exact wpOp_step ho (fun K' hK=>h K' (fun a w hW=>hK a w ⟨.inl hz,hW⟩))⟩
theorem wpAnyZ_done {listed : Array Bool} {a : Go.Act} {w : World} (hr : Region.ready md ops listed = []) (h : Q .normal a w) : ∀ fuel,wpAnyZ P md ops Q z S fuel listed a w
 | 0=>⟨hr,h⟩
 | _ + 1=>⟨fun _=>h,by rw [hr];simp⟩
theorem wp_region_Z (z : Nat) {id : Nat} {a : Go.Act} {w : World} (hm : P.follows .mixedOrders = true) (hS : S w.drew)
  (h : S w.drew → wpAnyZ P .any ops Q z S ops.size (Array.replicate ops.size false) a w.drew) : (Code.region id ops true).wp P Q a w :=
 wp_region_any hm (wpAny_of_Z _ _ _ _ (h hS))
end
end
section
open Go.WideMaps Go.Maps
attribute [local go_sem] Oper.semAt_some
section
variable {P : Program} {md : Region.Mode} {ops : Array Oper} {Q : Exit → Go.Act → World → Prop} {z : Nat} {S : World → Prop}
/-- a drawn region; what stands behind it by a letter -/
theorem wp_region_cont {id : Nat} {a : Go.Act} {w : World} (hm : P.follows .mixedOrders = true) (hS : S w.drew)
  (h : S w.drew → ∀ QQ,Hid (QQ = Q) → Hid (∀ c a1 k v w,QQ (.panic c) (Go.Act.put a1 (some k) v) w → QQ (.panic c) a1 w) → ∀ OPS,Hid (OPS = ops) → ∀ aa,Hid (aa = a) → wpAnyH P .any ops QQ S ops.size (Array.replicate ops.size false) a w.drew)
  (hP : ∀ c a1 k v w,Q (.panic c) (Go.Act.put a1 (some k) v) w → Q (.panic c) a1 w:=by exact fun _ _ _ _ _ h=>h) : (Code.region id ops true).wp P Q a w :=
 wp_region_held_drew hm hS (fun h'=>h h' Q rfl hP ops rfl a rfl)
end
theorem isz_upl : (Tryz.prog.info? 101).map (·.size) = some 3:=by kernel_rfl
theorem r_cells {α : Type} {d : Kd α} {e : Nat} {w : World} {base : Nat} {ok : Nat → Prop} {v : Value} {xs : List α} (h : d.R e w base ok v xs) : v.cells.toList = [v]:=by
 obtain ⟨A,c,rfl⟩:=Kd.R_slice h;rfl
theorem r_one {α : Type} {d : Kd α} {e : Nat} {w : World} {base : Nat} {ok : Nat → Prop} {v : Value} {xs : List α} (h : d.R e w base ok v xs) : ∀ q ∈ [v],q.oneCell' = true:=by
 obtain ⟨A,c,rfl⟩:=Kd.R_slice h;simp [Value.oneCell']
theorem grown_size {w w' : World} {r : Option Nat} (h : w.grownBy w' r) : w.heap.size ≤ w'.heap.size:=h.size
theorem fewU.walk (A : Option Addr) (c : Nat) (l : List S101) (w : World) (hr : Kd.C k101 w A l.length l) :
  Calls Tryz.prog 31 #[.slice A l.length c] w fun e w'=>∃ v,e = .returned v ∧ Kd.R k101 101 w' w.heap.size (fun _=>True) v (fewUs l) ∧ Below w.heap.size w w':=by
 have HR:=zh hr
 have hlen : (l.length : Int) ≤ 9223372036854775807:=by have:=hr.2.1;omega
 have HB:=zh (Below.refl w.heap.size w)
 clear hr
 go_enter Tryz.func31,Tryz.ntmps31
 go_wp2
 go_loopw [3,4] (fun v3 v4 wr=>∃ k : Nat,v4 = .int .i64 k ∧ k ≤ l.length ∧ k ≤ 11 ∧ Hid (Kd.R k101 101 wr w.heap.size (fun _=>True) v3 ((l.take k).map cutU)) ∧ Hid (Below w.heap.size w wr)) (fun _ v4 _=>l.length - (intOf v4).toNat)
 case atStart=>exact ⟨0,rfl,Nat.zero_le _,by decide,Kd.R_nil _ _ _ _ _,HB⟩
 case round =>
  obtain ⟨k,rfl,hk,hkm,HO,HB⟩:=hrel
  by_cases hlt : k < l.length
  ·by_cases hm : k < 11
   ·have p0 : (0 : Int) ≤ (k : Int):=by omega
    have p1 : (k : Int) < (l.length : Int):=by omega
    have p2 : (k : Int) < 11:=by omega
    have HL:=zh hm
    have HTS:=zh (tk_snoc cutU l k hlt)
    obtain ⟨ad,A2,c2,e',d0,d1,d2,hle2,hC2⟩:=atUpload HR.out (Below.refl _ _) k hlt
    subst e'
    generalize l[k] = x at *
    go_wp2
    have HNE:=zh (fun q hq=>((Kd.R_bound HO.out).1 q hq).2.2.1)
    have HO:=zh (Kd.R_drew (Kd.R_mono (Kd.R_bound HO.out) (fun q hq=>(hq.2.2.1 : q < wr.heap.size))))
    have HW0:=zh (show w.heap.size ≤ wr.heap.size from HB.out.size)
    obtain ⟨W0,hW0⟩ : ∃ n,n = wr.heap.size:=⟨_,rfl⟩
    have hS0 : W0 ≤ wr.drew.heap.size:=by rw [hW0];exact Nat.le_refl _
    rw [← hW0] at HNE HO HW0
    clear hW0
    refine wp_region_cont (S:=fun W=>Below w.heap.size w W ∧ W0 ≤ W.heap.size) (by kernel_rfl) ⟨HB.out.drew,hS0⟩ (fun hHeld QQ hQQ hPQ OPS hOP aa haa=>?_)
    clear HB hS0
    have CONT : ∀ (g : Nat) (w1 : World),(Below w.heap.size w w1 ∧ W0 ≤ w1.heap.size) → Hid (w1.heap[g]? = some (.cells #[.int .u64 0,.string ⟨#[]⟩,.slice none 0 0] 101 (0,0))) → Hid (W0 ≤ g) → Hid (Kd.R k101 101 w1 w.heap.size (fun q=>q < W0) u3 ((l.take k).map cutU)) → wpAnyH Tryz.prog .any OPS QQ (fun W=>Below w.heap.size w W ∧ W0 ≤ W.heap.size) 1 #[true,true,true,true,true,true,true,true,true,true,true,true,true,false] (((((((((((((aa.put (some 17) (.slice (some ad) l.length c)).put (some 18) (.int .i64 (k : Int))).put (some 19) (.pointer (some (ad.add (k * 3))))).put (some 20) (.pointer (some (ad.add (k * 3))))).put (some 21) (.int .u64 x.f0)).put (some 22) (.slice (some ad) l.length c)).put (some 23) (.int .i64 (k : Int))).put (some 24) (.pointer (some (ad.add (k * 3))))).put (some 25) (.pointer (some ⟨(ad.add (k * 3)).block,(ad.add (k * 3)).off + 1,none⟩))).put (some 26) (.string x.f1)).put (some 27) (.string (fewKey x.f1))).put (some 28) (.agg #[.int .u64 x.f0,.string (fewKey x.f1),.slice none 0 0])).put (some 5) (.pointer (some ⟨g,0,none⟩))) w1:=by
     intro g w1 hHeld Kg Lg HO
     rw [hOP.out,haa.out,hQQ.out]
     clear hOP haa hQQ hPQ
     try simp only [zN]
     refine wpAnyH_ready (rs:=[13]) (by kernel_rfl) (by simp) ?_
     refine AllReadyH.cons (o:=_) rfl (fun K hK=>?_) AllReadyH.nil
     rw [if_pos (by rfl)]
     refine wp_store_row rfl 101 (.tmp 5) (.tmp 28) rfl g 0 _ 101 (.agg #[.int .u64 x.f0,.string (fewKey x.f1),.slice none 0 0]) [.int .u64 x.f0,.string (fewKey x.f1),.slice none 0 0] rfl rfl Kg.out rfl isz_upl (by show 0 + 3 ≤ 3;decide) (by simp [Value.oneCell']) ?_
     intro w2 hk ho
     have HO:=zh (Kd.R_step HO.out (fun q hq hlt=>ho.out.block q hlt (by have:=Lg.out;omega)))
     have Kg : Hid (w2.heap[g]? = some (.cells #[.int .u64 x.f0,.string (fewKey x.f1),.slice none 0 0] 101 (0,0))):=hk
     refine hK.out _ _ ⟨ho.out.below hHeld.1 hHeld.1.size (Nat.le_trans HW0.out Lg.out),Nat.le_trans hHeld.2 ho.out.size⟩ (fun hHeld=>?_)
     clear hK K hk ho
     try simp only [zN]
     refine wpAnyH_done (by kernel_rfl) ?_ _
     have HB : Hid (Below w.heap.size w w2):=hHeld.1
     have HS : Hid (W0 ≤ w2.heap.size):=hHeld.2
     clear hHeld
     go_wp2
     go_loopw [6] (fun v6 wi=>∃ (j : Nat) (v : Value),v6 = .int .i64 j ∧ j ≤ x.f2.length ∧ j ≤ 31 ∧ Hid (wi.heap[g]? = some (.cells #[.int .u64 x.f0,.string (fewKey x.f1),v] 101 (0,0))) ∧ Hid (Kd.R k40 40 wi w.heap.size (fun q=>W0 ≤ q ∧ q ≠ g) v ((x.f2.take j).map cutP)) ∧ Hid (Kd.R k101 101 wi w.heap.size (fun q=>q < W0) u3 ((l.take k).map cutU)) ∧ Hid (Below w.heap.size w wi) ∧ Hid (W0 ≤ wi.heap.size)) (fun v6 _=>x.f2.length - (intOf v6).toNat)
     case atStart=>exact ⟨0,_,rfl,Nat.zero_le _,by decide,Kg,Kd.R_nil _ _ _ _ _,HO,HB,HS⟩
     case round =>
      obtain ⟨j,v,rfl,hj,hj31,Kg,HV,HO,HB,HS⟩:=hrel
      obtain ⟨Av,cv,rfl⟩:=Kd.R_slice HV.out
      obtain ⟨XS,hXS⟩ : ∃ L,(x.f2.take j).map cutP = L:=⟨_,rfl⟩
      have HXL : Hid (XS.length ≤ j):=by unfold Hid;rw [← hXS,List.length_map,List.length_take];omega
      rw [hXS] at HV Kg
      have b2:=keepc HB.out d2
      by_cases jl : j < x.f2.length
      ·by_cases jm : j < 31
       ·obtain ⟨ap,e',f0,f1⟩:=atPart hC2 (Below.refl _ _) j jl
        have r0 : (0 : Int) ≤ (j : Int):=by omega
        have r1 : (j : Int) < (x.f2.length : Int):=by omega
        have r2 : (j : Int) < 31:=by omega
        have HTP:=zh ((tk_snoc cutP x.f2 j jl).trans (by rw [hXS]))
        clear hXS
        have HJ:=zh jm
        subst e'
        generalize x.f2[j] = y at *
        go_wp2
        clear b2
        have Kg:=zh (blk_drew Kg.out)
        have HV:=zh (Kd.R_drew HV.out)
        have HO:=zh (Kd.R_drew HO.out)
        refine wp_region_Z 14 (S:=fun W=>(Below w.heap.size w W ∧ W0 ≤ W.heap.size) ∧ W.cell? ⟨g,2,none⟩ = some (.slice Av XS.length cv)) (by kernel_rfl) ⟨⟨HB.out.drew,HS.out⟩,zj Kg 2⟩ (fun hHeld=>?_)
        clear HB HS
        refine tkz [1,12] (i:=0) (v:=?v0P) rfl hHeld (Or.inl ⟨rfl,?y0P⟩) ?r0P
        case y0P=>(intro w' h;go_simp;try with_reducible rfl)
        try simp only [zN]
        refine tkz [12] (i:=1) (v:=?v1P) rfl hHeld (Or.inl ⟨rfl,?y1P⟩) ?r1P
        case y1P=>(intro w' h;have g2:=h.2;go_simp;try with_reducible rfl)
        try simp only [zN]
        refine tkz [4,5,6,8,9,10,12] (i:=2) (v:=?v2P) rfl hHeld (Or.inl ⟨rfl,?y2P⟩) ?r2P
        case y2P=>(intro w' h;go_simp;try with_reducible rfl)
        try simp only [zN]
        refine tkz [4,5,6,8,9,10,12] (i:=3) (v:=?v3P) rfl hHeld (Or.inl ⟨rfl,?y3P⟩) ?r3P
        case y3P=>(intro w' h;go_simp;try with_reducible rfl)
        try simp only [zN]
        refine tkz [5,6,8,9,10,12] (i:=4) (v:=?v4P) rfl hHeld (Or.inl ⟨rfl,?y4P⟩) ?r4P
        case y4P=>(intro w' h;go_simp;try with_reducible rfl)
        try simp only [zN]
        refine tkz [6,8,9,10,12] (i:=5) (v:=?v5P) rfl hHeld (Or.inl ⟨rfl,?y5P⟩) ?r5P
        case y5P=>(intro w' h;go_simp;try with_reducible rfl)
        try simp only [zN]
        refine tkz [8,9,10,12] (i:=6) (v:=?v6P) rfl hHeld (Or.inl ⟨rfl,?y6P⟩) ?r6P
        case y6P=>(intro w' h;have a2:=keepc h.1.1 d2;go_simp;try with_reducible rfl)
        try simp only [zN]
        refine tkz [8,9,10,12] (i:=7) (v:=?v7P) rfl hHeld (Or.inl ⟨rfl,?y7P⟩) ?r7P
        case y7P=>(intro w' h;go_simp;try with_reducible rfl)
        try simp only [zN]
        refine tkz [9,10,12] (i:=8) (v:=?v8P) rfl hHeld (Or.inl ⟨rfl,?y8P⟩) ?r8P
        case y8P=>(intro w' h;go_simp;try with_reducible rfl)
        try simp only [zN]
        refine tkz [10,12] (i:=9) (v:=?v9P) rfl hHeld (Or.inl ⟨rfl,?y9P⟩) ?r9P
        case y9P=>(intro w' h;have a0:=keepc h.1.1 f0;have a1:=keepc h.1.1 f1;go_simp;try with_reducible rfl)
        try simp only [zN]
        refine wpAnyZ_ready (rs:=[10]) (by kernel_rfl) (by simp) ?_
        refine AllReadyZ.cons (o:=_) rfl (fun K hK=>?_) AllReadyZ.nil
        rw [if_pos (by rfl)]
        go_simp
        refine (cellarerlaw08_One.calls y.f0 y.f1 _ _ _ (one_part y)).mono ?_
        rintro e8 w8 ⟨rfl,hb⟩
        have HO:=zh (Kd.R_below HO.out hb)
        have HV:=zh (Kd.R_below HV.out hb)
        have Kg:=zk Kg hb
        refine hK.out _ _ ⟨⟨Below.trans hHeld.1.1 (hb.mono (Below.size hHeld.1.1)),Nat.le_trans hHeld.1.2 hb.size⟩,keepc hb hHeld.2⟩ (fun hHeld=>?_)
        clear hK K hb
        try simp only [zN]
        refine wpAnyZ_ready (rs:=[11]) (by kernel_rfl) (by simp) ?_
        refine AllReadyZ.cons (o:=_) rfl (fun K hK=>?_) AllReadyZ.nil
        rw [if_pos (by rfl)]
        go_simp
        have hH0:=hHeld
        have hb:=belowA w8 (.cells #[.int .i64 (cutP y).f0,.string (cutP y).f1] 40)
        refine hK.out _ _ ⟨⟨Below.trans hHeld.1.1 (hb.mono (Below.size hHeld.1.1)),Nat.le_trans hHeld.1.2 hb.size⟩,keepc hb hHeld.2⟩ (fun hHeld=>?_)
        clear hK K hb
        try simp only [zN]
        refine wpAnyZ_ready (rs:=[12]) (by kernel_rfl) (by simp) ?_
        refine AllReadyZ.cons (o:=_) rfl (fun K hK=>?_) AllReadyZ.nil
        refine Kd.R_append_step k40 (w0:=w) w.heap.size (by rfl) (.tmp 44) (.tmp 54) 99 40 (.agg #[(.int .i64 0),(.string ⟨#[]⟩)]) 24 rfl Tryz.underlying99 info40 rfl (by decide) (by decide) (.slice Av XS.length cv) XS (cutP y) [.int .i64 (cutP y).f0,.string (cutP y).f1] (fun q=>W0 ≤ q ∧ q ≠ g) (fun _=>False) rfl rfl (k40_mkM _ _ _ (cutP y)) (fun _ hk=>hk.elim) (fun q hq=>⟨Nat.le_trans hH0.1.2 hq,by have:=blk_lt Kg.out;omega⟩) HV.out hH0.1.1 (Below.size hH0.1.1) (by have:=HJ.out;have:=HXL.out;omega) ?_
        intro v9 w9 ho hb hg hat
        rw [← HTP.out] at ho
        have Kg:=zh (blk_grown Kg.out hg (fun e=>(HV.out.1 g e.symm).2 rfl))
        have HO:=zh (Kd.R_grown HO.out hg (fun q hq e=>by have:=(HV.out.1 q e.symm).1;omega))
        have HV:=zh ho
        refine hK.out _ _ ⟨⟨hb,Nat.le_trans hH0.1.2 (grown_size hg)⟩,zj Kg 2⟩ (fun hHeld=>?_)
        clear hK K ho hg hat hH0 hb
        try simp only [zN]
        refine tkz [] (i:=13) (v:=?v13P) rfl hHeld (Or.inl ⟨rfl,?y13P⟩) ?r13P
        case y13P=>(intro w' h;go_simp;try with_reducible rfl)
        try simp only [zN]
        refine wpAnyZ_last (o:=_) (by kernel_rfl) (by kernel_rfl) rfl (fun K hK=>?_)
        rw [if_pos (by rfl)]
        refine wp_store_row rfl 99 (.tmp 56) (.tmp 55) rfl g 2 _ 101 v9 [v9] rfl rfl Kg.out (r_cells HV.out) (by kernel_rfl) (by show 2 + 1 ≤ 3;decide) (r_one HV.out) ?_
        intro wz hk ho
        have HO:=zh (Kd.R_step HO.out (fun q hq hlt=>ho.out.block q hlt (by have:=Lg.out;omega)))
        have HV:=zh (Kd.R_step HV.out (fun q hq hlt=>ho.out.block q hlt hq.2))
        have HB:=zh (ho.out.below hHeld.1.1 (Below.size hHeld.1.1) (Nat.le_trans HW0.out Lg.out))
        have HS:=zh (Nat.le_trans hHeld.1.2 ho.out.size)
        have Kg : Hid (wz.heap[g]? = some (.cells #[.int .u64 x.f0,.string (fewKey x.f1),v9] 101 (0,0))):=hk
        refine hK.out _ _ ?_
        clear hK K hk ho hHeld
        try simp only [zN]
        refine wpAnyZ_done (by kernel_rfl) ?_ _
        go_wp2
        go_roundw
        case rel=>exact ⟨j + 1,v9,by go_num,jl,jm,Kg,HV,HO,HB,HS⟩
        case measure=>simp [intOf];omega
       ·obtain rfl : j = 31:=by omega
        have r1 : (31 : Int) < (x.f2.length : Int):=by omega
        have HE : Kd.R k40 40 wr w.heap.size (fun q=>W0 ≤ q ∧ q ≠ g) (.slice Av XS.length cv) ((x.f2.take 31).map cutP):=by rw [← tk_end cutP x.f2 _ 31 (Or.inr rfl) hj31,hXS];exact HV.out
        have z0:=zb Kg.out 0 (.int .u64 x.f0)
        have z1:=zb Kg.out 1 (.string (fewKey x.f1))
        have z2:=zb Kg.out 2 (.slice Av XS.length cv)
        go_wp2_with (((with_reducible refine gate_builtin (b:=.append) (xs:=#[.tmp 57,.tmp 59]) rfl ?_);at_builtin;go_must (refine Kd.R_append k101 (w0:=w) w.heap.size rfl (.tmp 57) (.tmp 59) 23 101 (.agg #[(.int .u64 0),(.string ⟨#[]⟩),(.slice none 0 0)]) 48 rfl Tryz.underlying23 info101 rfl (by decide) (by decide) u3 ((l.take k).map cutU) (cutU x) [.int .u64 x.f0,.string (fewKey x.f1),.slice Av XS.length cv] (fun _=>True) (fun q=>W0 ≤ q ∧ q ≠ g) rfl rfl (k101_mkM _ _ _ (cutU x) HE) (fun q hq=>⟨trivial,fun e=>by have:=HNE.out q e.symm;omega⟩) (fun _ _=>trivial) (Kd.R_mono HO.out (fun _ _=>trivial)) HB.out HB.out.size (by have:=HL.out;rw [List.length_map,List.length_take];omega) ?_;intro v8 w8 ho hb hg hat;rw [← HTS.out] at ho;have HO:=zh ho;have HB:=zh hb;clear ho hb hg hat)))
        go_roundw
        case rel=>exact ⟨k + 1,by go_num,hlt,hm,HO,HB⟩
        case measure=>simp [intOf];omega
      ·obtain rfl : j = x.f2.length:=by omega
       have HE : Kd.R k40 40 wr w.heap.size (fun q=>W0 ≤ q ∧ q ≠ g) (.slice Av XS.length cv) ((x.f2.take 31).map cutP):=by rw [← tk_end cutP x.f2 _ 31 (Or.inl rfl) hj31,hXS];exact HV.out
       have z0:=zb Kg.out 0 (.int .u64 x.f0)
       have z1:=zb Kg.out 1 (.string (fewKey x.f1))
       have z2:=zb Kg.out 2 (.slice Av XS.length cv)
       go_wp2_with (((with_reducible refine gate_builtin (b:=.append) (xs:=#[.tmp 57,.tmp 59]) rfl ?_);at_builtin;go_must (refine Kd.R_append k101 (w0:=w) w.heap.size rfl (.tmp 57) (.tmp 59) 23 101 (.agg #[(.int .u64 0),(.string ⟨#[]⟩),(.slice none 0 0)]) 48 rfl Tryz.underlying23 info101 rfl (by decide) (by decide) u3 ((l.take k).map cutU) (cutU x) [.int .u64 x.f0,.string (fewKey x.f1),.slice Av XS.length cv] (fun _=>True) (fun q=>W0 ≤ q ∧ q ≠ g) rfl rfl (k101_mkM _ _ _ (cutU x) HE) (fun q hq=>⟨trivial,fun e=>by have:=HNE.out q e.symm;omega⟩) (fun _ _=>trivial) (Kd.R_mono HO.out (fun _ _=>trivial)) HB.out HB.out.size (by have:=HL.out;rw [List.length_map,List.length_take];omega) ?_;intro v8 w8 ho hb hg hat;rw [← HTS.out] at ho;have HO:=zh ho;have HB:=zh hb;clear ho hb hg hat)))
       go_roundw
       case rel=>exact ⟨k + 1,by go_num,hlt,hm,HO,HB⟩
       case measure=>simp [intOf];omega
    refine tk (i:=0) (v:=?v0U) rfl hHeld (Or.inl ⟨rfl,?y0U⟩) ?r0U (hQ:=fun c _ w h=>hPQ.out c _ _ _ w h)
    case y0U=>(intro w' h;go_simp;try with_reducible rfl)
    try simp only [zN]
    refine tk (i:=1) (v:=?v1U) rfl hHeld (Or.inl ⟨rfl,?y1U⟩) ?r1U (hQ:=fun c _ w h=>hPQ.out c _ _ _ w h)
    case y1U=>(intro w' h;go_simp;try with_reducible rfl)
    try simp only [zN]
    refine tk (i:=2) (v:=?v2U) rfl hHeld (Or.inl ⟨rfl,?y2U⟩) ?r2U (hQ:=fun c _ w h=>hPQ.out c _ _ _ w h)
    case y2U=>(intro w' h;go_simp;try with_reducible rfl)
    try simp only [zN]
    refine tk (i:=3) (v:=?v3U) rfl hHeld (Or.inl ⟨rfl,?y3U⟩) ?r3U (hQ:=fun c _ w h=>hPQ.out c _ _ _ w h)
    case y3U=>(intro w' h;go_simp;try with_reducible rfl)
    try simp only [zN]
    refine tk (i:=4) (v:=?v4U) rfl hHeld (Or.inl ⟨rfl,?y4U⟩) ?r4U (hQ:=fun c _ w h=>hPQ.out c _ _ _ w h)
    case y4U=>(intro w' h;have a0:=keepc h.1 d0;go_simp;try with_reducible rfl)
    try simp only [zN]
    refine tk (i:=5) (v:=?v5U) rfl hHeld (Or.inl ⟨rfl,?y5U⟩) ?r5U (hQ:=fun c _ w h=>hPQ.out c _ _ _ w h)
    case y5U=>(intro w' h;go_simp;try with_reducible rfl)
    try simp only [zN]
    refine tk (i:=6) (v:=?v6U) rfl hHeld (Or.inl ⟨rfl,?y6U⟩) ?r6U (hQ:=fun c _ w h=>hPQ.out c _ _ _ w h)
    case y6U=>(intro w' h;go_simp;try with_reducible rfl)
    try simp only [zN]
    refine tk (i:=7) (v:=?v7U) rfl hHeld (Or.inl ⟨rfl,?y7U⟩) ?r7U (hQ:=fun c _ w h=>hPQ.out c _ _ _ w h)
    case y7U=>(intro w' h;go_simp;try with_reducible rfl)
    try simp only [zN]
    refine tk (i:=8) (v:=?v8U) rfl hHeld (Or.inl ⟨rfl,?y8U⟩) ?r8U (hQ:=fun c _ w h=>hPQ.out c _ _ _ w h)
    case y8U=>(intro w' h;go_simp;try with_reducible rfl)
    try simp only [zN]
    refine tk (i:=9) (v:=?v9U) rfl hHeld (Or.inl ⟨rfl,?y9U⟩) ?r9U (hQ:=fun c _ w h=>hPQ.out c _ _ _ w h)
    case y9U=>(intro w' h;have a1:=keepc h.1 d1;go_simp;try with_reducible rfl)
    try simp only [zN]
    refine wpAnyH_ready (rs:=[10,12]) (by kernel_rfl) (by simp) ?_
    refine AllReadyH.cons (o:=_) rfl (fun K hK=>?_) (AllReadyH.cons (o:=_) rfl (fun K hK=>?_) AllReadyH.nil)
    ·skip
     rw [if_pos (by rfl)]
     go_simp
     refine (cellarerlaw01_Few.calls x.f1 _ _ (few_key x.f1)).mono ?_
     rintro e8 w8 ⟨rfl,hd⟩
     have hb:=outD hd
     have HO:=zh (Kd.R_below HO.out hb)
     refine hK.out _ _ ⟨Below.trans hHeld.1 (hb.mono (Below.size hHeld.1)),Nat.le_trans hHeld.2 hb.size⟩ (fun hHeld=>?_)
     clear hK K hb hd
     try simp only [zN]
     refine tk (i:=11) (v:=?v11Ua) rfl hHeld (Or.inl ⟨rfl,?y11Ua⟩) ?r11Ua (hQ:=fun c _ w h=>hPQ.out c _ _ _ w h)
     case y11Ua=>(intro w' h;go_simp;try with_reducible rfl)
     try simp only [zN]
     refine wpAnyH_ready (rs:=[12]) (by kernel_rfl) (by simp) ?_
     refine AllReadyH.cons (o:=_) rfl (fun K hK=>?_) AllReadyH.nil
     rw [if_pos (by rfl)]
     refine wp_box_row (N:=5) rfl (cs:=#[.int .u64 0,.string ⟨#[]⟩,.slice none 0 0]) (t:=101) (by first | (go_simp;done) | (go_simp;rfl)) ?_
     intro g hg w9 hk hb
     have HO:=zh (Kd.R_below HO.out hb)
     have Kg:=zh hk
     have Lg : Hid (W0 ≤ g):=by rw [hg];exact hHeld.2
     refine hK.out _ _ ⟨Below.trans hHeld.1 (hb.mono (Below.size hHeld.1)),Nat.le_trans hHeld.2 hb.size⟩ (fun hHeld=>?_)
     clear hK K hk hb hg
     try simp only [zN]
     have hc:=CONT g _ hHeld Kg Lg HO
     rw [hOP.out,haa.out] at hc
     try simp only [zA,zB,zC,Act.put,zD,zE,zF] at hc
     exact hc
    ·skip
     rw [if_pos (by rfl)]
     refine wp_box_row (N:=5) rfl (cs:=#[.int .u64 0,.string ⟨#[]⟩,.slice none 0 0]) (t:=101) (by first | (go_simp;done) | (go_simp;rfl)) ?_
     intro g hg w9 hk hb
     have HO:=zh (Kd.R_below HO.out hb)
     have Kg:=zh hk
     have Lg : Hid (W0 ≤ g):=by rw [hg];exact hHeld.2
     refine hK.out _ _ ⟨Below.trans hHeld.1 (hb.mono (Below.size hHeld.1)),Nat.le_trans hHeld.2 hb.size⟩ (fun hHeld=>?_)
     clear hK K hk hb hg
     try simp only [zN]
     refine wpAnyH_ready (rs:=[10]) (by kernel_rfl) (by simp) ?_
     refine AllReadyH.cons (o:=_) rfl (fun K hK=>?_) AllReadyH.nil
     rw [if_pos (by rfl)]
     go_simp
     refine (cellarerlaw01_Few.calls x.f1 _ _ (few_key x.f1)).mono ?_
     rintro e8 w8 ⟨rfl,hd⟩
     have hb:=outD hd
     have HO:=zh (Kd.R_below HO.out hb)
     have Kg:=zk Kg hb
     refine hK.out _ _ ⟨Below.trans hHeld.1 (hb.mono (Below.size hHeld.1)),Nat.le_trans hHeld.2 hb.size⟩ (fun hHeld=>?_)
     clear hK K hb hd
     try simp only [zN]
     refine tk (i:=11) (v:=?v11Ub) rfl hHeld (Or.inl ⟨rfl,?y11Ub⟩) ?r11Ub (hQ:=fun c _ w h=>hPQ.out c _ _ _ w h)
     case y11Ub=>(intro w' h;go_simp;try with_reducible rfl)
     try simp only [zN]
     have hc:=CONT g _ hHeld Kg Lg HO
     rw [hOP.out,haa.out] at hc
     try simp only [zA,zB,zC,Act.put,zD,zE,zF] at hc
     exact hc
   ·obtain rfl : k = 11:=by omega
    have p1 : (11 : Int) < (l.length : Int):=by omega
    have HE:=HO.out
    rw [tk_end cutU l _ 11 (Or.inr rfl) hkm] at HE
    go_wp2
    go_ret
    exact ⟨_,rfl,HE,HB.out⟩
  ·obtain rfl : k = l.length:=by omega
   have HE:=HO.out
   rw [tk_end cutU l _ 11 (Or.inl rfl) hkm] at HE
   go_wp2
   go_ret
   exact ⟨_,rfl,HE,HB.out⟩
end
section
open Go.WideMaps Go.Maps
def Small (b : S26) : Prop:=b.f2.length ≤ 1000 ∧ (∀ x ∈ b.f2,x.f1.length ≤ 1000) ∧ b.f3.length ≤ 1000 ∧ ∀ x ∈ b.f3,x.f2.length ≤ 1000
theorem small_bucket {b : S26} (h : bucketB b = true) : Small b:=by
 obtain ⟨q1,q2,q3,_,_,_⟩:=bucket_at h
 obtain ⟨i1,_,i3⟩:=(index_iff _).1 q2
 obtain ⟨c1,_,c3⟩:=(check_iff _).1 q3
 refine ⟨by omega,fun x hx=>?_,by omega,fun u hu=>?_⟩
 ·have:=chain_len (i3 x hx).2.2;omega
 ·have:=((fine_iff _ _ _).1 (c3 u hu)).2.2.1;omega
end
section
open Go.WideMaps Go.Maps
attribute [local go_sem] Oper.semAt_some
theorem few.walk (b : S26) (A2 A3 : Option Addr) (c2 c3 : Nat) (w : World) (h2 : Kd.C k56 w A2 b.f2.length b.f2) (g2 : b.f2.length ≤ c2) (h3 : Kd.C k101 w A3 b.f3.length b.f3) (g3 : b.f3.length ≤ c3) :
  Calls Tryz.prog 10 #[.agg #[.string b.f0,.int .i64 b.f1,.slice A2 b.f2.length c2,.slice A3 b.f3.length c3,.int .u64 b.f4]] w fun e w'=>∃ A5 c5 A6 c6,e = .returned (.agg #[.string (cutB b).f0,.int .i64 (cutB b).f1,.slice A5 (cutB b).f2.length c5,.slice A6 (cutB b).f3.length c6,.int .u64 (cutB b).f4]) ∧ (cutB b).f2.length ≤ c5 ∧ (cutB b).f3.length ≤ c6 ∧ Kd.C k56 w' A5 (cutB b).f2.length (cutB b).f2 ∧ Kd.C k101 w' A6 (cutB b).f3.length (cutB b).f3 ∧ Below w.heap.size w w':=by
 have HFE:=zh (fun (W : World) (h : Below w.heap.size w W)=>fewE.walk A2 c2 b.f2 W (Kd.C_below h2 h))
 have HFU:=zh (fun (W : World) (h : Below w.heap.size w W)=>fewU.walk A3 c3 b.f3 W (Kd.C_below h3 h))
 have HB:=zh (Below.refl w.heap.size w)
 clear h2 g2 h3 g3
 go_enter Tryz.func10,Tryz.ntmps10
 go_wp2_with (first
  | ((with_reducible refine gate_dst (N:=1) rfl ?_);go_must (refine zx HB (N:=1) (cs:=#[.string b.f0,.int .i64 b.f1,.slice A2 b.f2.length c2,.slice A3 b.f3.length c3,.int .u64 b.f4]) (t:=26) ?hr ?_;(case hr=>first | (go_simp;done) | (go_simp;rfl));intro gb w1 Kgb Lgb HB hbelgb hqgb;clear hbelgb hqgb))
  | ((with_reducible refine gate_dst (N:=2) rfl ?_);go_must (refine zx HB (N:=2) (cs:=#[.string ⟨#[]⟩,.int .i64 0,.slice none 0 0,.slice none 0 0,.int .u64 0]) (t:=26) ?hr ?_;(case hr=>first | (go_simp;done) | (go_simp;rfl));intro go w2 Kgo Lgo HB hbelgo hqgo;have M2:=zh (show gb < go by rw [hqgo];exact blk_lt Kgb.out);have Kgb:=zk Kgb hbelgo;clear hbelgo hqgo)))
 refine wp_region_held_drew (S:=fun W=>Below w.heap.size w W ∧ W.heap[gb]? = some (.cells #[.string b.f0,.int .i64 b.f1,.slice A2 b.f2.length c2,.slice A3 b.f3.length c3,.int .u64 b.f4] 26 (0,0))) (by kernel_rfl) ⟨HB.out.drew,blk_drew Kgb.out⟩ (fun hHeld=>?_)
 have Kgo:=zh (blk_drew Kgo.out)
 clear HB Kgb
 refine zt 0 (v:=?v0Y) (hy:=?y0Y) ?r0Y
 case y0Y=>(intro w' h;go_simp;try with_reducible rfl)
 try simp only [zN]
 refine zt 1 (v:=?v1Y) (hy:=?y1Y) ?r1Y
 case y1Y=>(intro w' h;have a0:=blk_cell h.2 0;go_simp;try with_reducible rfl)
 try simp only [zN]
 refine zt 3 (v:=?v3Y) (hy:=?y3Y) ?r3Y
 case y3Y=>(intro w' h;go_simp;try with_reducible rfl)
 try simp only [zN]
 refine zt 4 (v:=?v4Y) (hy:=?y4Y) ?r4Y
 case y4Y=>(intro w' h;have a1:=blk_cell h.2 1;go_simp;try with_reducible rfl)
 try simp only [zN]
 refine zt 5 (v:=?v5Y) (hy:=?y5Y) ?r5Y
 case y5Y=>(intro w' h;go_simp;try with_reducible rfl)
 try simp only [zN]
 refine zt 6 (v:=?v6Y) (hy:=?y6Y) ?r6Y
 case y6Y=>(intro w' h;have a2:=blk_cell h.2 2;go_simp;try with_reducible rfl)
 try simp only [zN]
 refine zt 8 (v:=?v8Y) (hy:=?y8Y) ?r8Y
 case y8Y=>(intro w' h;go_simp;try with_reducible rfl)
 try simp only [zN]
 refine zt 9 (v:=?v9Y) (hy:=?y9Y) ?r9Y
 case y9Y=>(intro w' h;have a3:=blk_cell h.2 3;go_simp;try with_reducible rfl)
 try simp only [zN]
 refine zt 11 (v:=?v11Y) (hy:=?y11Y) ?r11Y
 case y11Y=>(intro w' h;go_simp;try with_reducible rfl)
 try simp only [zN]
 refine zt 12 (v:=?v12Y) (hy:=?y12Y) ?r12Y
 case y12Y=>(intro w' h;have a4:=blk_cell h.2 4;go_simp;try with_reducible rfl)
 try simp only [zN]
 refine wpAnyH_ready (rs:=[2]) (by kernel_rfl) (by simp) ?_
 refine AllReadyH.cons (o:=_) rfl (fun K hK=>?_) AllReadyH.nil
 rw [if_pos (by rfl)]
 go_simp
 refine (cellarerlaw01_Few.calls b.f0 _ _ (few_key b.f0)).mono ?_
 rintro e8 w8 ⟨rfl,hd⟩
 have hb:=outD hd
 clear hd
 have Kgo:=zk Kgo hb
 refine hK.out _ _ ⟨Below.trans hHeld.1 (hb.mono (Below.size hHeld.1)),blk_below hHeld.2 hb⟩ (fun hHeld=>?_)
 clear hK K hb
 try simp only [zN]
 refine wpAnyH_ready (rs:=[7]) (by kernel_rfl) (by simp) ?_
 refine AllReadyH.cons (o:=_) rfl (fun K hK=>?_) AllReadyH.nil
 rw [if_pos (by rfl)]
 go_simp
 refine (HFE.out _ hHeld.1).mono ?_
 rintro e8 w8 ⟨v1,rfl,hv,hb⟩
 obtain ⟨A5,c5,rfl,l5,C5⟩:=Kd.R_reads hv
 have Y3:=zh C5
 clear hv C5
 have Kgo:=zk Kgo hb
 refine hK.out _ _ ⟨Below.trans hHeld.1 (hb.mono (Below.size hHeld.1)),blk_below hHeld.2 hb⟩ (fun hHeld=>?_)
 clear hK K hb
 try simp only [zN]
 refine wpAnyH_ready (rs:=[10]) (by kernel_rfl) (by simp) ?_
 refine AllReadyH.cons (o:=_) rfl (fun K hK=>?_) AllReadyH.nil
 rw [if_pos (by rfl)]
 go_simp
 refine (HFU.out _ hHeld.1).mono ?_
 rintro e8 w8 ⟨v2,rfl,hv,hb⟩
 obtain ⟨A6,c6,rfl,l6,C6⟩:=Kd.R_reads hv
 have Y3:=zc Y3 hb
 have Y4:=zh C6
 clear hv C6
 have Kgo:=zk Kgo hb
 refine hK.out _ _ ⟨Below.trans hHeld.1 (hb.mono (Below.size hHeld.1)),blk_below hHeld.2 hb⟩ (fun hHeld=>?_)
 clear hK K hb
 try simp only [zN]
 refine zt 13 (v:=?v13Y) (hy:=?y13Y) ?r13Y
 case y13Y=>(intro w' h;go_simp;try with_reducible rfl)
 try simp only [zN]
 refine wpAnyH_ready (rs:=[14]) (by kernel_rfl) (by simp) ?_
 refine AllReadyH.cons (o:=_) rfl (fun K hK=>?_) AllReadyH.nil
 rw [if_pos (by rfl)]
 refine wp_store_row rfl 26 (.tmp 2) (.tmp 16) rfl go 0 _ 26 (.agg #[.string (fewKey b.f0),.int .i64 b.f1,.slice A5 (fewE b.f2).length c5,.slice A6 (fewUs b.f3).length c6,.int .u64 b.f4]) [.string (fewKey b.f0),.int .i64 b.f1,.slice A5 (fewE b.f2).length c5,.slice A6 (fewUs b.f3).length c6,.int .u64 b.f4] rfl rfl Kgo.out rfl isz_bucket (by show 0 + 5 ≤ 5;decide) (by simp [Value.oneCell']) ?_
 intro w9 hk ho
 have Y3:=zh (keepE Y3.out Kgo.out (bk_like _ _ _ _ _ _ _ _ _) ho.out)
 have Y4:=zh (keepU Y4.out Kgo.out (bk_like _ _ _ _ _ _ _ _ _) ho.out)
 refine hK.out _ _ ⟨ho.out.below hHeld.1 (Below.size hHeld.1) Lgo.out,ho.out.blk hHeld.2 (by have:=M2.out;omega)⟩ (fun hHeld=>?_)
 have z0:=zb hk.out 0 (.string (fewKey b.f0))
 have z1:=zb hk.out 1 (.int .i64 b.f1)
 have z2:=zb hk.out 2 (.slice A5 (fewE b.f2).length c5)
 have z3:=zb hk.out 3 (.slice A6 (fewUs b.f3).length c6)
 have z4:=zb hk.out 4 (.int .u64 b.f4)
 clear hK K hk ho
 try simp only [zN]
 refine wpAnyH_done (by kernel_rfl) ?_ _
 go_wp2
 refine bodyPost_ret (v:=.agg #[.string (fewKey b.f0),.int .i64 b.f1,.slice A5 (fewE b.f2).length c5,.slice A6 (fewUs b.f3).length c6,.int .u64 b.f4]) (by simp [results,Tryz.results10,go_sem,z0,z1,z2,z3,z4]) rfl ?_
 exact ⟨A5,c5,A6,c6,rfl,l5,l6,Y3.out,Y4.out,hHeld.1⟩
theorem cut_small (b : S26) : Small (cutB b):=by
 unfold cutB fewE fewUs Small
 simp only [List.length_map,List.length_take]
 refine ⟨by omega,fun x hx=>?_,by omega,fun x hx=>?_⟩
 ·obtain ⟨y,_,rfl⟩:=List.mem_map.1 hx
  unfold cutE fewV
  simp only [List.length_map,List.length_take]
  omega
 ·obtain ⟨y,_,rfl⟩:=List.mem_map.1 hx
  unfold cutU
  simp only [List.length_map,List.length_take]
  omega
end
section
open Go.WideMaps Go.Maps
theorem sumL_le : ∀ {l : List Nat} {m : Nat},(∀ x ∈ l,x ≤ m) → l.sum ≤ l.length * m
 | [],m,_=>by simp
 | a :: l,m,h=>by
  have h1:=h a (List.mem_cons_self)
  have h2:=sumL_le (l:=l) (m:=m) (fun x hx=>h x (List.mem_cons_of_mem _ hx))
  rw [List.sum_cons,List.length_cons,Nat.add_mul,Nat.one_mul]
  omega
theorem cutd_le (s : ByteArray) : (if (s.size : Int) > 2001 then s.extract 0 2001 else s).size ≤ 2001:=by
 by_cases h : (s.size : Int) > 2001
 ·rw [if_pos h,ByteArray.size_extract];omega
 ·rw [if_neg h];omega
theorem mapL_le {α : Type} {l : List α} {f : α → Nat} {m n : Nat} (h : ∀ x ∈ l,f x ≤ m) (hl : l.length ≤ n) : (l.map f).sum ≤ n * m:=by
 have h1 : (l.map f).sum ≤ (l.map f).length * m:=sumL_le (fun x hx=>by
  obtain ⟨y,hy,rfl⟩:=List.mem_map.1 hx
  exact h y hy)
 rw [List.length_map] at h1
 exact Nat.le_trans h1 (Nat.mul_le_mul_right _ hl)
theorem cut_octn (b : S26) : octE (cutB b).f2 + octU (cutB b).f3 ≤ 10000000:=by
 have h1 : octE (cutB b).f2 ≤ 61 * (21 * 2001):=by
  unfold octE
  refine mapL_le (fun x hx=>?_) (by unfold cutB fewE;simp only [List.length_map,List.length_take];omega)
  unfold cutB fewE at hx
  obtain ⟨y,_,rfl⟩:=List.mem_map.1 hx
  unfold octV
  refine mapL_le (fun v hv=>?_) (by unfold cutE fewV;simp only [List.length_map,List.length_take];omega)
  unfold cutE fewV at hv
  obtain ⟨z,_,rfl⟩:=List.mem_map.1 hv
  exact cutd_le z.f1
 have h2 : octU (cutB b).f3 ≤ 11 * (31 * 2001):=by
  unfold octU
  refine mapL_le (fun x hx=>?_) (by unfold cutB fewUs;simp only [List.length_map,List.length_take];omega)
  unfold cutB fewUs at hx
  obtain ⟨y,_,rfl⟩:=List.mem_map.1 hx
  unfold octP
  refine mapL_le (fun v hv=>?_) (by unfold cutU;simp only [List.length_map,List.length_take];omega)
  unfold cutU at hv
  obtain ⟨z,_,rfl⟩:=List.mem_map.1 hv
  exact cutd_le z.f1
 omega
theorem cut_oct (b : S26) : ((octE (cutB b).f2 + octU (cutB b).f3 : Nat) : Int) ≤ bigN:=by
 have:=cut_octn b
 unfold bigN
 omega
theorem room_step {b : S26} {key data : ByteArray} (h4 : 0 ≤ b.f4) (h : (laidR b key (fun l id=>putV l b.f1 ⟨id,data,false,1099511627775⟩)).2.2 = 0) :
  bucketB (laidR b key (fun l id=>putV l b.f1 ⟨id,data,false,1099511627775⟩)).1 = true:=by
 have hb:=(laid_ok h).1
 have:=act_step (b:=b) (a:=⟨0,key,data,0,0,1099511627775,[]⟩) hb h4 (show (0 : Int) ≤ Int.tmod 0 9 by decide) (show Int.tmod 0 9 < 4 by decide) false
 unfold doR at this
 rw [if_pos (show Int.tmod 0 9 = 0 by decide)] at this
 exact this.1
end
end Go.Proofs.YtekooapbdgippaaGreatDoor.Q
namespace Go.Proofs.YtekooapbdgippaaGreatDoor.Q
open Go.RowKit Go.Proofs.YtekooapbdgippaaGreatDoorW.PrintWords Go.Proofs.YtekooapbdgippaaGreatDoorW.PrintLast Go.Proofs.YtekooapbdgippaaGreatDoorW.PrintMore
attribute [local go_sem] max2_int min2_int max_two min_two max_three min_three max_four min_four
set_option linter.unusedVariables false
set_option linter.unusedSimpArgs false

end Go.Proofs.YtekooapbdgippaaGreatDoor.Q
