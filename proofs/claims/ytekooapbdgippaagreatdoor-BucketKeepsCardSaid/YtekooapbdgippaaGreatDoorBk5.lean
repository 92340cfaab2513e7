/- After each of what is done, every version that was laid is found as it was laid, at its key and its number; whatever the input, as the row says. Part 26 of 26. -/
import Derived.Test.YtekooapbdgippaaGreatDoorBk4
import Derived.Test.YtekooapbdgippaaGreatDoorBk3
import Derived.Maps.OwnSet
import Derived.DeepKeys4
import Derived.Maps.RangeWalk
import Derived.Test.YtekooapbdgippaaGreatDoorBk1
import Derived.Test.YtekooapbdgippaaGreatDoorBk2
import Derived.ProofKit
import Derived.Deep.Strs
import Derived.Lib.SmallJoins
import Derived.Test.YtekooapbdgippaaGreatDoorRows
import Derived.LaidMore
import Derived.OpenShut
import Derived.Stop.Joined
namespace Go.Proofs.YtekooapbdgippaaGreatDoor.Q
open Go.RowKit Go.Proofs.YtekooapbdgippaaGreatDoorW.PrintWords Go.Proofs.YtekooapbdgippaaGreatDoorW.PrintLast Go.Proofs.YtekooapbdgippaaGreatDoorW.PrintMore
open List renaming getElem_toArray → zA, getElem_cons_zero → zB, getElem_cons_succ → zC, setIfInBounds_toArray → zD, set_cons_zero → zE, set_cons_succ → zF
set_option linter.unusedVariables false
set_option linter.unusedSimpArgs false
set_option maxHeartbeats 8000000
set_option maxRecDepth 100000
section
open Go.WideMaps Go.Maps
attribute [local go_sem] Oper.semAt_some
theorem do_del (b : S26) (A2 A3 : Option Addr) (c2 c3 : Nat) (kd id n q : Int) (key data : ByteArray) (A : Option Addr) (ps : List S43) (c : Nat) (w : World) (h2 : Kd.C k56 w A2 b.f2.length b.f2) (g2 : b.f2.length ≤ c2) (h3 : Kd.C k101 w A3 b.f3.length b.f3) (g3 : b.f3.length ≤ c3) (hk : Int.tmod kd 9 = 2) :
  Calls Tryz.prog 23 #[.agg #[.string b.f0,.int .i64 b.f1,.slice A2 b.f2.length c2,.slice A3 b.f3.length c3,.int .u64 b.f4],.agg #[.int .u8 kd,.string key,.string data,.int .u64 id,.int .i64 n,.int .i64 q,.slice A ps.length c]] w (DoPost (laidR b key (fun l id=>deleteV l b.f1 id q)).1 (laidR b key (fun l id=>deleteV l b.f1 id q)).2.1 ⟨#[]⟩ (laidR b key (fun l id=>deleteV l b.f1 id q)).2.2 w):=by
 have HC:=zh (fun (W : World) (h : Below w.heap.size w W)=>delB.walk b A2 A3 c2 c3 key q W (Kd.C_below h2 h) g2 (Kd.C_below h3 h) g3)
 generalize laidR b key (fun l id=>deleteV l b.f1 id q) = r at *
 obtain ⟨kb,li,er⟩:=r
 have HB:=zh (Below.refl w.heap.size w)
 have kf : ∀ j : Int,(Int.tmod kd 9 == j) = ((2 : Int) == j):=fun j=>by rw [hk]
 have e0 : (Int.tmod kd 9 == 0) = false:=kf 0
 have e1 : (Int.tmod kd 9 == 1) = false:=kf 1
 have e2 : (Int.tmod kd 9 == 2) = true:=kf 2
 have e3 : (Int.tmod kd 9 == 3) = false:=kf 3
 have e4 : (Int.tmod kd 9 == 4) = false:=kf 4
 have e5 : (Int.tmod kd 9 == 5) = false:=kf 5
 have e6 : (Int.tmod kd 9 == 6) = false:=kf 6
 have e7 : (Int.tmod kd 9 == 7) = false:=kf 7
 clear h2 h3 g2 g3 kf hk
 go_enter Tryz.func23,Tryz.ntmps23
 go_wp2_with (first
  | ((with_reducible refine gate_dst (N:=2) rfl ?_);go_must (refine zx HB (N:=2) (cs:=#[.string b.f0,.int .i64 b.f1,.slice A2 b.f2.length c2,.slice A3 b.f3.length c3,.int .u64 b.f4]) (t:=26) ?hr ?_;(case hr=>first | (go_simp;done) | (go_simp;rfl));intro gb w1 Kgb Lgb HB hbelgb hqgb;clear hbelgb hqgb))
  | ((with_reducible refine gate_dst (N:=3) rfl ?_);go_must (refine zx HB (N:=3) (cs:=#[.int .u8 kd,.string key,.string data,.int .u64 id,.int .i64 n,.int .i64 q,.slice A ps.length c]) (t:=59) ?hr ?_;(case hr=>first | (go_simp;done) | (go_simp;rfl));intro ga w2 Kga Lga HB hbelga hqga;have M1:=zh (show gb < ga by rw [hqga];exact blk_lt Kgb.out);have Kgb:=zk Kgb hbelga;clear hbelga hqga))
  | ((with_reducible refine gate_dst (N:=4) rfl ?_);go_must (refine zx HB (N:=4) (cs:=#[.string ⟨#[]⟩,.int .i64 0,.slice none 0 0,.slice none 0 0,.int .u64 0,.int .u64 0,.string ⟨#[]⟩,.int .i64 0]) (t:=62) ?hr ?_;(case hr=>first | (go_simp;done) | (go_simp;rfl));intro go w3 Kgo Lgo HB hbelgo hqgo;have M2:=zh (show ga < go by rw [hqgo];exact blk_lt Kga.out);have Kgb:=zk Kgb hbelgo;have Kga:=zk Kga hbelgo;clear hbelgo hqgo))
  | ((with_reducible refine gate_dst (N:=5) rfl ?_);go_must (refine zx HB (N:=5) (cs:=#[.string ⟨#[]⟩,.int .i64 0,.slice none 0 0,.slice none 0 0,.int .u64 0,.int .u64 0,.string ⟨#[]⟩,.int .i64 0]) (t:=62) ?hr ?_;(case hr=>first | (go_simp;done) | (go_simp;rfl));intro gd w4 Kgd Lgd HB hbelgd hqgd;have M3:=zh (show go < gd by rw [hqgd];exact blk_lt Kgo.out);have Kgb:=zk Kgb hbelgd;have Kga:=zk Kga hbelgd;have Kgo:=zk Kgo hbelgd;clear hbelgd hqgd))
  | ((with_reducible refine gate_store (t:=62) (p:=5) (v:=.tmp 9) rfl ?_);go_must (refine zs 62 (.tmp 5) (.tmp 9) gd 0 62 [.string ⟨#[]⟩,.int .i64 0,.slice none 0 0,.slice none 0 0,.int .u64 0,.int .u64 0,.string ⟨#[]⟩,.int .i64 0] Kgd (by kernel_rfl) ?_;intro w5 hk ho;have Kgd : Hid (w5.heap[gd]? = some (.cells #[.string ⟨#[]⟩,.int .i64 0,.slice none 0 0,.slice none 0 0,.int .u64 0,.int .u64 0,.string ⟨#[]⟩,.int .i64 0] 62 (0,0))):=hk;have HB:=zo ho HB Lgd;have Kgb:=zl ho Kgb (by have:=M1.out;have:=M2.out;have:=M3.out;omega);have Kga:=zl ho Kga (by have:=M1.out;have:=M2.out;have:=M3.out;omega);have Kgo:=zl ho Kgo (by have:=M1.out;have:=M2.out;have:=M3.out;omega);obtain ⟨a0,a1,a2,a3,a4⟩:=zz5 Kgb.out;obtain ⟨b0,b1,b2,b3,b4,b5,b6⟩:=zz7 Kga.out;clear hk ho))
  | (go_at_call 39;go_must (refine (HC.out _ HB.out).mono ?_;rintro e w6 ⟨v,rfl,⟨A5,c5,A6,c6,rfl,y1,y2,y3,y4⟩,hb⟩;have Y3:=zh y3;have Y4:=zh y4;have HB:=keepB HB hb;have Kgo:=zk Kgo hb;have Kgd:=zk Kgd hb;clear hb y3 y4 a0 a1 a2 a3 a4 b0 b1 b2 b3 b4 b5 b6))
  | ((with_reducible refine gate_store (t:=26) (p:=60) (v:=.tmp 57) rfl ?_);go_must (refine zs 26 (.tmp 60) (.tmp 57) gd 0 62 [.string kb.f0,.int .i64 kb.f1,.slice A5 kb.f2.length c5,.slice A6 kb.f3.length c6,.int .u64 kb.f4] Kgd isz_bucket ?_;intro x0 hk ho;have Y3:=zh (didE Y3.out Kgd.out (did_like _ _ _ _ _ _ _ _ _ _ _ _) ho.out);have Y4:=zh (didU Y4.out Kgd.out (did_like _ _ _ _ _ _ _ _ _ _ _ _) ho.out);have Kgd : Hid (x0.heap[gd]? = some (.cells #[.string kb.f0,.int .i64 kb.f1,.slice A5 kb.f2.length c5,.slice A6 kb.f3.length c6,.int .u64 kb.f4,.int .u64 0,.string ⟨#[]⟩,.int .i64 0] 62 (0,0))):=hk;have HB:=zo ho HB Lgd;have Kgo:=zl ho Kgo (by have:=M3.out;omega);clear hk ho))
  | ((with_reducible refine gate_store (t:=24) (p:=61) (v:=.tmp 58) rfl ?_);go_must (refine zq 24 (.tmp 61) (.tmp 58) gd 5 62 (.int .u64 li) Kgd (by kernel_rfl) ?_;intro x1 hk ho;have Y3:=zh (didE Y3.out Kgd.out (did_like _ _ _ _ _ _ _ _ _ _ _ _) ho.out);have Y4:=zh (didU Y4.out Kgd.out (did_like _ _ _ _ _ _ _ _ _ _ _ _) ho.out);have Kgd : Hid (x1.heap[gd]? = some (.cells #[.string kb.f0,.int .i64 kb.f1,.slice A5 kb.f2.length c5,.slice A6 kb.f3.length c6,.int .u64 kb.f4,.int .u64 li,.string ⟨#[]⟩,.int .i64 0] 62 (0,0))):=hk;have HB:=zo ho HB Lgd;have Kgo:=zl ho Kgo (by have:=M3.out;omega);clear hk ho))
  | ((with_reducible refine gate_store (t:=30) (p:=62) (v:=.tmp 59) rfl ?_);go_must (refine zq 30 (.tmp 62) (.tmp 59) gd 7 62 (.int .i64 er) Kgd (by kernel_rfl) ?_;intro x2 hk ho;have Y3:=zh (didE Y3.out Kgd.out (did_like _ _ _ _ _ _ _ _ _ _ _ _) ho.out);have Y4:=zh (didU Y4.out Kgd.out (did_like _ _ _ _ _ _ _ _ _ _ _ _) ho.out);have Kgd : Hid (x2.heap[gd]? = some (.cells #[.string kb.f0,.int .i64 kb.f1,.slice A5 kb.f2.length c5,.slice A6 kb.f3.length c6,.int .u64 kb.f4,.int .u64 li,.string ⟨#[]⟩,.int .i64 er] 62 (0,0))):=hk;have HB:=zo ho HB Lgd;have Kgo:=zl ho Kgo (by have:=M3.out;omega);obtain ⟨d0,d1,d2,d3,d4,d5,d6,d7⟩:=zz8 Kgd.out;clear hk ho))
  | ((with_reducible refine gate_store (t:=62) (p:=4) (v:=.tmp 133) rfl ?_);go_must (refine zs 62 (.tmp 4) (.tmp 133) go 0 62 [.string kb.f0,.int .i64 kb.f1,.slice A5 kb.f2.length c5,.slice A6 kb.f3.length c6,.int .u64 kb.f4,.int .u64 li,.string ⟨#[]⟩,.int .i64 er] Kgo (by kernel_rfl) ?_;intro x9 hk ho;have Y3:=zh (didE Y3.out Kgo.out (did_like _ _ _ _ _ _ _ _ _ _ _ _) ho.out);have Y4:=zh (didU Y4.out Kgo.out (did_like _ _ _ _ _ _ _ _ _ _ _ _) ho.out);have HB:=zo ho HB Lgo;obtain ⟨z0,z1,z2,z3,z4,z5,z6,z7⟩:=zz8 hk.out;clear hk ho)))
 refine bodyPost_ret (v:=.agg #[.string kb.f0,.int .i64 kb.f1,.slice A5 kb.f2.length c5,.slice A6 kb.f3.length c6,.int .u64 kb.f4,.int .u64 li,.string ⟨#[]⟩,.int .i64 er]) (by simp [results,Tryz.results23,go_sem,z0,z1,z2,z3,z4,z5,z6,z7]) rfl ?_
 exact ⟨A5,c5,A6,c6,rfl,y1,y2,Y3.out,Y4.out,HB.out⟩
theorem do_drop (b : S26) (A2 A3 : Option Addr) (c2 c3 : Nat) (kd id n q : Int) (key data : ByteArray) (A : Option Addr) (ps : List S43) (c : Nat) (w : World) (h2 : Kd.C k56 w A2 b.f2.length b.f2) (g2 : b.f2.length ≤ c2) (h3 : Kd.C k101 w A3 b.f3.length b.f3) (g3 : b.f3.length ≤ c3) (hk : Int.tmod kd 9 = 3) :
  Calls Tryz.prog 23 #[.agg #[.string b.f0,.int .i64 b.f1,.slice A2 b.f2.length c2,.slice A3 b.f3.length c3,.int .u64 b.f4],.agg #[.int .u8 kd,.string key,.string data,.int .u64 id,.int .i64 n,.int .i64 q,.slice A ps.length c]] w (DoPost (dropB b key id).1 0 ⟨#[]⟩ (dropB b key id).2 w):=by
 have HC:=zh (fun (W : World) (h : Below w.heap.size w W)=>dropB.walk b A2 A3 c2 c3 key id W (Kd.C_below h2 h) g2 (Kd.C_below h3 h) g3)
 generalize dropB b key id = r at *
 obtain ⟨kb,er⟩:=r
 have HB:=zh (Below.refl w.heap.size w)
 have kf : ∀ j : Int,(Int.tmod kd 9 == j) = ((3 : Int) == j):=fun j=>by rw [hk]
 have e0 : (Int.tmod kd 9 == 0) = false:=kf 0
 have e1 : (Int.tmod kd 9 == 1) = false:=kf 1
 have e2 : (Int.tmod kd 9 == 2) = false:=kf 2
 have e3 : (Int.tmod kd 9 == 3) = true:=kf 3
 have e4 : (Int.tmod kd 9 == 4) = false:=kf 4
 have e5 : (Int.tmod kd 9 == 5) = false:=kf 5
 have e6 : (Int.tmod kd 9 == 6) = false:=kf 6
 have e7 : (Int.tmod kd 9 == 7) = false:=kf 7
 clear h2 h3 g2 g3 kf hk
 go_enter Tryz.func23,Tryz.ntmps23
 go_wp2_with (first
  | ((with_reducible refine gate_dst (N:=2) rfl ?_);go_must (refine zx HB (N:=2) (cs:=#[.string b.f0,.int .i64 b.f1,.slice A2 b.f2.length c2,.slice A3 b.f3.length c3,.int .u64 b.f4]) (t:=26) ?hr ?_;(case hr=>first | (go_simp;done) | (go_simp;rfl));intro gb w1 Kgb Lgb HB hbelgb hqgb;clear hbelgb hqgb))
  | ((with_reducible refine gate_dst (N:=3) rfl ?_);go_must (refine zx HB (N:=3) (cs:=#[.int .u8 kd,.string key,.string data,.int .u64 id,.int .i64 n,.int .i64 q,.slice A ps.length c]) (t:=59) ?hr ?_;(case hr=>first | (go_simp;done) | (go_simp;rfl));intro ga w2 Kga Lga HB hbelga hqga;have M1:=zh (show gb < ga by rw [hqga];exact blk_lt Kgb.out);have Kgb:=zk Kgb hbelga;clear hbelga hqga))
  | ((with_reducible refine gate_dst (N:=4) rfl ?_);go_must (refine zx HB (N:=4) (cs:=#[.string ⟨#[]⟩,.int .i64 0,.slice none 0 0,.slice none 0 0,.int .u64 0,.int .u64 0,.string ⟨#[]⟩,.int .i64 0]) (t:=62) ?hr ?_;(case hr=>first | (go_simp;done) | (go_simp;rfl));intro go w3 Kgo Lgo HB hbelgo hqgo;have M2:=zh (show ga < go by rw [hqgo];exact blk_lt Kga.out);have Kgb:=zk Kgb hbelgo;have Kga:=zk Kga hbelgo;clear hbelgo hqgo))
  | ((with_reducible refine gate_dst (N:=5) rfl ?_);go_must (refine zx HB (N:=5) (cs:=#[.string ⟨#[]⟩,.int .i64 0,.slice none 0 0,.slice none 0 0,.int .u64 0,.int .u64 0,.string ⟨#[]⟩,.int .i64 0]) (t:=62) ?hr ?_;(case hr=>first | (go_simp;done) | (go_simp;rfl));intro gd w4 Kgd Lgd HB hbelgd hqgd;have M3:=zh (show go < gd by rw [hqgd];exact blk_lt Kgo.out);have Kgb:=zk Kgb hbelgd;have Kga:=zk Kga hbelgd;have Kgo:=zk Kgo hbelgd;clear hbelgd hqgd))
  | ((with_reducible refine gate_store (t:=62) (p:=5) (v:=.tmp 9) rfl ?_);go_must (refine zs 62 (.tmp 5) (.tmp 9) gd 0 62 [.string ⟨#[]⟩,.int .i64 0,.slice none 0 0,.slice none 0 0,.int .u64 0,.int .u64 0,.string ⟨#[]⟩,.int .i64 0] Kgd (by kernel_rfl) ?_;intro w5 hk ho;have Kgd : Hid (w5.heap[gd]? = some (.cells #[.string ⟨#[]⟩,.int .i64 0,.slice none 0 0,.slice none 0 0,.int .u64 0,.int .u64 0,.string ⟨#[]⟩,.int .i64 0] 62 (0,0))):=hk;have HB:=zo ho HB Lgd;have Kgb:=zl ho Kgb (by have:=M1.out;have:=M2.out;have:=M3.out;omega);have Kga:=zl ho Kga (by have:=M1.out;have:=M2.out;have:=M3.out;omega);have Kgo:=zl ho Kgo (by have:=M1.out;have:=M2.out;have:=M3.out;omega);obtain ⟨a0,a1,a2,a3,a4⟩:=zz5 Kgb.out;obtain ⟨b0,b1,b2,b3,b4,b5,b6⟩:=zz7 Kga.out;clear hk ho))
  | (go_at_call 40;go_must (refine (HC.out _ HB.out).mono ?_;rintro e w6 ⟨v,rfl,⟨A5,c5,A6,c6,rfl,y1,y2,y3,y4⟩,hb⟩;have Y3:=zh y3;have Y4:=zh y4;have HB:=keepB HB hb;have Kgo:=zk Kgo hb;have Kgd:=zk Kgd hb;clear hb y3 y4 a0 a1 a2 a3 a4 b0 b1 b2 b3 b4 b5 b6))
  | ((with_reducible refine gate_store (t:=26) (p:=74) (v:=.tmp 72) rfl ?_);go_must (refine zs 26 (.tmp 74) (.tmp 72) gd 0 62 [.string kb.f0,.int .i64 kb.f1,.slice A5 kb.f2.length c5,.slice A6 kb.f3.length c6,.int .u64 kb.f4] Kgd isz_bucket ?_;intro x0 hk ho;have Y3:=zh (didE Y3.out Kgd.out (did_like _ _ _ _ _ _ _ _ _ _ _ _) ho.out);have Y4:=zh (didU Y4.out Kgd.out (did_like _ _ _ _ _ _ _ _ _ _ _ _) ho.out);have Kgd : Hid (x0.heap[gd]? = some (.cells #[.string kb.f0,.int .i64 kb.f1,.slice A5 kb.f2.length c5,.slice A6 kb.f3.length c6,.int .u64 kb.f4,.int .u64 0,.string ⟨#[]⟩,.int .i64 0] 62 (0,0))):=hk;have HB:=zo ho HB Lgd;have Kgo:=zl ho Kgo (by have:=M3.out;omega);clear hk ho))
  | ((with_reducible refine gate_store (t:=30) (p:=75) (v:=.tmp 73) rfl ?_);go_must (refine zq 30 (.tmp 75) (.tmp 73) gd 7 62 (.int .i64 er) Kgd (by kernel_rfl) ?_;intro x1 hk ho;have Y3:=zh (didE Y3.out Kgd.out (did_like _ _ _ _ _ _ _ _ _ _ _ _) ho.out);have Y4:=zh (didU Y4.out Kgd.out (did_like _ _ _ _ _ _ _ _ _ _ _ _) ho.out);have Kgd : Hid (x1.heap[gd]? = some (.cells #[.string kb.f0,.int .i64 kb.f1,.slice A5 kb.f2.length c5,.slice A6 kb.f3.length c6,.int .u64 kb.f4,.int .u64 0,.string ⟨#[]⟩,.int .i64 er] 62 (0,0))):=hk;have HB:=zo ho HB Lgd;have Kgo:=zl ho Kgo (by have:=M3.out;omega);obtain ⟨d0,d1,d2,d3,d4,d5,d6,d7⟩:=zz8 Kgd.out;clear hk ho))
  | ((with_reducible refine gate_store (t:=62) (p:=4) (v:=.tmp 133) rfl ?_);go_must (refine zs 62 (.tmp 4) (.tmp 133) go 0 62 [.string kb.f0,.int .i64 kb.f1,.slice A5 kb.f2.length c5,.slice A6 kb.f3.length c6,.int .u64 kb.f4,.int .u64 0,.string ⟨#[]⟩,.int .i64 er] Kgo (by kernel_rfl) ?_;intro x9 hk ho;have Y3:=zh (didE Y3.out Kgo.out (did_like _ _ _ _ _ _ _ _ _ _ _ _) ho.out);have Y4:=zh (didU Y4.out Kgo.out (did_like _ _ _ _ _ _ _ _ _ _ _ _) ho.out);have HB:=zo ho HB Lgo;obtain ⟨z0,z1,z2,z3,z4,z5,z6,z7⟩:=zz8 hk.out;clear hk ho)))
 refine bodyPost_ret (v:=.agg #[.string kb.f0,.int .i64 kb.f1,.slice A5 kb.f2.length c5,.slice A6 kb.f3.length c6,.int .u64 kb.f4,.int .u64 0,.string ⟨#[]⟩,.int .i64 er]) (by simp [results,Tryz.results23,go_sem,z0,z1,z2,z3,z4,z5,z6,z7]) rfl ?_
 exact ⟨A5,c5,A6,c6,rfl,y1,y2,Y3.out,Y4.out,HB.out⟩
theorem do_turn (b : S26) (A2 A3 : Option Addr) (c2 c3 : Nat) (kd id n q : Int) (key data : ByteArray) (A : Option Addr) (ps : List S43) (c : Nat) (w : World) (h2 : Kd.C k56 w A2 b.f2.length b.f2) (g2 : b.f2.length ≤ c2) (h3 : Kd.C k101 w A3 b.f3.length b.f3) (g3 : b.f3.length ≤ c3) (hk : Int.tmod kd 9 = 4) :
  Calls Tryz.prog 23 #[.agg #[.string b.f0,.int .i64 b.f1,.slice A2 b.f2.length c2,.slice A3 b.f3.length c3,.int .u64 b.f4],.agg #[.int .u8 kd,.string key,.string data,.int .u64 id,.int .i64 n,.int .i64 q,.slice A ps.length c]] w (DoPost (turnB b n).1 0 ⟨#[]⟩ (turnB b n).2 w):=by
 have HC:=zh (fun (W : World) (h : Below w.heap.size w W)=>turnB.walk b A2 A3 c2 c3 n W (Kd.C_below h2 h) g2 (Kd.C_below h3 h) g3)
 generalize turnB b n = r at *
 obtain ⟨kb,er⟩:=r
 have HB:=zh (Below.refl w.heap.size w)
 have kf : ∀ j : Int,(Int.tmod kd 9 == j) = ((4 : Int) == j):=fun j=>by rw [hk]
 have e0 : (Int.tmod kd 9 == 0) = false:=kf 0
 have e1 : (Int.tmod kd 9 == 1) = false:=kf 1
 have e2 : (Int.tmod kd 9 == 2) = false:=kf 2
 have e3 : (Int.tmod kd 9 == 3) = false:=kf 3
 have e4 : (Int.tmod kd 9 == 4) = true:=kf 4
 have e5 : (Int.tmod kd 9 == 5) = false:=kf 5
 have e6 : (Int.tmod kd 9 == 6) = false:=kf 6
 have e7 : (Int.tmod kd 9 == 7) = false:=kf 7
 clear h2 h3 g2 g3 kf hk
 go_enter Tryz.func23,Tryz.ntmps23
 go_wp2_with (first
  | ((with_reducible refine gate_dst (N:=2) rfl ?_);go_must (refine zx HB (N:=2) (cs:=#[.string b.f0,.int .i64 b.f1,.slice A2 b.f2.length c2,.slice A3 b.f3.length c3,.int .u64 b.f4]) (t:=26) ?hr ?_;(case hr=>first | (go_simp;done) | (go_simp;rfl));intro gb w1 Kgb Lgb HB hbelgb hqgb;clear hbelgb hqgb))
  | ((with_reducible refine gate_dst (N:=3) rfl ?_);go_must (refine zx HB (N:=3) (cs:=#[.int .u8 kd,.string key,.string data,.int .u64 id,.int .i64 n,.int .i64 q,.slice A ps.length c]) (t:=59) ?hr ?_;(case hr=>first | (go_simp;done) | (go_simp;rfl));intro ga w2 Kga Lga HB hbelga hqga;have M1:=zh (show gb < ga by rw [hqga];exact blk_lt Kgb.out);have Kgb:=zk Kgb hbelga;clear hbelga hqga))
  | ((with_reducible refine gate_dst (N:=4) rfl ?_);go_must (refine zx HB (N:=4) (cs:=#[.string ⟨#[]⟩,.int .i64 0,.slice none 0 0,.slice none 0 0,.int .u64 0,.int .u64 0,.string ⟨#[]⟩,.int .i64 0]) (t:=62) ?hr ?_;(case hr=>first | (go_simp;done) | (go_simp;rfl));intro go w3 Kgo Lgo HB hbelgo hqgo;have M2:=zh (show ga < go by rw [hqgo];exact blk_lt Kga.out);have Kgb:=zk Kgb hbelgo;have Kga:=zk Kga hbelgo;clear hbelgo hqgo))
  | ((with_reducible refine gate_dst (N:=5) rfl ?_);go_must (refine zx HB (N:=5) (cs:=#[.string ⟨#[]⟩,.int .i64 0,.slice none 0 0,.slice none 0 0,.int .u64 0,.int .u64 0,.string ⟨#[]⟩,.int .i64 0]) (t:=62) ?hr ?_;(case hr=>first | (go_simp;done) | (go_simp;rfl));intro gd w4 Kgd Lgd HB hbelgd hqgd;have M3:=zh (show go < gd by rw [hqgd];exact blk_lt Kgo.out);have Kgb:=zk Kgb hbelgd;have Kga:=zk Kga hbelgd;have Kgo:=zk Kgo hbelgd;clear hbelgd hqgd))
  | ((with_reducible refine gate_store (t:=62) (p:=5) (v:=.tmp 9) rfl ?_);go_must (refine zs 62 (.tmp 5) (.tmp 9) gd 0 62 [.string ⟨#[]⟩,.int .i64 0,.slice none 0 0,.slice none 0 0,.int .u64 0,.int .u64 0,.string ⟨#[]⟩,.int .i64 0] Kgd (by kernel_rfl) ?_;intro w5 hk ho;have Kgd : Hid (w5.heap[gd]? = some (.cells #[.string ⟨#[]⟩,.int .i64 0,.slice none 0 0,.slice none 0 0,.int .u64 0,.int .u64 0,.string ⟨#[]⟩,.int .i64 0] 62 (0,0))):=hk;have HB:=zo ho HB Lgd;have Kgb:=zl ho Kgb (by have:=M1.out;have:=M2.out;have:=M3.out;omega);have Kga:=zl ho Kga (by have:=M1.out;have:=M2.out;have:=M3.out;omega);have Kgo:=zl ho Kgo (by have:=M1.out;have:=M2.out;have:=M3.out;omega);obtain ⟨a0,a1,a2,a3,a4⟩:=zz5 Kgb.out;obtain ⟨b0,b1,b2,b3,b4,b5,b6⟩:=zz7 Kga.out;clear hk ho))
  | (go_at_call 27;go_must (refine (HC.out _ HB.out).mono ?_;rintro e w6 ⟨v,rfl,⟨A5,c5,A6,c6,rfl,y1,y2,y3,y4⟩,hb⟩;have Y3:=zh y3;have Y4:=zh y4;have HB:=keepB HB hb;have Kgo:=zk Kgo hb;have Kgd:=zk Kgd hb;clear hb y3 y4 a0 a1 a2 a3 a4 b0 b1 b2 b3 b4 b5 b6))
  | ((with_reducible refine gate_store (t:=26) (p:=85) (v:=.tmp 83) rfl ?_);go_must (refine zs 26 (.tmp 85) (.tmp 83) gd 0 62 [.string kb.f0,.int .i64 kb.f1,.slice A5 kb.f2.length c5,.slice A6 kb.f3.length c6,.int .u64 kb.f4] Kgd isz_bucket ?_;intro x0 hk ho;have Y3:=zh (didE Y3.out Kgd.out (did_like _ _ _ _ _ _ _ _ _ _ _ _) ho.out);have Y4:=zh (didU Y4.out Kgd.out (did_like _ _ _ _ _ _ _ _ _ _ _ _) ho.out);have Kgd : Hid (x0.heap[gd]? = some (.cells #[.string kb.f0,.int .i64 kb.f1,.slice A5 kb.f2.length c5,.slice A6 kb.f3.length c6,.int .u64 kb.f4,.int .u64 0,.string ⟨#[]⟩,.int .i64 0] 62 (0,0))):=hk;have HB:=zo ho HB Lgd;have Kgo:=zl ho Kgo (by have:=M3.out;omega);clear hk ho))
  | ((with_reducible refine gate_store (t:=30) (p:=86) (v:=.tmp 84) rfl ?_);go_must (refine zq 30 (.tmp 86) (.tmp 84) gd 7 62 (.int .i64 er) Kgd (by kernel_rfl) ?_;intro x1 hk ho;have Y3:=zh (didE Y3.out Kgd.out (did_like _ _ _ _ _ _ _ _ _ _ _ _) ho.out);have Y4:=zh (didU Y4.out Kgd.out (did_like _ _ _ _ _ _ _ _ _ _ _ _) ho.out);have Kgd : Hid (x1.heap[gd]? = some (.cells #[.string kb.f0,.int .i64 kb.f1,.slice A5 kb.f2.length c5,.slice A6 kb.f3.length c6,.int .u64 kb.f4,.int .u64 0,.string ⟨#[]⟩,.int .i64 er] 62 (0,0))):=hk;have HB:=zo ho HB Lgd;have Kgo:=zl ho Kgo (by have:=M3.out;omega);obtain ⟨d0,d1,d2,d3,d4,d5,d6,d7⟩:=zz8 Kgd.out;clear hk ho))
  | ((with_reducible refine gate_store (t:=62) (p:=4) (v:=.tmp 133) rfl ?_);go_must (refine zs 62 (.tmp 4) (.tmp 133) go 0 62 [.string kb.f0,.int .i64 kb.f1,.slice A5 kb.f2.length c5,.slice A6 kb.f3.length c6,.int .u64 kb.f4,.int .u64 0,.string ⟨#[]⟩,.int .i64 er] Kgo (by kernel_rfl) ?_;intro x9 hk ho;have Y3:=zh (didE Y3.out Kgo.out (did_like _ _ _ _ _ _ _ _ _ _ _ _) ho.out);have Y4:=zh (didU Y4.out Kgo.out (did_like _ _ _ _ _ _ _ _ _ _ _ _) ho.out);have HB:=zo ho HB Lgo;obtain ⟨z0,z1,z2,z3,z4,z5,z6,z7⟩:=zz8 hk.out;clear hk ho)))
 refine bodyPost_ret (v:=.agg #[.string kb.f0,.int .i64 kb.f1,.slice A5 kb.f2.length c5,.slice A6 kb.f3.length c6,.int .u64 kb.f4,.int .u64 0,.string ⟨#[]⟩,.int .i64 er]) (by simp [results,Tryz.results23,go_sem,z0,z1,z2,z3,z4,z5,z6,z7]) rfl ?_
 exact ⟨A5,c5,A6,c6,rfl,y1,y2,Y3.out,Y4.out,HB.out⟩
theorem do_begin (b : S26) (A2 A3 : Option Addr) (c2 c3 : Nat) (kd id n q : Int) (key data : ByteArray) (A : Option Addr) (ps : List S43) (c : Nat) (w : World) (h2 : Kd.C k56 w A2 b.f2.length b.f2) (g2 : b.f2.length ≤ c2) (h3 : Kd.C k101 w A3 b.f3.length b.f3) (g3 : b.f3.length ≤ c3) (hk : Int.tmod kd 9 = 5) :
  Calls Tryz.prog 23 #[.agg #[.string b.f0,.int .i64 b.f1,.slice A2 b.f2.length c2,.slice A3 b.f3.length c3,.int .u64 b.f4],.agg #[.int .u8 kd,.string key,.string data,.int .u64 id,.int .i64 n,.int .i64 q,.slice A ps.length c]] w (DoPost (beginB b key).1 (beginB b key).2.1 ⟨#[]⟩ (beginB b key).2.2 w):=by
 have HC:=zh (fun (W : World) (h : Below w.heap.size w W)=>beginB.walk b A2 A3 c2 c3 key W (Kd.C_below h2 h) g2 (Kd.C_below h3 h) g3)
 generalize beginB b key = r at *
 obtain ⟨kb,li,er⟩:=r
 have HB:=zh (Below.refl w.heap.size w)
 have kf : ∀ j : Int,(Int.tmod kd 9 == j) = ((5 : Int) == j):=fun j=>by rw [hk]
 have e0 : (Int.tmod kd 9 == 0) = false:=kf 0
 have e1 : (Int.tmod kd 9 == 1) = false:=kf 1
 have e2 : (Int.tmod kd 9 == 2) = false:=kf 2
 have e3 : (Int.tmod kd 9 == 3) = false:=kf 3
 have e4 : (Int.tmod kd 9 == 4) = false:=kf 4
 have e5 : (Int.tmod kd 9 == 5) = true:=kf 5
 have e6 : (Int.tmod kd 9 == 6) = false:=kf 6
 have e7 : (Int.tmod kd 9 == 7) = false:=kf 7
 clear h2 h3 g2 g3 kf hk
 go_enter Tryz.func23,Tryz.ntmps23
 go_wp2_with (first
  | ((with_reducible refine gate_dst (N:=2) rfl ?_);go_must (refine zx HB (N:=2) (cs:=#[.string b.f0,.int .i64 b.f1,.slice A2 b.f2.length c2,.slice A3 b.f3.length c3,.int .u64 b.f4]) (t:=26) ?hr ?_;(case hr=>first | (go_simp;done) | (go_simp;rfl));intro gb w1 Kgb Lgb HB hbelgb hqgb;clear hbelgb hqgb))
  | ((with_reducible refine gate_dst (N:=3) rfl ?_);go_must (refine zx HB (N:=3) (cs:=#[.int .u8 kd,.string key,.string data,.int .u64 id,.int .i64 n,.int .i64 q,.slice A ps.length c]) (t:=59) ?hr ?_;(case hr=>first | (go_simp;done) | (go_simp;rfl));intro ga w2 Kga Lga HB hbelga hqga;have M1:=zh (show gb < ga by rw [hqga];exact blk_lt Kgb.out);have Kgb:=zk Kgb hbelga;clear hbelga hqga))
  | ((with_reducible refine gate_dst (N:=4) rfl ?_);go_must (refine zx HB (N:=4) (cs:=#[.string ⟨#[]⟩,.int .i64 0,.slice none 0 0,.slice none 0 0,.int .u64 0,.int .u64 0,.string ⟨#[]⟩,.int .i64 0]) (t:=62) ?hr ?_;(case hr=>first | (go_simp;done) | (go_simp;rfl));intro go w3 Kgo Lgo HB hbelgo hqgo;have M2:=zh (show ga < go by rw [hqgo];exact blk_lt Kga.out);have Kgb:=zk Kgb hbelgo;have Kga:=zk Kga hbelgo;clear hbelgo hqgo))
  | ((with_reducible refine gate_dst (N:=5) rfl ?_);go_must (refine zx HB (N:=5) (cs:=#[.string ⟨#[]⟩,.int .i64 0,.slice none 0 0,.slice none 0 0,.int .u64 0,.int .u64 0,.string ⟨#[]⟩,.int .i64 0]) (t:=62) ?hr ?_;(case hr=>first | (go_simp;done) | (go_simp;rfl));intro gd w4 Kgd Lgd HB hbelgd hqgd;have M3:=zh (show go < gd by rw [hqgd];exact blk_lt Kgo.out);have Kgb:=zk Kgb hbelgd;have Kga:=zk Kga hbelgd;have Kgo:=zk Kgo hbelgd;clear hbelgd hqgd))
  | ((with_reducible refine gate_store (t:=62) (p:=5) (v:=.tmp 9) rfl ?_);go_must (refine zs 62 (.tmp 5) (.tmp 9) gd 0 62 [.string ⟨#[]⟩,.int .i64 0,.slice none 0 0,.slice none 0 0,.int .u64 0,.int .u64 0,.string ⟨#[]⟩,.int .i64 0] Kgd (by kernel_rfl) ?_;intro w5 hk ho;have Kgd : Hid (w5.heap[gd]? = some (.cells #[.string ⟨#[]⟩,.int .i64 0,.slice none 0 0,.slice none 0 0,.int .u64 0,.int .u64 0,.string ⟨#[]⟩,.int .i64 0] 62 (0,0))):=hk;have HB:=zo ho HB Lgd;have Kgb:=zl ho Kgb (by have:=M1.out;have:=M2.out;have:=M3.out;omega);have Kga:=zl ho Kga (by have:=M1.out;have:=M2.out;have:=M3.out;omega);have Kgo:=zl ho Kgo (by have:=M1.out;have:=M2.out;have:=M3.out;omega);obtain ⟨a0,a1,a2,a3,a4⟩:=zz5 Kgb.out;obtain ⟨b0,b1,b2,b3,b4,b5,b6⟩:=zz7 Kga.out;clear hk ho))
  | (go_at_call 12;go_must (refine (HC.out _ HB.out).mono ?_;rintro e w6 ⟨v,rfl,⟨A5,c5,A6,c6,rfl,y1,y2,y3,y4⟩,hb⟩;have Y3:=zh y3;have Y4:=zh y4;have HB:=keepB HB hb;have Kgo:=zk Kgo hb;have Kgd:=zk Kgd hb;clear hb y3 y4 a0 a1 a2 a3 a4 b0 b1 b2 b3 b4 b5 b6))
  | ((with_reducible refine gate_store (t:=26) (p:=97) (v:=.tmp 94) rfl ?_);go_must (refine zs 26 (.tmp 97) (.tmp 94) gd 0 62 [.string kb.f0,.int .i64 kb.f1,.slice A5 kb.f2.length c5,.slice A6 kb.f3.length c6,.int .u64 kb.f4] Kgd isz_bucket ?_;intro x0 hk ho;have Y3:=zh (didE Y3.out Kgd.out (did_like _ _ _ _ _ _ _ _ _ _ _ _) ho.out);have Y4:=zh (didU Y4.out Kgd.out (did_like _ _ _ _ _ _ _ _ _ _ _ _) ho.out);have Kgd : Hid (x0.heap[gd]? = some (.cells #[.string kb.f0,.int .i64 kb.f1,.slice A5 kb.f2.length c5,.slice A6 kb.f3.length c6,.int .u64 kb.f4,.int .u64 0,.string ⟨#[]⟩,.int .i64 0] 62 (0,0))):=hk;have HB:=zo ho HB Lgd;have Kgo:=zl ho Kgo (by have:=M3.out;omega);clear hk ho))
  | ((with_reducible refine gate_store (t:=24) (p:=98) (v:=.tmp 95) rfl ?_);go_must (refine zq 24 (.tmp 98) (.tmp 95) gd 5 62 (.int .u64 li) Kgd (by kernel_rfl) ?_;intro x1 hk ho;have Y3:=zh (didE Y3.out Kgd.out (did_like _ _ _ _ _ _ _ _ _ _ _ _) ho.out);have Y4:=zh (didU Y4.out Kgd.out (did_like _ _ _ _ _ _ _ _ _ _ _ _) ho.out);have Kgd : Hid (x1.heap[gd]? = some (.cells #[.string kb.f0,.int .i64 kb.f1,.slice A5 kb.f2.length c5,.slice A6 kb.f3.length c6,.int .u64 kb.f4,.int .u64 li,.string ⟨#[]⟩,.int .i64 0] 62 (0,0))):=hk;have HB:=zo ho HB Lgd;have Kgo:=zl ho Kgo (by have:=M3.out;omega);clear hk ho))
  | ((with_reducible refine gate_store (t:=30) (p:=99) (v:=.tmp 96) rfl ?_);go_must (refine zq 30 (.tmp 99) (.tmp 96) gd 7 62 (.int .i64 er) Kgd (by kernel_rfl) ?_;intro x2 hk ho;have Y3:=zh (didE Y3.out Kgd.out (did_like _ _ _ _ _ _ _ _ _ _ _ _) ho.out);have Y4:=zh (didU Y4.out Kgd.out (did_like _ _ _ _ _ _ _ _ _ _ _ _) ho.out);have Kgd : Hid (x2.heap[gd]? = some (.cells #[.string kb.f0,.int .i64 kb.f1,.slice A5 kb.f2.length c5,.slice A6 kb.f3.length c6,.int .u64 kb.f4,.int .u64 li,.string ⟨#[]⟩,.int .i64 er] 62 (0,0))):=hk;have HB:=zo ho HB Lgd;have Kgo:=zl ho Kgo (by have:=M3.out;omega);obtain ⟨d0,d1,d2,d3,d4,d5,d6,d7⟩:=zz8 Kgd.out;clear hk ho))
  | ((with_reducible refine gate_store (t:=62) (p:=4) (v:=.tmp 133) rfl ?_);go_must (refine zs 62 (.tmp 4) (.tmp 133) go 0 62 [.string kb.f0,.int .i64 kb.f1,.slice A5 kb.f2.length c5,.slice A6 kb.f3.length c6,.int .u64 kb.f4,.int .u64 li,.string ⟨#[]⟩,.int .i64 er] Kgo (by kernel_rfl) ?_;intro x9 hk ho;have Y3:=zh (didE Y3.out Kgo.out (did_like _ _ _ _ _ _ _ _ _ _ _ _) ho.out);have Y4:=zh (didU Y4.out Kgo.out (did_like _ _ _ _ _ _ _ _ _ _ _ _) ho.out);have HB:=zo ho HB Lgo;obtain ⟨z0,z1,z2,z3,z4,z5,z6,z7⟩:=zz8 hk.out;clear hk ho)))
 refine bodyPost_ret (v:=.agg #[.string kb.f0,.int .i64 kb.f1,.slice A5 kb.f2.length c5,.slice A6 kb.f3.length c6,.int .u64 kb.f4,.int .u64 li,.string ⟨#[]⟩,.int .i64 er]) (by simp [results,Tryz.results23,go_sem,z0,z1,z2,z3,z4,z5,z6,z7]) rfl ?_
 exact ⟨A5,c5,A6,c6,rfl,y1,y2,Y3.out,Y4.out,HB.out⟩
theorem do_abort (b : S26) (A2 A3 : Option Addr) (c2 c3 : Nat) (kd id n q : Int) (key data : ByteArray) (A : Option Addr) (ps : List S43) (c : Nat) (w : World) (h2 : Kd.C k56 w A2 b.f2.length b.f2) (g2 : b.f2.length ≤ c2) (h3 : Kd.C k101 w A3 b.f3.length b.f3) (g3 : b.f3.length ≤ c3) (hk : Int.tmod kd 9 = 7) :
  Calls Tryz.prog 23 #[.agg #[.string b.f0,.int .i64 b.f1,.slice A2 b.f2.length c2,.slice A3 b.f3.length c3,.int .u64 b.f4],.agg #[.int .u8 kd,.string key,.string data,.int .u64 id,.int .i64 n,.int .i64 q,.slice A ps.length c]] w (DoPost (abortB b id).1 0 ⟨#[]⟩ (abortB b id).2 w):=by
 have HC:=zh (fun (W : World) (h : Below w.heap.size w W)=>abortB.walk b A2 A3 c2 c3 id W (Kd.C_below h2 h) g2 (Kd.C_below h3 h) g3)
 generalize abortB b id = r at *
 obtain ⟨kb,er⟩:=r
 have HB:=zh (Below.refl w.heap.size w)
 have kf : ∀ j : Int,(Int.tmod kd 9 == j) = ((7 : Int) == j):=fun j=>by rw [hk]
 have e0 : (Int.tmod kd 9 == 0) = false:=kf 0
 have e1 : (Int.tmod kd 9 == 1) = false:=kf 1
 have e2 : (Int.tmod kd 9 == 2) = false:=kf 2
 have e3 : (Int.tmod kd 9 == 3) = false:=kf 3
 have e4 : (Int.tmod kd 9 == 4) = false:=kf 4
 have e5 : (Int.tmod kd 9 == 5) = false:=kf 5
 have e6 : (Int.tmod kd 9 == 6) = false:=kf 6
 have e7 : (Int.tmod kd 9 == 7) = true:=kf 7
 clear h2 h3 g2 g3 kf hk
 go_enter Tryz.func23,Tryz.ntmps23
 go_wp2_with (first
  | ((with_reducible refine gate_dst (N:=2) rfl ?_);go_must (refine zx HB (N:=2) (cs:=#[.string b.f0,.int .i64 b.f1,.slice A2 b.f2.length c2,.slice A3 b.f3.length c3,.int .u64 b.f4]) (t:=26) ?hr ?_;(case hr=>first | (go_simp;done) | (go_simp;rfl));intro gb w1 Kgb Lgb HB hbelgb hqgb;clear hbelgb hqgb))
  | ((with_reducible refine gate_dst (N:=3) rfl ?_);go_must (refine zx HB (N:=3) (cs:=#[.int .u8 kd,.string key,.string data,.int .u64 id,.int .i64 n,.int .i64 q,.slice A ps.length c]) (t:=59) ?hr ?_;(case hr=>first | (go_simp;done) | (go_simp;rfl));intro ga w2 Kga Lga HB hbelga hqga;have M1:=zh (show gb < ga by rw [hqga];exact blk_lt Kgb.out);have Kgb:=zk Kgb hbelga;clear hbelga hqga))
  | ((with_reducible refine gate_dst (N:=4) rfl ?_);go_must (refine zx HB (N:=4) (cs:=#[.string ⟨#[]⟩,.int .i64 0,.slice none 0 0,.slice none 0 0,.int .u64 0,.int .u64 0,.string ⟨#[]⟩,.int .i64 0]) (t:=62) ?hr ?_;(case hr=>first | (go_simp;done) | (go_simp;rfl));intro go w3 Kgo Lgo HB hbelgo hqgo;have M2:=zh (show ga < go by rw [hqgo];exact blk_lt Kga.out);have Kgb:=zk Kgb hbelgo;have Kga:=zk Kga hbelgo;clear hbelgo hqgo))
  | ((with_reducible refine gate_dst (N:=5) rfl ?_);go_must (refine zx HB (N:=5) (cs:=#[.string ⟨#[]⟩,.int .i64 0,.slice none 0 0,.slice none 0 0,.int .u64 0,.int .u64 0,.string ⟨#[]⟩,.int .i64 0]) (t:=62) ?hr ?_;(case hr=>first | (go_simp;done) | (go_simp;rfl));intro gd w4 Kgd Lgd HB hbelgd hqgd;have M3:=zh (show go < gd by rw [hqgd];exact blk_lt Kgo.out);have Kgb:=zk Kgb hbelgd;have Kga:=zk Kga hbelgd;have Kgo:=zk Kgo hbelgd;clear hbelgd hqgd))
  | ((with_reducible refine gate_store (t:=62) (p:=5) (v:=.tmp 9) rfl ?_);go_must (refine zs 62 (.tmp 5) (.tmp 9) gd 0 62 [.string ⟨#[]⟩,.int .i64 0,.slice none 0 0,.slice none 0 0,.int .u64 0,.int .u64 0,.string ⟨#[]⟩,.int .i64 0] Kgd (by kernel_rfl) ?_;intro w5 hk ho;have Kgd : Hid (w5.heap[gd]? = some (.cells #[.string ⟨#[]⟩,.int .i64 0,.slice none 0 0,.slice none 0 0,.int .u64 0,.int .u64 0,.string ⟨#[]⟩,.int .i64 0] 62 (0,0))):=hk;have HB:=zo ho HB Lgd;have Kgb:=zl ho Kgb (by have:=M1.out;have:=M2.out;have:=M3.out;omega);have Kga:=zl ho Kga (by have:=M1.out;have:=M2.out;have:=M3.out;omega);have Kgo:=zl ho Kgo (by have:=M1.out;have:=M2.out;have:=M3.out;omega);obtain ⟨a0,a1,a2,a3,a4⟩:=zz5 Kgb.out;obtain ⟨b0,b1,b2,b3,b4,b5,b6⟩:=zz7 Kga.out;clear hk ho))
  | (go_at_call 58;go_must (refine (HC.out _ HB.out).mono ?_;rintro e w6 ⟨v,rfl,⟨A5,c5,A6,c6,rfl,y1,y2,y3,y4⟩,hb⟩;have Y3:=zh y3;have Y4:=zh y4;have HB:=keepB HB hb;have Kgo:=zk Kgo hb;have Kgd:=zk Kgd hb;clear hb y3 y4 a0 a1 a2 a3 a4 b0 b1 b2 b3 b4 b5 b6))
  | ((with_reducible refine gate_store (t:=26) (p:=131) (v:=.tmp 129) rfl ?_);go_must (refine zs 26 (.tmp 131) (.tmp 129) gd 0 62 [.string kb.f0,.int .i64 kb.f1,.slice A5 kb.f2.length c5,.slice A6 kb.f3.length c6,.int .u64 kb.f4] Kgd isz_bucket ?_;intro x0 hk ho;have Y3:=zh (didE Y3.out Kgd.out (did_like _ _ _ _ _ _ _ _ _ _ _ _) ho.out);have Y4:=zh (didU Y4.out Kgd.out (did_like _ _ _ _ _ _ _ _ _ _ _ _) ho.out);have Kgd : Hid (x0.heap[gd]? = some (.cells #[.string kb.f0,.int .i64 kb.f1,.slice A5 kb.f2.length c5,.slice A6 kb.f3.length c6,.int .u64 kb.f4,.int .u64 0,.string ⟨#[]⟩,.int .i64 0] 62 (0,0))):=hk;have HB:=zo ho HB Lgd;have Kgo:=zl ho Kgo (by have:=M3.out;omega);clear hk ho))
  | ((with_reducible refine gate_store (t:=30) (p:=132) (v:=.tmp 130) rfl ?_);go_must (refine zq 30 (.tmp 132) (.tmp 130) gd 7 62 (.int .i64 er) Kgd (by kernel_rfl) ?_;intro x1 hk ho;have Y3:=zh (didE Y3.out Kgd.out (did_like _ _ _ _ _ _ _ _ _ _ _ _) ho.out);have Y4:=zh (didU Y4.out Kgd.out (did_like _ _ _ _ _ _ _ _ _ _ _ _) ho.out);have Kgd : Hid (x1.heap[gd]? = some (.cells #[.string kb.f0,.int .i64 kb.f1,.slice A5 kb.f2.length c5,.slice A6 kb.f3.length c6,.int .u64 kb.f4,.int .u64 0,.string ⟨#[]⟩,.int .i64 er] 62 (0,0))):=hk;have HB:=zo ho HB Lgd;have Kgo:=zl ho Kgo (by have:=M3.out;omega);obtain ⟨d0,d1,d2,d3,d4,d5,d6,d7⟩:=zz8 Kgd.out;clear hk ho))
  | ((with_reducible refine gate_store (t:=62) (p:=4) (v:=.tmp 133) rfl ?_);go_must (refine zs 62 (.tmp 4) (.tmp 133) go 0 62 [.string kb.f0,.int .i64 kb.f1,.slice A5 kb.f2.length c5,.slice A6 kb.f3.length c6,.int .u64 kb.f4,.int .u64 0,.string ⟨#[]⟩,.int .i64 er] Kgo (by kernel_rfl) ?_;intro x9 hk ho;have Y3:=zh (didE Y3.out Kgo.out (did_like _ _ _ _ _ _ _ _ _ _ _ _) ho.out);have Y4:=zh (didU Y4.out Kgo.out (did_like _ _ _ _ _ _ _ _ _ _ _ _) ho.out);have HB:=zo ho HB Lgo;obtain ⟨z0,z1,z2,z3,z4,z5,z6,z7⟩:=zz8 hk.out;clear hk ho)))
 refine bodyPost_ret (v:=.agg #[.string kb.f0,.int .i64 kb.f1,.slice A5 kb.f2.length c5,.slice A6 kb.f3.length c6,.int .u64 kb.f4,.int .u64 0,.string ⟨#[]⟩,.int .i64 er]) (by simp [results,Tryz.results23,go_sem,z0,z1,z2,z3,z4,z5,z6,z7]) rfl ?_
 exact ⟨A5,c5,A6,c6,rfl,y1,y2,Y3.out,Y4.out,HB.out⟩
end
section
open Go.WideMaps Go.Maps
attribute [local go_sem] Oper.semAt_some
theorem do_whole (b : S26) (A2 A3 : Option Addr) (c2 c3 : Nat) (kd id n q : Int) (key data : ByteArray) (A : Option Addr) (ps : List S43) (c : Nat) (w : World) (h2 : Kd.C k56 w A2 b.f2.length b.f2) (g2 : b.f2.length ≤ c2) (h3 : Kd.C k101 w A3 b.f3.length b.f3) (g3 : b.f3.length ≤ c3) (hl : ps.length < 100) (h4 : Kd.C k43 w A ps.length ps) (hk : ∀ j : Int,0 ≤ j → j < 8 → Int.tmod kd 9 ≠ j) :
  Calls Tryz.prog 23 #[.agg #[.string b.f0,.int .i64 b.f1,.slice A2 b.f2.length c2,.slice A3 b.f3.length c3,.int .u64 b.f4],.agg #[.int .u8 kd,.string key,.string data,.int .u64 id,.int .i64 n,.int .i64 q,.slice A ps.length c]] w (DoPost (wholeB b id ps q).1 (wholeB b id ps q).2.1 (wholeB b id ps q).2.2.1 (wholeB b id ps q).2.2.2 w):=by
 have HC:=zh (fun (W : World) (h : Below w.heap.size w W)=>wholeB.walk b A2 A3 c2 c3 id ps A c q W (Kd.C_below h2 h) g2 (Kd.C_below h3 h) g3 hl (Kd.C_below h4 h))
 generalize wholeB b id ps q = r at *
 obtain ⟨kb,li,tx,er⟩:=r
 have HB:=zh (Below.refl w.heap.size w)
 have e0 : (Int.tmod kd 9 == 0) = false:=beq_eq_false_iff_ne.2 (hk 0 (by decide) (by decide))
 have e1 : (Int.tmod kd 9 == 1) = false:=beq_eq_false_iff_ne.2 (hk 1 (by decide) (by decide))
 have e2 : (Int.tmod kd 9 == 2) = false:=beq_eq_false_iff_ne.2 (hk 2 (by decide) (by decide))
 have e3 : (Int.tmod kd 9 == 3) = false:=beq_eq_false_iff_ne.2 (hk 3 (by decide) (by decide))
 have e4 : (Int.tmod kd 9 == 4) = false:=beq_eq_false_iff_ne.2 (hk 4 (by decide) (by decide))
 have e5 : (Int.tmod kd 9 == 5) = false:=beq_eq_false_iff_ne.2 (hk 5 (by decide) (by decide))
 have e6 : (Int.tmod kd 9 == 6) = false:=beq_eq_false_iff_ne.2 (hk 6 (by decide) (by decide))
 have e7 : (Int.tmod kd 9 == 7) = false:=beq_eq_false_iff_ne.2 (hk 7 (by decide) (by decide))
 clear h2 h3 g2 g3 hk hl h4
 go_enter Tryz.func23,Tryz.ntmps23
 go_wp2_with (first
  | ((with_reducible refine gate_dst (N:=2) rfl ?_);go_must (refine zx HB (N:=2) (cs:=#[.string b.f0,.int .i64 b.f1,.slice A2 b.f2.length c2,.slice A3 b.f3.length c3,.int .u64 b.f4]) (t:=26) ?hr ?_;(case hr=>first | (go_simp;done) | (go_simp;rfl));intro gb w1 Kgb Lgb HB hbelgb hqgb;clear hbelgb hqgb))
  | ((with_reducible refine gate_dst (N:=3) rfl ?_);go_must (refine zx HB (N:=3) (cs:=#[.int .u8 kd,.string key,.string data,.int .u64 id,.int .i64 n,.int .i64 q,.slice A ps.length c]) (t:=59) ?hr ?_;(case hr=>first | (go_simp;done) | (go_simp;rfl));intro ga w2 Kga Lga HB hbelga hqga;have M1:=zh (show gb < ga by rw [hqga];exact blk_lt Kgb.out);have Kgb:=zk Kgb hbelga;clear hbelga hqga))
  | ((with_reducible refine gate_dst (N:=4) rfl ?_);go_must (refine zx HB (N:=4) (cs:=#[.string ⟨#[]⟩,.int .i64 0,.slice none 0 0,.slice none 0 0,.int .u64 0,.int .u64 0,.string ⟨#[]⟩,.int .i64 0]) (t:=62) ?hr ?_;(case hr=>first | (go_simp;done) | (go_simp;rfl));intro go w3 Kgo Lgo HB hbelgo hqgo;have M2:=zh (show ga < go by rw [hqgo];exact blk_lt Kga.out);have Kgb:=zk Kgb hbelgo;have Kga:=zk Kga hbelgo;clear hbelgo hqgo))
  | ((with_reducible refine gate_dst (N:=5) rfl ?_);go_must (refine zx HB (N:=5) (cs:=#[.string ⟨#[]⟩,.int .i64 0,.slice none 0 0,.slice none 0 0,.int .u64 0,.int .u64 0,.string ⟨#[]⟩,.int .i64 0]) (t:=62) ?hr ?_;(case hr=>first | (go_simp;done) | (go_simp;rfl));intro gd w4 Kgd Lgd HB hbelgd hqgd;have M3:=zh (show go < gd by rw [hqgd];exact blk_lt Kgo.out);have Kgb:=zk Kgb hbelgd;have Kga:=zk Kga hbelgd;have Kgo:=zk Kgo hbelgd;clear hbelgd hqgd))
  | ((with_reducible refine gate_store (t:=62) (p:=5) (v:=.tmp 9) rfl ?_);go_must (refine zs 62 (.tmp 5) (.tmp 9) gd 0 62 [.string ⟨#[]⟩,.int .i64 0,.slice none 0 0,.slice none 0 0,.int .u64 0,.int .u64 0,.string ⟨#[]⟩,.int .i64 0] Kgd (by kernel_rfl) ?_;intro w5 hk ho;have Kgd : Hid (w5.heap[gd]? = some (.cells #[.string ⟨#[]⟩,.int .i64 0,.slice none 0 0,.slice none 0 0,.int .u64 0,.int .u64 0,.string ⟨#[]⟩,.int .i64 0] 62 (0,0))):=hk;have HB:=zo ho HB Lgd;have Kgb:=zl ho Kgb (by have:=M1.out;have:=M2.out;have:=M3.out;omega);have Kga:=zl ho Kga (by have:=M1.out;have:=M2.out;have:=M3.out;omega);have Kgo:=zl ho Kgo (by have:=M1.out;have:=M2.out;have:=M3.out;omega);obtain ⟨a0,a1,a2,a3,a4⟩:=zz5 Kgb.out;obtain ⟨b0,b1,b2,b3,b4,b5,b6⟩:=zz7 Kga.out;clear hk ho))
  | (go_at_call 17;go_must (refine (HC.out _ HB.out).mono ?_;rintro e w6 ⟨v,rfl,⟨A5,c5,A6,c6,rfl,y1,y2,y3,y4⟩,hb⟩;have Y3:=zh y3;have Y4:=zh y4;have HB:=keepB HB hb;have Kgo:=zk Kgo hb;have Kgd:=zk Kgd hb;clear hb y3 y4 a0 a1 a2 a3 a4 b0 b1 b2 b3 b4 b5 b6))
  | ((with_reducible refine gate_store (t:=26) (p:=26) (v:=.tmp 22) rfl ?_);go_must (refine zs 26 (.tmp 26) (.tmp 22) gd 0 62 [.string kb.f0,.int .i64 kb.f1,.slice A5 kb.f2.length c5,.slice A6 kb.f3.length c6,.int .u64 kb.f4] Kgd isz_bucket ?_;intro x0 hk ho;have Y3:=zh (didE Y3.out Kgd.out (did_like _ _ _ _ _ _ _ _ _ _ _ _) ho.out);have Y4:=zh (didU Y4.out Kgd.out (did_like _ _ _ _ _ _ _ _ _ _ _ _) ho.out);have Kgd : Hid (x0.heap[gd]? = some (.cells #[.string kb.f0,.int .i64 kb.f1,.slice A5 kb.f2.length c5,.slice A6 kb.f3.length c6,.int .u64 kb.f4,.int .u64 0,.string ⟨#[]⟩,.int .i64 0] 62 (0,0))):=hk;have HB:=zo ho HB Lgd;have Kgo:=zl ho Kgo (by have:=M3.out;omega);clear hk ho))
  | ((with_reducible refine gate_store (t:=24) (p:=27) (v:=.tmp 23) rfl ?_);go_must (refine zq 24 (.tmp 27) (.tmp 23) gd 5 62 (.int .u64 li) Kgd (by kernel_rfl) ?_;intro x1 hk ho;have Y3:=zh (didE Y3.out Kgd.out (did_like _ _ _ _ _ _ _ _ _ _ _ _) ho.out);have Y4:=zh (didU Y4.out Kgd.out (did_like _ _ _ _ _ _ _ _ _ _ _ _) ho.out);have Kgd : Hid (x1.heap[gd]? = some (.cells #[.string kb.f0,.int .i64 kb.f1,.slice A5 kb.f2.length c5,.slice A6 kb.f3.length c6,.int .u64 kb.f4,.int .u64 li,.string ⟨#[]⟩,.int .i64 0] 62 (0,0))):=hk;have HB:=zo ho HB Lgd;have Kgo:=zl ho Kgo (by have:=M3.out;omega);clear hk ho))
  | ((with_reducible refine gate_store (t:=9) (p:=28) (v:=.tmp 24) rfl ?_);go_must (refine zq 9 (.tmp 28) (.tmp 24) gd 6 62 (.string tx) Kgd (by kernel_rfl) ?_;intro x2 hk ho;have Y3:=zh (didE Y3.out Kgd.out (did_like _ _ _ _ _ _ _ _ _ _ _ _) ho.out);have Y4:=zh (didU Y4.out Kgd.out (did_like _ _ _ _ _ _ _ _ _ _ _ _) ho.out);have Kgd : Hid (x2.heap[gd]? = some (.cells #[.string kb.f0,.int .i64 kb.f1,.slice A5 kb.f2.length c5,.slice A6 kb.f3.length c6,.int .u64 kb.f4,.int .u64 li,.string tx,.int .i64 0] 62 (0,0))):=hk;have HB:=zo ho HB Lgd;have Kgo:=zl ho Kgo (by have:=M3.out;omega);clear hk ho))
  | ((with_reducible refine gate_store (t:=30) (p:=29) (v:=.tmp 25) rfl ?_);go_must (refine zq 30 (.tmp 29) (.tmp 25) gd 7 62 (.int .i64 er) Kgd (by kernel_rfl) ?_;intro x3 hk ho;have Y3:=zh (didE Y3.out Kgd.out (did_like _ _ _ _ _ _ _ _ _ _ _ _) ho.out);have Y4:=zh (didU Y4.out Kgd.out (did_like _ _ _ _ _ _ _ _ _ _ _ _) ho.out);have Kgd : Hid (x3.heap[gd]? = some (.cells #[.string kb.f0,.int .i64 kb.f1,.slice A5 kb.f2.length c5,.slice A6 kb.f3.length c6,.int .u64 kb.f4,.int .u64 li,.string tx,.int .i64 er] 62 (0,0))):=hk;have HB:=zo ho HB Lgd;have Kgo:=zl ho Kgo (by have:=M3.out;omega);obtain ⟨d0,d1,d2,d3,d4,d5,d6,d7⟩:=zz8 Kgd.out;clear hk ho))
  | ((with_reducible refine gate_store (t:=62) (p:=4) (v:=.tmp 133) rfl ?_);go_must (refine zs 62 (.tmp 4) (.tmp 133) go 0 62 [.string kb.f0,.int .i64 kb.f1,.slice A5 kb.f2.length c5,.slice A6 kb.f3.length c6,.int .u64 kb.f4,.int .u64 li,.string tx,.int .i64 er] Kgo (by kernel_rfl) ?_;intro x9 hk ho;have Y3:=zh (didE Y3.out Kgo.out (did_like _ _ _ _ _ _ _ _ _ _ _ _) ho.out);have Y4:=zh (didU Y4.out Kgo.out (did_like _ _ _ _ _ _ _ _ _ _ _ _) ho.out);have HB:=zo ho HB Lgo;obtain ⟨z0,z1,z2,z3,z4,z5,z6,z7⟩:=zz8 hk.out;clear hk ho)))
 refine bodyPost_ret (v:=.agg #[.string kb.f0,.int .i64 kb.f1,.slice A5 kb.f2.length c5,.slice A6 kb.f3.length c6,.int .u64 kb.f4,.int .u64 li,.string tx,.int .i64 er]) (by simp [results,Tryz.results23,go_sem,z0,z1,z2,z3,z4,z5,z6,z7]) rfl ?_
 exact ⟨A5,c5,A6,c6,rfl,y1,y2,Y3.out,Y4.out,HB.out⟩
theorem do_lay (b : S26) (A2 A3 : Option Addr) (c2 c3 : Nat) (kd id n q : Int) (key data : ByteArray) (A : Option Addr) (ps : List S43) (c : Nat) (w : World) (h2 : Kd.C k56 w A2 b.f2.length b.f2) (g2 : b.f2.length ≤ c2) (h3 : Kd.C k101 w A3 b.f3.length b.f3) (g3 : b.f3.length ≤ c3) (hk : Int.tmod kd 9 = 6) :
  Calls Tryz.prog 23 #[.agg #[.string b.f0,.int .i64 b.f1,.slice A2 b.f2.length c2,.slice A3 b.f3.length c3,.int .u64 b.f4],.agg #[.int .u8 kd,.string key,.string data,.int .u64 id,.int .i64 n,.int .i64 q,.slice A ps.length c]] w (DoPost (layB b id ⟨n,data⟩).1 (IntKind.u64.wrap (layB b id ⟨n,data⟩).2.1) ⟨#[]⟩ (layB b id ⟨n,data⟩).2.2 w):=by
 have HC:=zh (fun (W : World) (h : Below w.heap.size w W)=>layB.walk b A2 A3 c2 c3 id ⟨n,data⟩ W (Kd.C_below h2 h) g2 (Kd.C_below h3 h) g3)
 generalize layB b id ⟨n,data⟩ = r at *
 obtain ⟨kb,li,er⟩:=r
 have HB:=zh (Below.refl w.heap.size w)
 have kf : ∀ j : Int,(Int.tmod kd 9 == j) = ((6 : Int) == j):=fun j=>by rw [hk]
 have e0 : (Int.tmod kd 9 == 0) = false:=kf 0
 have e1 : (Int.tmod kd 9 == 1) = false:=kf 1
 have e2 : (Int.tmod kd 9 == 2) = false:=kf 2
 have e3 : (Int.tmod kd 9 == 3) = false:=kf 3
 have e4 : (Int.tmod kd 9 == 4) = false:=kf 4
 have e5 : (Int.tmod kd 9 == 5) = false:=kf 5
 have e6 : (Int.tmod kd 9 == 6) = true:=kf 6
 have e7 : (Int.tmod kd 9 == 7) = false:=kf 7
 clear h2 h3 g2 g3 kf hk
 go_enter Tryz.func23,Tryz.ntmps23
 go_wp2_with (first
  | ((with_reducible refine gate_dst (N:=2) rfl ?_);go_must (refine zx HB (N:=2) (cs:=#[.string b.f0,.int .i64 b.f1,.slice A2 b.f2.length c2,.slice A3 b.f3.length c3,.int .u64 b.f4]) (t:=26) ?hr ?_;(case hr=>first | (go_simp;done) | (go_simp;rfl));intro gb w1 Kgb Lgb HB hbelgb hqgb;clear hbelgb hqgb))
  | ((with_reducible refine gate_dst (N:=3) rfl ?_);go_must (refine zx HB (N:=3) (cs:=#[.int .u8 kd,.string key,.string data,.int .u64 id,.int .i64 n,.int .i64 q,.slice A ps.length c]) (t:=59) ?hr ?_;(case hr=>first | (go_simp;done) | (go_simp;rfl));intro ga w2 Kga Lga HB hbelga hqga;have M1:=zh (show gb < ga by rw [hqga];exact blk_lt Kgb.out);have Kgb:=zk Kgb hbelga;clear hbelga hqga))
  | ((with_reducible refine gate_dst (N:=4) rfl ?_);go_must (refine zx HB (N:=4) (cs:=#[.string ⟨#[]⟩,.int .i64 0,.slice none 0 0,.slice none 0 0,.int .u64 0,.int .u64 0,.string ⟨#[]⟩,.int .i64 0]) (t:=62) ?hr ?_;(case hr=>first | (go_simp;done) | (go_simp;rfl));intro go w3 Kgo Lgo HB hbelgo hqgo;have M2:=zh (show ga < go by rw [hqgo];exact blk_lt Kga.out);have Kgb:=zk Kgb hbelgo;have Kga:=zk Kga hbelgo;clear hbelgo hqgo))
  | ((with_reducible refine gate_dst (N:=5) rfl ?_);go_must (refine zx HB (N:=5) (cs:=#[.string ⟨#[]⟩,.int .i64 0,.slice none 0 0,.slice none 0 0,.int .u64 0,.int .u64 0,.string ⟨#[]⟩,.int .i64 0]) (t:=62) ?hr ?_;(case hr=>first | (go_simp;done) | (go_simp;rfl));intro gd w4 Kgd Lgd HB hbelgd hqgd;have M3:=zh (show go < gd by rw [hqgd];exact blk_lt Kgo.out);have Kgb:=zk Kgb hbelgd;have Kga:=zk Kga hbelgd;have Kgo:=zk Kgo hbelgd;clear hbelgd hqgd))
  | ((with_reducible refine gate_store (t:=62) (p:=5) (v:=.tmp 9) rfl ?_);go_must (refine zs 62 (.tmp 5) (.tmp 9) gd 0 62 [.string ⟨#[]⟩,.int .i64 0,.slice none 0 0,.slice none 0 0,.int .u64 0,.int .u64 0,.string ⟨#[]⟩,.int .i64 0] Kgd (by kernel_rfl) ?_;intro w5 hk ho;have Kgd : Hid (w5.heap[gd]? = some (.cells #[.string ⟨#[]⟩,.int .i64 0,.slice none 0 0,.slice none 0 0,.int .u64 0,.int .u64 0,.string ⟨#[]⟩,.int .i64 0] 62 (0,0))):=hk;have HB:=zo ho HB Lgd;have Kgb:=zl ho Kgb (by have:=M1.out;have:=M2.out;have:=M3.out;omega);have Kga:=zl ho Kga (by have:=M1.out;have:=M2.out;have:=M3.out;omega);have Kgo:=zl ho Kgo (by have:=M1.out;have:=M2.out;have:=M3.out;omega);obtain ⟨a0,a1,a2,a3,a4⟩:=zz5 Kgb.out;obtain ⟨b0,b1,b2,b3,b4,b5,b6⟩:=zz7 Kga.out;clear hk ho))
  | (go_at_call 15;go_must (refine (HC.out _ HB.out).mono ?_;rintro e w6 ⟨v,rfl,⟨A5,c5,A6,c6,rfl,y1,y2,y3,y4⟩,hb⟩;have Y3:=zh y3;have Y4:=zh y4;have HB:=keepB HB hb;have Kgo:=zk Kgo hb;have Kgd:=zk Kgd hb;clear hb y3 y4 a0 a1 a2 a3 a4 b0 b1 b2 b3 b4 b5 b6))
  | ((with_reducible refine gate_dst (N:=6) rfl ?_);go_must (refine zx HB (N:=6) (cs:=#[.string ⟨#[]⟩,.int .i64 0,.slice none 0 0,.slice none 0 0,.int .u64 0]) (t:=26) ?hr ?_;(case hr=>first | (go_simp;done) | (go_simp;rfl));intro gx wx Kgx Lgx HB hbelgx hqgx;have M4:=zh (show gd < gx by rw [hqgx];exact blk_lt Kgd.out);have Kgo:=zk Kgo hbelgx;have Kgd:=zk Kgd hbelgx;have Y3:=zc Y3 hbelgx;have Y4:=zc Y4 hbelgx;clear hbelgx hqgx))
  | ((with_reducible refine gate_store (t:=26) (p:=6) (v:=.tmp 112) rfl ?_);go_must (refine zs 26 (.tmp 6) (.tmp 112) gx 0 26 [.string kb.f0,.int .i64 kb.f1,.slice A5 kb.f2.length c5,.slice A6 kb.f3.length c6,.int .u64 kb.f4] Kgx isz_bucket ?_;intro wy hk ho;have Y3:=zh (keepE Y3.out Kgx.out (bk_like _ _ _ _ _ _ _ _ _) ho.out);have Y4:=zh (keepU Y4.out Kgx.out (bk_like _ _ _ _ _ _ _ _ _) ho.out);have Kgx : Hid (wy.heap[gx]? = some (.cells #[.string kb.f0,.int .i64 kb.f1,.slice A5 kb.f2.length c5,.slice A6 kb.f3.length c6,.int .u64 kb.f4] 26 (0,0))):=hk;have HB:=zo ho HB Lgx;have Kgo:=zl ho Kgo (by have:=M3.out;have:=M4.out;omega);have Kgd:=zl ho Kgd (by have:=M3.out;have:=M4.out;omega);obtain ⟨f0,f1,f2,f3,f4⟩:=zz5 Kgx.out;clear hk ho))
  | ((with_reducible refine gate_store (t:=26) (p:=119) (v:=.tmp 115) rfl ?_);go_must (refine zs 26 (.tmp 119) (.tmp 115) gd 0 62 [.string kb.f0,.int .i64 kb.f1,.slice A5 kb.f2.length c5,.slice A6 kb.f3.length c6,.int .u64 kb.f4] Kgd isz_bucket ?_;intro x0 hk ho;have Y3:=zh (didE Y3.out Kgd.out (did_like _ _ _ _ _ _ _ _ _ _ _ _) ho.out);have Y4:=zh (didU Y4.out Kgd.out (did_like _ _ _ _ _ _ _ _ _ _ _ _) ho.out);have Kgd : Hid (x0.heap[gd]? = some (.cells #[.string kb.f0,.int .i64 kb.f1,.slice A5 kb.f2.length c5,.slice A6 kb.f3.length c6,.int .u64 kb.f4,.int .u64 0,.string ⟨#[]⟩,.int .i64 0] 62 (0,0))):=hk;have HB:=zo ho HB Lgd;have Kgo:=zl ho Kgo (by have:=M3.out;omega);clear hk ho))
  | ((with_reducible refine gate_store (t:=24) (p:=120) (v:=.tmp 117) rfl ?_);go_must (refine zq 24 (.tmp 120) (.tmp 117) gd 5 62 (.int .u64 (IntKind.u64.wrap li)) Kgd (by kernel_rfl) ?_;intro x1 hk ho;have Y3:=zh (didE Y3.out Kgd.out (did_like _ _ _ _ _ _ _ _ _ _ _ _) ho.out);have Y4:=zh (didU Y4.out Kgd.out (did_like _ _ _ _ _ _ _ _ _ _ _ _) ho.out);have Kgd : Hid (x1.heap[gd]? = some (.cells #[.string kb.f0,.int .i64 kb.f1,.slice A5 kb.f2.length c5,.slice A6 kb.f3.length c6,.int .u64 kb.f4,.int .u64 (IntKind.u64.wrap li),.string ⟨#[]⟩,.int .i64 0] 62 (0,0))):=hk;have HB:=zo ho HB Lgd;have Kgo:=zl ho Kgo (by have:=M3.out;omega);clear hk ho))
  | ((with_reducible refine gate_store (t:=30) (p:=121) (v:=.tmp 118) rfl ?_);go_must (refine zq 30 (.tmp 121) (.tmp 118) gd 7 62 (.int .i64 er) Kgd (by kernel_rfl) ?_;intro x2 hk ho;have Y3:=zh (didE Y3.out Kgd.out (did_like _ _ _ _ _ _ _ _ _ _ _ _) ho.out);have Y4:=zh (didU Y4.out Kgd.out (did_like _ _ _ _ _ _ _ _ _ _ _ _) ho.out);have Kgd : Hid (x2.heap[gd]? = some (.cells #[.string kb.f0,.int .i64 kb.f1,.slice A5 kb.f2.length c5,.slice A6 kb.f3.length c6,.int .u64 kb.f4,.int .u64 (IntKind.u64.wrap li),.string ⟨#[]⟩,.int .i64 er] 62 (0,0))):=hk;have HB:=zo ho HB Lgd;have Kgo:=zl ho Kgo (by have:=M3.out;omega);obtain ⟨d0,d1,d2,d3,d4,d5,d6,d7⟩:=zz8 Kgd.out;clear hk ho))
  | ((with_reducible refine gate_store (t:=62) (p:=4) (v:=.tmp 133) rfl ?_);go_must (refine zs 62 (.tmp 4) (.tmp 133) go 0 62 [.string kb.f0,.int .i64 kb.f1,.slice A5 kb.f2.length c5,.slice A6 kb.f3.length c6,.int .u64 kb.f4,.int .u64 (IntKind.u64.wrap li),.string ⟨#[]⟩,.int .i64 er] Kgo (by kernel_rfl) ?_;intro x9 hk ho;have Y3:=zh (didE Y3.out Kgo.out (did_like _ _ _ _ _ _ _ _ _ _ _ _) ho.out);have Y4:=zh (didU Y4.out Kgo.out (did_like _ _ _ _ _ _ _ _ _ _ _ _) ho.out);have HB:=zo ho HB Lgo;obtain ⟨z0,z1,z2,z3,z4,z5,z6,z7⟩:=zz8 hk.out;clear hk ho)))
 refine bodyPost_ret (v:=.agg #[.string kb.f0,.int .i64 kb.f1,.slice A5 kb.f2.length c5,.slice A6 kb.f3.length c6,.int .u64 kb.f4,.int .u64 (IntKind.u64.wrap li),.string ⟨#[]⟩,.int .i64 er]) (by simp [results,Tryz.results23,go_sem,z0,z1,z2,z3,z4,z5,z6,z7]) rfl ?_
 exact ⟨A5,c5,A6,c6,rfl,y1,y2,Y3.out,Y4.out,HB.out⟩
end
section
open Go.WideMaps Go.Maps
attribute [local go_sem] Oper.semAt_some
structure Did where
 b : S26
 id : Int
 tg : ByteArray
 er : Int
structure Act where
 kd : Int
 key : ByteArray
 data : ByteArray
 id : Int
 n : Int
 q : Int
 ps : List S43
def d3 (r : S26 × Int × Int) : Did:=⟨r.1,r.2.1,⟨#[]⟩,r.2.2⟩
def d2 (r : S26 × Int) : Did:=⟨r.1,0,⟨#[]⟩,r.2⟩
def doR (b : S26) (a : Act) : Did :=
 if Int.tmod a.kd 9 = 0 then d3 (laidR b a.key (fun l id=>putV l b.f1 ⟨id,a.data,false,a.q⟩))
 else if Int.tmod a.kd 9 = 1 then d3 (laidR b a.key (fun l id=>putV l b.f1 ⟨id,a.data,false,a.q⟩))
 else if Int.tmod a.kd 9 = 2 then d3 (laidR b a.key (fun l id=>deleteV l b.f1 id a.q))
 else if Int.tmod a.kd 9 = 3 then d2 (dropB b a.key a.id)
 else if Int.tmod a.kd 9 = 4 then d2 (turnB b a.n)
 else if Int.tmod a.kd 9 = 5 then d3 (beginB b a.key)
 else if Int.tmod a.kd 9 = 6 then ⟨(layB b a.id ⟨a.n,a.data⟩).1,IntKind.u64.wrap (layB b a.id ⟨a.n,a.data⟩).2.1,⟨#[]⟩,(layB b a.id ⟨a.n,a.data⟩).2.2⟩
 else if Int.tmod a.kd 9 = 7 then d2 (abortB b a.id)
 else ⟨(wholeB b a.id a.ps a.q).1,(wholeB b a.id a.ps a.q).2.1,(wholeB b a.id a.ps a.q).2.2.1,(wholeB b a.id a.ps a.q).2.2.2⟩
theorem do.walk (b : S26) (A2 A3 : Option Addr) (c2 c3 : Nat) (a : Act) (A : Option Addr) (c : Nat) (w : World) (h2 : Kd.C k56 w A2 b.f2.length b.f2) (g2 : b.f2.length ≤ c2) (h3 : Kd.C k101 w A3 b.f3.length b.f3) (g3 : b.f3.length ≤ c3) (hl : a.ps.length < 100) (h4 : Kd.C k43 w A a.ps.length a.ps) :
  Calls Tryz.prog 23 #[.agg #[.string b.f0,.int .i64 b.f1,.slice A2 b.f2.length c2,.slice A3 b.f3.length c3,.int .u64 b.f4],.agg #[.int .u8 a.kd,.string a.key,.string a.data,.int .u64 a.id,.int .i64 a.n,.int .i64 a.q,.slice A a.ps.length c]] w (DoPost (doR b a).b (doR b a).id (doR b a).tg (doR b a).er w):=by
 obtain ⟨kd,key,data,id,n,q,ps⟩:=a
 unfold doR
 by_cases k0 : Int.tmod kd 9 = 0
 ·rw [if_pos k0];exact do_put0 b A2 A3 c2 c3 kd id n q key data A ps c w h2 g2 h3 g3 k0
 rw [if_neg k0]
 by_cases k1 : Int.tmod kd 9 = 1
 ·rw [if_pos k1];exact do_put1 b A2 A3 c2 c3 kd id n q key data A ps c w h2 g2 h3 g3 k1
 rw [if_neg k1]
 by_cases k2 : Int.tmod kd 9 = 2
 ·rw [if_pos k2];exact do_del b A2 A3 c2 c3 kd id n q key data A ps c w h2 g2 h3 g3 k2
 rw [if_neg k2]
 by_cases k3 : Int.tmod kd 9 = 3
 ·rw [if_pos k3];exact do_drop b A2 A3 c2 c3 kd id n q key data A ps c w h2 g2 h3 g3 k3
 rw [if_neg k3]
 by_cases k4 : Int.tmod kd 9 = 4
 ·rw [if_pos k4];exact do_turn b A2 A3 c2 c3 kd id n q key data A ps c w h2 g2 h3 g3 k4
 rw [if_neg k4]
 by_cases k5 : Int.tmod kd 9 = 5
 ·rw [if_pos k5];exact do_begin b A2 A3 c2 c3 kd id n q key data A ps c w h2 g2 h3 g3 k5
 rw [if_neg k5]
 by_cases k6 : Int.tmod kd 9 = 6
 ·rw [if_pos k6];exact do_lay b A2 A3 c2 c3 kd id n q key data A ps c w h2 g2 h3 g3 k6
 rw [if_neg k6]
 by_cases k7 : Int.tmod kd 9 = 7
 ·rw [if_pos k7];exact do_abort b A2 A3 c2 c3 kd id n q key data A ps c w h2 g2 h3 g3 k7
 rw [if_neg k7]
 refine do_whole b A2 A3 c2 c3 kd id n q key data A ps c w h2 g2 h3 g3 hl h4 (fun j h0 h8=>?_)
 have : j = 0 ∨ j = 1 ∨ j = 2 ∨ j = 3 ∨ j = 4 ∨ j = 5 ∨ j = 6 ∨ j = 7:=by omega
 rcases this with h | h | h | h | h | h | h | h <;> subst h <;> assumption
end
section
open Go.WideMaps Go.Maps
theorem putV_ok {l : List S47} {st : Int} {x : S47} (h : (putV l st x).2 = 0) :
  chainB l = true ∧ 0 ≤ st ∧ st ≤ 2 ∧ mayV x = true ∧ (0 < l.length → (l.headD z47).f3 ≤ x.f3) ∧ (st = 1 → x.f0 ≠ 0) ∧ (putV l st x).1 = (if st = 1 then x :: l else ⟨0,x.f1,x.f2,x.f3⟩ :: delV 0 l) ∧ (putV l st x).1.length ≤ 20:=by
 unfold putV at h ⊢
 by_cases h1 : chainB l = false ∨ ¬ (0 ≤ st ∧ st ≤ 2) ∨ mayV x = false ∨ (0 < l.length ∧ x.f3 < (l.headD z47).f3)
 ·rw [if_pos h1] at h;cases h
 ·rw [if_neg h1] at h ⊢
  by_cases h2 : (layV st l x).2 ≠ 0
  ·rw [if_pos h2] at h;exact absurd h h2
  ·rw [if_neg h2] at h ⊢
   by_cases h3 : 20 < (layV st l x).1.length
   ·rw [if_pos h3] at h;cases h
   ·rw [if_neg h3]
    have q1 : chainB l = true:=bool_no (fun c=>h1 (Or.inl c))
    have q2 : 0 ≤ st ∧ st ≤ 2:=Decidable.byContradiction (fun c=>h1 (Or.inr (Or.inl c)))
    have q3 : mayV x = true:=bool_no (fun c=>h1 (Or.inr (Or.inr (Or.inl c))))
    refine ⟨q1,q2.1,q2.2,q3,fun hl=>?_,fun hs=>?_,?_,Nat.le_of_not_lt h3⟩
    ·exact Int.not_lt.1 (fun c=>h1 (Or.inr (Or.inr (Or.inr ⟨hl,c⟩))))
    ·intro c
     apply h2
     unfold layV
     rw [if_pos hs,if_pos (by rw [c];rfl)]
     exact (by decide : (1 : Int) ≠ 0)
    ·unfold layV at h2 ⊢
     by_cases hs : st = 1
     ·rw [if_pos hs] at h2
      rw [if_pos hs,if_pos hs]
      by_cases h0 : (x.f0 == 0) = true
      ·rw [if_pos h0] at h2;exact absurd (by decide) h2
      ·rw [if_neg h0] at h2
       rw [if_neg h0]
       by_cases h9 : l.any (geB x.f0) = true
       ·rw [if_pos h9] at h2;exact absurd (by decide) h2
       ·rw [if_neg h9]
     ·rw [if_neg hs,if_neg hs]
theorem dropV_ok {l : List S47} {id : Int} (h : (dropV l id).2 = 0) : chainB l = true ∧ hasId l id = true ∧ (dropV l id).1 = delV id l:=by
 unfold dropV at h ⊢
 by_cases h1 : chainB l = false
 ·rw [if_pos h1] at h;cases h
 ·rw [if_neg h1] at h ⊢
  by_cases h2 : hasId l id = false
  ·rw [if_pos h2] at h;cases h
  ·rw [if_neg h2];exact ⟨bool_no h1,bool_no h2,rfl⟩
theorem delV_mem {id : Int} {l : List S47} {v : S47} (h : v ∈ delV id l) : v ∈ l:=(List.mem_filter.1 h).1
/-- what an act of the first four kinds makes of its key's versions -/
def actC (st : Int) (a : Act) (l : List S47) (id : Int) : List S47 × Int :=
 if Int.tmod a.kd 9 = 2 then deleteV l st id a.q else if Int.tmod a.kd 9 = 3 then dropV l a.id else putV l st ⟨id,a.data,false,a.q⟩
theorem actC_mem {st : Int} {a : Act} {l : List S47} {id : Int} (h : (actC st a l id).2 = 0) : ∀ v ∈ (actC st a l id).1,v ∈ l ∨ v.f0 = 0 ∨ (st = 1 ∧ Int.tmod a.kd 9 ≠ 3 ∧ v.f0 = id):=by
 have hput : ∀ x : S47,(st = 1 → x.f0 = id) → (putV l st x).2 = 0 → ∀ v ∈ (putV l st x).1,v ∈ l ∨ v.f0 = 0 ∨ (st = 1 ∧ v.f0 = id):=by
  intro x hx hp v hv
  obtain ⟨_,_,_,_,_,_,e,_⟩:=putV_ok hp
  rw [e] at hv
  by_cases hs : st = 1
  ·rw [if_pos hs] at hv
   rcases List.mem_cons.1 hv with rfl | hv
   ·exact Or.inr (Or.inr ⟨hs,hx hs⟩)
   ·exact Or.inl hv
  ·rw [if_neg hs] at hv
   rcases List.mem_cons.1 hv with rfl | hv
   ·exact Or.inr (Or.inl rfl)
   ·exact Or.inl (delV_mem hv)
 intro v hv
 unfold actC at h hv
 by_cases h2 : Int.tmod a.kd 9 = 2
 ·rw [if_pos h2] at h hv
  unfold deleteV at h hv
  by_cases hs : st = 0
  ·rw [if_pos hs] at h hv
   rw [(dropV_ok h).2.2] at hv
   exact Or.inl (delV_mem hv)
  ·rw [if_neg hs] at h hv
   rcases hput _ (fun e=>if_neg (by omega)) h v hv with x | x | x
   ·exact Or.inl x
   ·exact Or.inr (Or.inl x)
   ·exact Or.inr (Or.inr ⟨x.1,by omega,x.2⟩)
 ·rw [if_neg h2] at h hv
  by_cases h3 : Int.tmod a.kd 9 = 3
  ·rw [if_pos h3] at h hv
   rw [(dropV_ok h).2.2] at hv
   exact Or.inl (delV_mem hv)
  ·rw [if_neg h3] at h hv
   rcases hput _ (fun _=>rfl) h v hv with x | x | x
   ·exact Or.inl x
   ·exact Or.inr (Or.inl x)
   ·exact Or.inr (Or.inr ⟨x.1,h3,x.2⟩)
/-- the bucket that an act of the first four kinds makes, where it goes -/
def actB (b : S26) (a : Act) : S26:=⟨b.f0,b.f1,putL b.f2 a.key (actC b.f1 a (getE b.f2 a.key) (idR b)).1,b.f3,if Int.tmod a.kd 9 = 3 then b.f4 else lastR b⟩
theorem do4_ok {b : S26} {a : Act} (h0 : 0 ≤ Int.tmod a.kd 9) (h4 : Int.tmod a.kd 9 < 4) (h : (doR b a).er = 0) :
  bucketB b = true ∧ keyB a.key = true ∧ (actC b.f1 a (getE b.f2 a.key) (idR b)).2 = 0 ∧ chainB (actC b.f1 a (getE b.f2 a.key) (idR b)).1 = true ∧
  (putL b.f2 a.key (actC b.f1 a (getE b.f2 a.key) (idR b)).1).length ≤ 60 ∧ octB (putL b.f2 a.key (actC b.f1 a (getE b.f2 a.key) (idR b)).1) b.f3 ≤ 20000 ∧
  (Int.tmod a.kd 9 < 3 → b.f1 = 1 → b.f4 < 281474976710655) ∧ doR b a = ⟨actB b a,if Int.tmod a.kd 9 = 3 then 0 else idR b,⟨#[]⟩,0⟩:=by
 by_cases k3 : Int.tmod a.kd 9 = 3
 ·have e : doR b a = d2 (dropB b a.key a.id):=by
   unfold doR
   rw [if_neg (by omega),if_neg (by omega),if_neg (by omega),if_pos k3]
  rw [e] at h ⊢
  have ea : actC b.f1 a (getE b.f2 a.key) (idR b) = dropV (getE b.f2 a.key) a.id:=by
   unfold actC
   rw [if_neg (by omega),if_pos k3]
  unfold actB
  rw [ea,if_pos k3,if_pos k3]
  obtain ⟨q1,q2,q3,q4,q5,q6,q7⟩:=dropB_ok h
  exact ⟨q1,q2,q3,q4,q5,q6,fun x=>by omega,by rw [q7];rfl⟩
 ·have e : doR b a = d3 (laidR b a.key (actC b.f1 a)):=by
   have ea : (actC b.f1 a) = if Int.tmod a.kd 9 = 2 then (fun l id=>deleteV l b.f1 id a.q) else (fun l id=>putV l b.f1 ⟨id,a.data,false,a.q⟩):=by
    funext l id
    unfold actC
    by_cases k2 : Int.tmod a.kd 9 = 2
    ·rw [if_pos k2,if_pos k2]
    ·rw [if_neg k2,if_neg k3,if_neg k2]
   rw [ea]
   unfold doR
   by_cases k0 : Int.tmod a.kd 9 = 0
   ·rw [if_pos k0,if_neg (by omega)]
   ·rw [if_neg k0]
    by_cases k1 : Int.tmod a.kd 9 = 1
    ·rw [if_pos k1,if_neg (by omega)]
    ·rw [if_neg k1,if_pos (by omega),if_pos (by omega)]
  rw [e] at h ⊢
  unfold actB
  rw [if_neg k3,if_neg k3]
  obtain ⟨q1,q2,q3,q4,q5,q6,q7,q8⟩:=laid_ok (f:=actC b.f1 a) h
  exact ⟨q1,q2,q3,q4,q5,q6,fun _=>q7,by rw [q8];rfl⟩
theorem do4_no {b : S26} {a : Act} (h0 : 0 ≤ Int.tmod a.kd 9) (h4 : Int.tmod a.kd 9 < 4) (h : (doR b a).er ≠ 0) : (doR b a).b = b ∧ (doR b a).id = 0:=by
 unfold doR at h ⊢
 by_cases k0 : Int.tmod a.kd 9 = 0
 ·rw [if_pos k0] at h ⊢;exact laid_no h
 rw [if_neg k0] at h ⊢
 by_cases k1 : Int.tmod a.kd 9 = 1
 ·rw [if_pos k1] at h ⊢;exact laid_no h
 rw [if_neg k1] at h ⊢
 by_cases k2 : Int.tmod a.kd 9 = 2
 ·rw [if_pos k2] at h ⊢;exact laid_no h
 rw [if_neg k2,if_pos (by omega)] at h ⊢
 exact ⟨dropB_no h,rfl⟩
theorem chain_get {l : List S56} (h : indexB l = true) (key : ByteArray) : chainB (getE l key) = true:=by
 rcases getE_or key l with ⟨x,hx,_,e⟩ | ⟨_,e⟩
 ·rw [e];exact (index_mem h x hx).2.2
 ·rw [e];rfl
theorem bucket_ix {b : S26} (h : bucketB b = true) : SE b.f2 ∧ indexB b.f2 = true:=⟨((index_iff _).1 (bucket_at h).2.1).2.1,(bucket_at h).2.1⟩
theorem near_get {b : S26} (h : bucketB b = true) (key : ByteArray) : ∀ v ∈ getE b.f2 key,v.f0 ≤ b.f4 ∧ (b.f1 = 0 → v.f0 = 0):=by
 intro v hv
 rcases getE_or key b.f2 with ⟨x,hx,_,e⟩ | ⟨_,e⟩
 ·rw [e] at hv
  have h1:=List.all_eq_true.1 (bucket_at h).2.2.2.2.1 x hx
  unfold nearB at h1
  rw [Bool.not_eq_true',List.any_eq_false] at h1
  have h2:=h1 v hv
  unfold farB at h2
  simp only [Bool.or_eq_true,decide_eq_true_eq,Bool.and_eq_true,beq_iff_eq,Bool.not_eq_true',beq_eq_false_iff_ne,ne_eq,not_or,not_and,Decidable.not_not] at h2
  exact ⟨by omega,fun c=>h2.2 c⟩
 ·rw [e] at hv;cases hv
theorem put_bucket {b : S26} (hb : bucketB b = true) {key : ByteArray} {c : List S47} {L : Int} (hk : keyB key = true) (hc : chainB c = true) (hl : (putL b.f2 key c).length ≤ 60) (ho : octB (putL b.f2 key c) b.f3 ≤ 20000) (h1 : b.f4 ≤ L) (h2 : L ≤ 281474976710655) (hv : ∀ v ∈ c,v.f0 ≤ L ∧ (b.f1 = 0 → v.f0 = 0)) :
  bucketB (⟨b.f0,b.f1,putL b.f2 key c,b.f3,L⟩ : S26) = true:=by
 obtain ⟨q1,q2,q3,q4,q5,q6⟩:=bucket_at hb
 obtain ⟨i1,i2,i3⟩:=(index_iff _).1 q2
 unfold bucketB
 simp only [Bool.and_eq_true,decide_eq_true_eq,Bool.not_eq_true']
 refine ⟨?_,(index_iff _).2 ⟨hl,putL_SE key c i2,fun x hx=>?_⟩,q3,ho,List.all_eq_true.2 (fun x hx=>?_),?_⟩
 ·unfold headB at q1 ⊢
  simp only [Bool.and_eq_true,decide_eq_true_eq] at q1 ⊢
  exact ⟨q1.1,q1.2.1,q1.2.2.1,h2⟩
 ·rcases (putL_mem i2).1 hx with ⟨x1,_⟩ | ⟨x1,rfl⟩
  ·exact i3 x x1
  ·exact ⟨hk,x1,hc⟩
 ·unfold nearB
  rw [Bool.not_eq_true',List.any_eq_false]
  intro v hvx
  have hn : v.f0 ≤ L ∧ (b.f1 = 0 → v.f0 = 0):=by
   rcases (putL_mem i2).1 hx with ⟨x1,_⟩ | ⟨x1,rfl⟩
   ·have e:=getE_mem i2 x1
    rw [← e] at hvx
    have:=near_get hb _ v hvx
    exact ⟨by omega,this.2⟩
   ·exact hv v hvx
  unfold farB
  simp only [Bool.or_eq_true,decide_eq_true_eq,Bool.and_eq_true,beq_iff_eq,Bool.not_eq_true',beq_eq_false_iff_ne,ne_eq,not_or,not_and,Decidable.not_not]
  exact ⟨by omega,hn.2⟩
 ·rw [List.any_eq_false] at q6 ⊢
  intro u hu
  have:=q6 u hu
  unfold updB at this ⊢
  rw [decide_eq_true_eq] at this ⊢
  omega
theorem last_le {b : S26} (hb : bucketB b = true) (h4 : 0 ≤ b.f4) (hl : b.f1 = 1 → b.f4 < 281474976710655) : b.f4 ≤ lastR b ∧ lastR b ≤ 281474976710655 ∧ (b.f1 = 1 → lastR b = b.f4 + 1) ∧ (b.f1 ≠ 1 → lastR b = b.f4) ∧ (b.f1 = 1 → idR b = b.f4 + 1) ∧ (b.f1 ≠ 1 → idR b = 0):=by
 have hm : b.f4 ≤ 281474976710655:=by
  have:=(bucket_at hb).1
  unfold headB at this
  simp only [Bool.and_eq_true,decide_eq_true_eq] at this
  exact this.2.2.2
 unfold lastR idR
 by_cases h : b.f1 = 1
 ·rw [if_pos h,if_pos h,wrap_le h4 hm]
  have:=hl h
  exact ⟨by omega,by omega,fun _=>rfl,fun c=>absurd h c,fun _=>rfl,fun c=>absurd h c⟩
 ·rw [if_neg h,if_neg h]
  exact ⟨Int.le_refl _,hm,fun c=>absurd c h,fun _=>rfl,fun c=>absurd c h,fun _=>rfl⟩
theorem act_bucket {b : S26} {a : Act} (h4 : 0 ≤ b.f4) (k0 : 0 ≤ Int.tmod a.kd 9) (k4 : Int.tmod a.kd 9 < 4) (h : (doR b a).er = 0) : bucketB (actB b a) = true ∧ b.f4 ≤ (actB b a).f4:=by
 obtain ⟨q1,q2,q3,q4,q5,q6,q7,q8⟩:=do4_ok k0 k4 h
 have hm:=actC_mem q3
 unfold actB
 by_cases k3 : Int.tmod a.kd 9 = 3
 ·rw [if_pos k3]
  have hh:=(bucket_at q1).1
  unfold headB at hh
  simp only [Bool.and_eq_true,decide_eq_true_eq] at hh
  refine ⟨put_bucket q1 q2 q4 q5 q6 (Int.le_refl _) hh.2.2.2 (fun v hv=>?_),Int.le_refl _⟩
  rcases hm v hv with x | x | x
  ·exact near_get q1 _ v x
  ·exact ⟨by omega,fun _=>x⟩
  ·exact absurd k3 x.2.1
 ·rw [if_neg k3]
  obtain ⟨l1,l2,l3,l4,l5,l6⟩:=last_le q1 h4 (q7 (by omega))
  refine ⟨put_bucket q1 q2 q4 q5 q6 l1 l2 (fun v hv=>?_),l1⟩
  rcases hm v hv with x | x | x
  ·have:=near_get q1 _ v x
   exact ⟨by omega,this.2⟩
  ·exact ⟨by omega,fun _=>x⟩
  ·rw [x.2.2,l5 x.1,l3 x.1]
   exact ⟨Int.le_refl _,fun c=>by omega⟩
end
section
open Go.WideMaps Go.Maps
def StepOK (b : S26) (x : Did) (six : Bool) : Prop :=
 bucketB x.b = true ∧ b.f4 ≤ x.b.f4 ∧ (x.er ≠ 0 → x.b = b) ∧ (x.er = 0 → six = false → x.id ≠ 0 → x.id = b.f4 + 1 ∧ x.b.f4 = b.f4 + 1)
theorem step_no {b : S26} {x : Did} {six : Bool} (hb : bucketB b = true) (he : x.er ≠ 0) (h : x.b = b) : StepOK b x six :=
 ⟨by rw [h];exact hb,by rw [h];exact Int.le_refl _,fun _=>h,fun c=>absurd c he⟩
theorem head_le {b : S26} (hb : bucketB b = true) : b.f4 ≤ 281474976710655 ∧ 0 ≤ b.f1 ∧ b.f1 ≤ 2:=by
 have:=(bucket_at hb).1
 unfold headB at this
 simp only [Bool.and_eq_true,decide_eq_true_eq] at this
 exact ⟨this.2.2.2,this.2.1,this.2.2.1⟩
theorem upd_le {b : S26} (hb : bucketB b = true) : ∀ u ∈ b.f3,u.f0 ≤ b.f4:=by
 intro u hu
 have:=List.any_eq_false.1 (bucket_at hb).2.2.2.2.2 u hu
 unfold updB at this
 rw [decide_eq_true_eq] at this
 omega
theorem upl_bucket {b : S26} (hb : bucketB b = true) {U : List S101} {L : Int} (hU : checkB U = true) (ho : octB b.f2 U ≤ 20000) (h1 : b.f4 ≤ L) (h2 : L ≤ 281474976710655) (hu : ∀ u ∈ U,u.f0 ≤ L) :
  bucketB (⟨b.f0,b.f1,b.f2,U,L⟩ : S26) = true:=by
 obtain ⟨q1,q2,q3,q4,q5,q6⟩:=bucket_at hb
 unfold bucketB
 simp only [Bool.and_eq_true,decide_eq_true_eq,Bool.not_eq_true']
 refine ⟨?_,q2,hU,ho,List.all_eq_true.2 (fun x hx=>?_),?_⟩
 ·unfold headB at q1 ⊢
  simp only [Bool.and_eq_true,decide_eq_true_eq] at q1 ⊢
  exact ⟨q1.1,q1.2.1,q1.2.2.1,h2⟩
 ·have h:=List.all_eq_true.1 q5 x hx
  unfold nearB at h ⊢
  rw [Bool.not_eq_true',List.any_eq_false] at h ⊢
  intro v hv
  have:=h v hv
  unfold farB at this ⊢
  simp only [Bool.or_eq_true,decide_eq_true_eq,Bool.and_eq_true,beq_iff_eq,Bool.not_eq_true',beq_eq_false_iff_ne,ne_eq,not_or,not_and,Decidable.not_not] at this ⊢
  exact ⟨by omega,this.2⟩
 ·rw [List.any_eq_false]
  intro u hu'
  have:=hu u hu'
  unfold updB
  rw [decide_eq_true_eq]
  omega
theorem turn_step {b : S26} (hb : bucketB b = true) (st : Int) (six : Bool) : StepOK b (d2 (turnB b st)) six:=by
 unfold turnB
 by_cases h1 : bucketB b = false ∨ st < 0 ∨ 2 < st
 ·rw [if_pos h1];exact step_no hb (by decide : (1 : Int) ≠ 0) rfl
 ·rw [if_neg h1]
  by_cases h2 : st = 0 ∧ b.f1 ≠ 0
  ·rw [if_pos h2];exact step_no hb (by decide : (8 : Int) ≠ 0) rfl
  ·rw [if_neg h2]
   refine ⟨?_,Int.le_refl _,fun c=>absurd rfl c,fun _ _ c=>absurd rfl c⟩
   obtain ⟨q1,q2,q3,q4,q5,q6⟩:=bucket_at hb
   show bucketB (⟨b.f0,st,b.f2,b.f3,b.f4⟩ : S26) = true
   unfold bucketB
   simp only [Bool.and_eq_true,decide_eq_true_eq,Bool.not_eq_true']
   refine ⟨?_,q2,q3,q4,List.all_eq_true.2 (fun x hx=>?_),q6⟩
   ·unfold headB at q1 ⊢
    simp only [Bool.and_eq_true,decide_eq_true_eq] at q1 ⊢
    exact ⟨q1.1,by omega,by omega,q1.2.2.2⟩
   ·have h:=List.all_eq_true.1 q5 x hx
    unfold nearB at h ⊢
    rw [Bool.not_eq_true',List.any_eq_false] at h ⊢
    intro v hv
    have:=h v hv
    unfold farB at this ⊢
    simp only [Bool.or_eq_true,decide_eq_true_eq,Bool.and_eq_true,beq_iff_eq,Bool.not_eq_true',beq_eq_false_iff_ne,ne_eq,not_or,not_and,Decidable.not_not] at this ⊢
    refine ⟨this.1,fun c=>this.2 ?_⟩
    exact Decidable.byContradiction (fun e=>h2 ⟨c,e⟩)
theorem begin_step {b : S26} (hb : bucketB b = true) (h4 : 0 ≤ b.f4) (key : ByteArray) (six : Bool) : StepOK b (d3 (beginB b key)) six:=by
 have hm:=(head_le hb).1
 unfold beginB
 simp only
 rw [wrap_le h4 hm]
 generalize hq : beginQ b key (b.f4 + 1) (noR (decide (281474976710655 ≤ b.f4)) 6 (openR b key)) = q
 by_cases hc : (closeR b q.1 q.2).2 = 0
 ·rw [if_pos hc]
  obtain ⟨e1,e2,e3⟩:=closeR_ok hc
  unfold beginQ at hq
  by_cases hn : noR (decide (281474976710655 ≤ b.f4)) 6 (openR b key) = 0
  ·rw [if_pos hn] at hq
   subst hq
   simp only at e1 e2 e3 ⊢
   rw [hn] at e1
   have hr:=(noR_ok e1).1
   obtain ⟨c1,c2,c3⟩:=begin_check hr
   have hlt : b.f4 < 281474976710655:=by
    unfold noR at hn
    by_cases hd : 281474976710655 ≤ b.f4
    ·rw [decide_eq_true hd] at hn
     by_cases h0 : openR b key = 0
     ·rw [if_pos ⟨rfl,h0⟩] at hn;cases hn
     ·rw [if_neg (fun c=>h0 c.2)] at hn;exact absurd hn h0
    ·omega
   rw [e3]
   refine ⟨upl_bucket hb c1 e2 (by omega) (by omega) (fun u hu=>?_),(by omega : b.f4 ≤ b.f4 + 1),fun c=>absurd rfl c,fun _ _ _=>⟨rfl,rfl⟩⟩
   rw [c2] at hu
   rcases List.mem_append.1 hu with x | x
   ·have:=upd_le hb u x;omega
   ·rw [List.mem_singleton.1 x];exact Int.le_refl _
  ·rw [if_neg hn] at hq
   subst hq
   exact absurd e1 hn
 ·rw [if_neg hc];exact step_no hb hc rfl
theorem abort_step {b : S26} (hb : bucketB b = true) (id : Int) (six : Bool) : StepOK b (d2 (abortB b id)) six:=by
 unfold abortB
 by_cases hc : (closeR b (⟨b.f0,b.f1,b.f2,(abortR b.f3 id).1,b.f4⟩ : S26) (noR (!((abortR b.f3 id).2 == 0)) (abortR b.f3 id).2 (openR b anyK))).2 = 0
 ·obtain ⟨e1,e2,e3⟩:=closeR_ok hc
  have hr:=(noR_ok e1).1
  obtain ⟨c1,c2,i,c3,c4⟩:=abort_check hr
  rw [e3]
  refine ⟨upl_bucket hb c1 e2 (Int.le_refl _) (head_le hb).1 (fun u hu=>?_),Int.le_refl _,fun c=>absurd rfl c,fun _ _ c=>absurd rfl c⟩
  rw [c4] at hu
  unfold delL at hu
  rcases List.mem_append.1 hu with x | x
  ·exact upd_le hb u (List.mem_of_mem_take x)
  ·exact upd_le hb u (List.mem_of_mem_drop x)
 ·exact step_no hb hc (closeR_no hc)
theorem lay_mem {l : List S101} {id : Int} {p : S40} (h : (layR l id p).2.2 = 0) : ∀ u ∈ (layR l id p).1,∃ v ∈ l,v.f0 = u.f0:=by
 unfold layR at h ⊢
 by_cases h1 : checkB l = false ∨ mayB p = false
 ·rw [if_pos h1] at h;cases h
 ·rw [if_neg h1] at h ⊢
  cases hp : posU l id with
  | none=>rw [hp] at h;cases h
  | some i =>
   rw [hp] at h
   simp only at h ⊢
   by_cases h2 : thereP (l.getD i z101).f2 p.f0 = false ∧ (l.getD i z101).f2.length = 30
   ·rw [if_pos h2] at h;cases h
   ·rw [if_neg h2]
    intro u hu
    unfold posU at hp
    have hi : i < l.length:=by
     rw [List.findIdx?_eq_some_iff_getElem] at hp
     exact hp.1
    rcases List.mem_or_eq_of_mem_set hu with x | x
    ·exact ⟨u,x,rfl⟩
    ·refine ⟨l[i],List.getElem_mem hi,?_⟩
     rw [x,getD_at l i _ hi]
theorem lay_step {b : S26} (hb : bucketB b = true) (id : Int) (p : S40) (T : Int) :
  StepOK b ⟨(layB b id p).1,T,⟨#[]⟩,(layB b id p).2.2⟩ true:=by
 unfold layB
 simp only
 by_cases hc : (closeR b (⟨b.f0,b.f1,b.f2,(layR b.f3 id p).1,b.f4⟩ : S26) (noR (!((layR b.f3 id p).2.2 == 0)) (layR b.f3 id p).2.2 (openR b anyK))).2 = 0
 ·rw [if_pos hc]
  obtain ⟨e1,e2,e3⟩:=closeR_ok hc
  have hr:=(noR_ok e1).1
  rw [e3]
  refine ⟨upl_bucket hb (lay_check hr).1 e2 (Int.le_refl _) (head_le hb).1 (fun u hu=>?_),Int.le_refl _,fun c=>absurd rfl c,fun _ c=>by cases c⟩
  obtain ⟨v,hv,e⟩:=lay_mem hr u hu
  rw [← e]
  exact upd_le hb v hv
 ·rw [if_neg hc];exact step_no hb hc rfl
/-- what Whole does: the upload goes, then Put -/
def wholeAct (b : S26) (id : Int) (ps : List S43) (q : Int) : Act:=⟨0,(findR b.f3 id).1.f1,(wholeR (findR b.f3 id).1 ps).1,0,0,q,[]⟩
def gone (b : S26) (id : Int) : S26:=⟨b.f0,b.f1,b.f2,(abortR b.f3 id).1,b.f4⟩
theorem whole_ok {b : S26} {id : Int} {ps : List S43} {q : Int} (h : (wholeB b id ps q).2.2.2 = 0) :
  bucketB b = true ∧ (findR b.f3 id).2 = 0 ∧ (wholeR (findR b.f3 id).1 ps).2.2 = 0 ∧ (doR (gone b id) (wholeAct b id ps q)).er = 0 ∧
  wholeB b id ps q = ((doR (gone b id) (wholeAct b id ps q)).b,(doR (gone b id) (wholeAct b id ps q)).id,(wholeR (findR b.f3 id).1 ps).2.1,0):=by
 have e : doR (gone b id) (wholeAct b id ps q) = d3 (laidR ⟨b.f0,b.f1,b.f2,(abortR b.f3 id).1,b.f4⟩ (findR b.f3 id).1.f1 (fun l n=>putV l b.f1 ⟨n,(wholeR (findR b.f3 id).1 ps).1,false,q⟩)):=by
  unfold doR wholeAct gone
  show (if Int.tmod (0 : Int) 9 = 0 then _ else _) = _
  rw [if_pos (by decide)]
 rw [e]
 unfold wholeB at h ⊢
 simp only at h ⊢
 by_cases hn : noR (!((wholeR (findR b.f3 id).1 ps).2.2 == 0)) (wholeR (findR b.f3 id).1 ps).2.2 (noR (!((findR b.f3 id).2 == 0)) (findR b.f3 id).2 (openR b anyK)) = 0
 ·rw [if_pos hn] at h ⊢
  have n1:=noR_ok hn
  have n2:=noR_ok n1.2
  by_cases hp : (laidR (⟨b.f0,b.f1,b.f2,(abortR b.f3 id).1,b.f4⟩ : S26) (findR b.f3 id).1.f1 (fun l n=>putV l b.f1 ⟨n,(wholeR (findR b.f3 id).1 ps).1,false,q⟩)).2.2 = 0
  ·rw [if_pos hp]
   exact ⟨(open_0 n2.2).1,n2.1,n1.1,hp,rfl⟩
  ·rw [if_neg hp] at h;exact absurd h hp
 ·rw [if_neg hn] at h;exact absurd h hn
theorem whole_no {b : S26} {id : Int} {ps : List S43} {q : Int} (h : (wholeB b id ps q).2.2.2 ≠ 0) : (wholeB b id ps q).1 = b ∧ (wholeB b id ps q).2.1 = 0:=by
 unfold wholeB at h ⊢
 simp only at h ⊢
 split
 ·rename_i hn
  rw [if_pos hn] at h
  split
  ·rename_i hp
   rw [if_pos hp] at h
   exact absurd rfl h
  ·exact ⟨rfl,rfl⟩
 ·exact ⟨rfl,rfl⟩
theorem act_step {b : S26} {a : Act} (hb : bucketB b = true) (h4 : 0 ≤ b.f4) (k0 : 0 ≤ Int.tmod a.kd 9) (k4 : Int.tmod a.kd 9 < 4) (six : Bool) : StepOK b (doR b a) six:=by
 by_cases he : (doR b a).er = 0
 ·obtain ⟨q1,q2,q3,q4,q5,q6,q7,q8⟩:=do4_ok k0 k4 he
  have hx:=act_bucket h4 k0 k4 he
  rw [q8]
  refine ⟨hx.1,hx.2,fun c=>absurd rfl c,fun _ _ hi=>?_⟩
  unfold actB
  simp only at hi ⊢
  by_cases k3 : Int.tmod a.kd 9 = 3
  ·rw [if_pos k3] at hi;exact absurd rfl hi
  ·rw [if_neg k3] at hi
   rw [if_neg k3,if_neg k3]
   obtain ⟨l1,l2,l3,l4,l5,l6⟩:=last_le q1 h4 (q7 (by omega))
   by_cases h1 : b.f1 = 1
   ·exact ⟨l5 h1,l3 h1⟩
   ·exact absurd (l6 h1) hi
 ·exact step_no hb he (do4_no k0 k4 he).1
theorem whole_step {b : S26} (hb : bucketB b = true) (h4 : 0 ≤ b.f4) (id : Int) (ps : List S43) (q : Int) (six : Bool) : StepOK b ⟨(wholeB b id ps q).1,(wholeB b id ps q).2.1,(wholeB b id ps q).2.2.1,(wholeB b id ps q).2.2.2⟩ six:=by
 by_cases he : (wholeB b id ps q).2.2.2 = 0
 ·obtain ⟨_,_,_,w4,w5⟩:=whole_ok he
  have hg : bucketB (gone b id) = true:=(do4_ok (a:=wholeAct b id ps q) (show (0 : Int) ≤ Int.tmod 0 9 by decide) (show Int.tmod (0 : Int) 9 < 4 by decide) w4).1
  obtain ⟨s1,s2,s3,s4⟩:=act_step (a:=wholeAct b id ps q) hg h4 (show (0 : Int) ≤ Int.tmod 0 9 by decide) (show Int.tmod (0 : Int) 9 < 4 by decide) false
  rw [w5]
  exact ⟨s1,s2,fun c=>absurd rfl c,fun _ _ hi=>s4 w4 rfl hi⟩
 ·exact step_no hb he (whole_no he).1
theorem do_step {b : S26} {a : Act} (hb : bucketB b = true) (h4 : 0 ≤ b.f4) (k0 : 0 ≤ Int.tmod a.kd 9) : StepOK b (doR b a) (decide (Int.tmod a.kd 9 = 6)):=by
 by_cases k4 : Int.tmod a.kd 9 < 4
 ·exact act_step hb h4 k0 k4 _
 ·unfold doR
  rw [if_neg (by omega),if_neg (by omega),if_neg (by omega),if_neg (by omega)]
  by_cases h : Int.tmod a.kd 9 = 4
  ·rw [if_pos h];exact turn_step hb _ _
  rw [if_neg h]
  by_cases h : Int.tmod a.kd 9 = 5
  ·rw [if_pos h];exact begin_step hb h4 _ _
  rw [if_neg h]
  by_cases h : Int.tmod a.kd 9 = 6
  ·rw [if_pos h,decide_eq_true h];exact lay_step hb _ _ _
  rw [if_neg h]
  by_cases h : Int.tmod a.kd 9 = 7
  ·rw [if_pos h];exact abort_step hb _ _
  rw [if_neg h];exact whole_step hb h4 _ _ _ _
end
section
open Go.WideMaps Go.Maps
theorem pos_find (l : List S47) (p : S47 → Bool) (v : S47) (h : l.find? p = some v) : ∃ i,l.findIdx? p = some i ∧ i < l.length ∧ l.getD i z47 = v:=by
 induction l with
 | nil=>cases h
 | cons x l ih =>
  rw [List.find?_cons] at h
  rw [List.findIdx?_cons]
  cases hp : p x
  ·rw [hp] at h
   obtain ⟨i,h1,h2,h3⟩:=ih h
   rw [h1]
   exact ⟨i + 1,rfl,by simp;omega,by rw [List.getD_cons_succ];exact h3⟩
  ·rw [hp] at h
   injection h with h
   subst h
   exact ⟨0,rfl,by simp,rfl⟩
/-- a key's version of a number is there, as v -/
def KeptAt (b : S26) (key : ByteArray) (id : Int) (v : S47) : Prop:=keyB key = true ∧ (getE b.f2 key).find? (idB id) = some v
theorem kept_find {b : S26} {key : ByteArray} {id : Int} {v : S47} (hb : bucketB b = true) (h : KeptAt b key id v) : (findB b key id).1 = v:=by
 obtain ⟨hk,hf⟩:=h
 unfold findB
 have ho : openR b key = 0:=by
  unfold openR
  rw [if_neg (by rw [hb,hk];simp)]
 obtain ⟨i,h1,h2,h3⟩:=pos_find _ _ _ hf
 rw [if_pos ho,h1]
 unfold atV posI
 have hc:=chain_get (bucket_ix hb).2 key
 simp only
 rw [if_neg (by rw [hc];simp),if_neg (by omega)]
 show (getE b.f2 key).getD (i : Int).toNat z47 = v
 rw [Int.toNat_natCast]
 exact h3
/-- an act that lays, in a bucket that is On: the new version ahead of the others -/
theorem actC_on {a : Act} {l : List S47} {id : Int} (k0 : 0 ≤ Int.tmod a.kd 9) (k3 : Int.tmod a.kd 9 < 3) (h : (actC 1 a l id).2 = 0) :
  (actC 1 a l id).1 = (if Int.tmod a.kd 9 = 2 then ⟨id,⟨#[]⟩,true,a.q⟩ else ⟨id,a.data,false,a.q⟩) :: l:=by
 unfold actC at h ⊢
 by_cases k2 : Int.tmod a.kd 9 = 2
 ·rw [if_pos k2] at h ⊢
  rw [if_pos k2]
  unfold deleteV at h ⊢
  rw [if_neg (by decide)] at h ⊢
  obtain ⟨_,_,_,_,_,_,e,_⟩:=putV_ok h
  rw [e,if_pos rfl]
  rw [if_neg (by decide)]
 ·rw [if_neg k2,if_neg (by omega)] at h ⊢
  rw [if_neg k2]
  obtain ⟨_,_,_,_,_,_,e,_⟩:=putV_ok h
  rw [e,if_pos rfl]
theorem kept_lay {b : S26} {a : Act} (h1 : b.f1 = 1) (h4 : 0 ≤ b.f4) (k0 : 0 ≤ Int.tmod a.kd 9) (k3 : Int.tmod a.kd 9 < 3) (he : (doR b a).er = 0) {key : ByteArray} {id : Int} {v : S47} (h : KeptAt b key id v) : KeptAt (doR b a).b key id v:=by
 obtain ⟨q1,q2,q3,q4,q5,q6,q7,q8⟩:=do4_ok k0 (by omega) he
 obtain ⟨hk,hf⟩:=h
 refine ⟨hk,?_⟩
 have s0:=(bucket_ix q1).1
 rw [q8]
 show (getE (putL b.f2 a.key (actC b.f1 a (getE b.f2 a.key) (idR b)).1) key).find? (idB id) = some v
 by_cases ek : key = a.key
 ·subst ek
  rw [getE_put s0]
  rw [h1] at q3 ⊢
  rw [actC_on k0 k3 q3,List.find?_cons]
  have hv:=List.find?_some hf
  have hm:=near_get q1 _ v (List.mem_of_find?_eq_some hf)
  have hid : v.f0 = id:=by unfold idB at hv;exact beq_iff_eq.1 hv
  obtain ⟨_,_,l3,_,l5,_⟩:=last_le q1 h4 (q7 k3)
  have hn : idB id (if Int.tmod a.kd 9 = 2 then (⟨idR b,⟨#[]⟩,true,a.q⟩ : S47) else ⟨idR b,a.data,false,a.q⟩) = false:=by
   unfold idB
   rw [beq_eq_false_iff_ne]
   have:=l5 h1
   split <;> (simp only;omega)
  rw [hn]
  exact hf
 ·rw [getE_other s0 _ ek];exact hf
/-- what was laid is there -/
theorem kept_new {b : S26} {a : Act} (h1 : b.f1 = 1) (k0 : 0 ≤ Int.tmod a.kd 9) (k3 : Int.tmod a.kd 9 < 3) (he : (doR b a).er = 0) :
  KeptAt (doR b a).b a.key (doR b a).id (if Int.tmod a.kd 9 = 2 then ⟨(doR b a).id,⟨#[]⟩,true,a.q⟩ else ⟨(doR b a).id,a.data,false,a.q⟩):=by
 obtain ⟨q1,q2,q3,q4,q5,q6,q7,q8⟩:=do4_ok k0 (by omega) he
 refine ⟨q2,?_⟩
 have s0:=(bucket_ix q1).1
 rw [q8]
 show (getE (putL b.f2 a.key (actC b.f1 a (getE b.f2 a.key) (idR b)).1) a.key).find? _ = _
 simp only
 rw [getE_put s0,if_neg (by omega)]
 rw [h1] at q3 ⊢
 rw [actC_on k0 k3 q3,List.find?_cons]
 have hn : idB (idR b) (if Int.tmod a.kd 9 = 2 then (⟨idR b,⟨#[]⟩,true,a.q⟩ : S47) else ⟨idR b,a.data,false,a.q⟩) = true:=by
  unfold idB
  rw [beq_iff_eq]
  split <;> rfl
 rw [hn]
theorem begin_same {b : S26} (key : ByteArray) : (beginB b key).1.f2 = b.f2 ∧ (beginB b key).1.f1 = b.f1:=by
 unfold beginB
 simp only
 generalize hq : beginQ b key (IntKind.u64.wrap (b.f4 + 1)) (noR (decide (281474976710655 ≤ b.f4)) 6 (openR b key)) = q
 have hf : q.1.f2 = b.f2 ∧ q.1.f1 = b.f1:=by
  rw [← hq]
  unfold beginQ
  split <;> exact ⟨rfl,rfl⟩
 by_cases hc : (closeR b q.1 q.2).2 = 0
 ·rw [if_pos hc,(closeR_ok hc).2.2];exact hf
 ·rw [if_neg hc];exact ⟨rfl,rfl⟩
theorem close_same {x y : S26} {e : Int} (h : y.f2 = x.f2 ∧ y.f1 = x.f1) : (closeR x y e).1.f2 = x.f2 ∧ (closeR x y e).1.f1 = x.f1:=by
 by_cases hc : (closeR x y e).2 = 0
 ·rw [(closeR_ok hc).2.2];exact h
 ·rw [closeR_no hc];exact ⟨rfl,rfl⟩
theorem lay_same {b : S26} (id : Int) (p : S40) : (layB b id p).1.f2 = b.f2 ∧ (layB b id p).1.f1 = b.f1:=by
 unfold layB
 simp only
 split
 ·exact close_same ⟨rfl,rfl⟩
 ·exact ⟨rfl,rfl⟩
theorem abort_same {b : S26} (id : Int) : (abortB b id).1.f2 = b.f2 ∧ (abortB b id).1.f1 = b.f1:=close_same ⟨rfl,rfl⟩
theorem lay_st {b : S26} {a : Act} (k0 : 0 ≤ Int.tmod a.kd 9) (k3 : Int.tmod a.kd 9 < 3) : (doR b a).b.f1 = b.f1:=by
 by_cases he : (doR b a).er = 0
 ·obtain ⟨_,_,_,_,_,_,_,q8⟩:=do4_ok k0 (by omega) he
  rw [q8];rfl
 ·rw [(do4_no k0 (by omega) he).1]
/-- whatever is done, but a Drop and a Turn: what is there stays -/
theorem kept_step {b : S26} {a : Act} (h1 : b.f1 = 1) (h4 : 0 ≤ b.f4) (k0 : 0 ≤ Int.tmod a.kd 9) (n3 : Int.tmod a.kd 9 ≠ 3) (n4 : Int.tmod a.kd 9 ≠ 4) :
  (doR b a).b.f1 = 1 ∧ ∀ {key : ByteArray} {id : Int} {v : S47},KeptAt b key id v → KeptAt (doR b a).b key id v:=by
 by_cases k3 : Int.tmod a.kd 9 < 3
 ·refine ⟨(lay_st k0 k3).trans h1,fun {key id v} h=>?_⟩
  by_cases he : (doR b a).er = 0
  ·exact kept_lay h1 h4 k0 k3 he h
  ·rw [(do4_no k0 (by omega) he).1];exact h
 ·have same : ∀ x : S26,x.f2 = b.f2 ∧ x.f1 = b.f1 → (x.f1 = 1 ∧ ∀ {key : ByteArray} {id : Int} {v : S47},KeptAt b key id v → KeptAt x key id v):=fun x hx=>⟨hx.2.trans h1,fun {key id v} h=>by unfold KeptAt;rw [hx.1];exact h⟩
  unfold doR
  have n0 : ¬ Int.tmod a.kd 9 = 0:=by omega
  have n1 : ¬ Int.tmod a.kd 9 = 1:=by omega
  have n2 : ¬ Int.tmod a.kd 9 = 2:=by omega
  rw [if_neg n0,if_neg n1,if_neg n2,if_neg n3,if_neg n4]
  by_cases k5 : Int.tmod a.kd 9 = 5
  ·rw [if_pos k5];exact same _ (begin_same _)
  rw [if_neg k5]
  by_cases k6 : Int.tmod a.kd 9 = 6
  ·rw [if_pos k6];exact same _ (lay_same _ _)
  rw [if_neg k6]
  by_cases k7 : Int.tmod a.kd 9 = 7
  ·rw [if_pos k7];exact same _ (abort_same _)
  rw [if_neg k7]
  by_cases he : (wholeB b a.id a.ps a.q).2.2.2 = 0
  ·obtain ⟨_,_,_,w4,w5⟩:=whole_ok he
   have z0 : (0 : Int) ≤ Int.tmod (wholeAct b a.id a.ps a.q).kd 9:=show (0 : Int) ≤ Int.tmod 0 9 by decide
   have z3 : Int.tmod (wholeAct b a.id a.ps a.q).kd 9 < 3:=show Int.tmod (0 : Int) 9 < 3 by decide
   rw [w5]
   refine ⟨(lay_st z0 z3).trans h1,fun {key id v} h=>kept_lay (b:=gone b a.id) h1 h4 z0 z3 w4 h⟩
  ·exact same _ (by rw [(whole_no he).1];exact ⟨rfl,rfl⟩)
end
section
open Go.WideMaps Go.Maps
theorem turned_only {w w' : World} {m : Nat} (h : w.mapTurned w' m) : Only m w w':=by
 obtain ⟨es,clock,es',clock',hb,rfl⟩:=h
 refine ⟨rfl,rfl,rfl,?_,fun k hk hne=>?_⟩
 ·show _ ≤ (w.heap.setIfInBounds m _).size
  simp
 ·show (w.heap.setIfInBounds m _)[k]? = _
  rw [Array.getElem?_setIfInBounds_ne (fun e=>hne e.symm)]
theorem not_map {w : World} {p : Addr} {u : Value} {es : Array MapEntry} {c : Nat} (h : w.cell? p = some u) (hb : w.heap[p.block]? = some (.map es c)) : False:=by
 simp [World.cell?,hb] at h
section
variable {w w1 : World} {g : Nat} {es : Array MapEntry} {clock : Nat} {A : Option Addr} {n : Nat}
theorem C_map {α : Type} {d : Kd α} {l : List α} (h : Kd.C d w A n l) (hg : w.heap[g]? = some (.map es clock)) (ho : Only g w w1) (h0 : 0 < d.sz) (hK : ∀ (x : α) (c : List Value),d.K w x c → d.K w1 x c) : Kd.C d w1 A n l:=by
 obtain ⟨h1,h2,h3⟩:=h
 refine ⟨h1,h2,fun hn=>?_⟩
 obtain ⟨ad,e,hc⟩:=h3 hn
 refine ⟨ad,e,fun j x hx=>?_⟩
 obtain ⟨c,h4,h5,h6⟩:=hc j x hx
 refine ⟨c,h4,hK x c h5,fun i u hu=>?_⟩
 have hb : ad.block ≠ g:=fun e=>not_map (h6 i u hu) (by rw [(add_blk _ _).1,e];exact hg)
 exact ho.cell (by rw [(add_blk _ _).1];exact hb) (h6 i u hu)
theorem mapV {l : List S47} (h : Kd.C k47 w A n l) (hg : w.heap[g]? = some (.map es clock)) (ho : Only g w w1) : Kd.C k47 w1 A n l :=
 C_map h hg ho (by decide) (fun x c hk=>by obtain rfl:=k47_open hk;exact k47_mk w1 x)
theorem mapPt {l : List S40} (h : Kd.C k40 w A n l) (hg : w.heap[g]? = some (.map es clock)) (ho : Only g w w1) : Kd.C k40 w1 A n l :=
 C_map h hg ho (by decide) (fun x c hk=>by obtain rfl:=k40_open hk;exact k40_mk w1 x)
theorem mapE {l : List S56} (h : Kd.C k56 w A n l) (hg : w.heap[g]? = some (.map es clock)) (ho : Only g w w1) : Kd.C k56 w1 A n l :=
 C_map h hg ho (by decide) (fun x c hk=>by obtain ⟨A1,c1,rfl,h1,h2⟩:=k56_open hk;exact k56_mk w1 x h1 (mapV h2 hg ho))
theorem mapU {l : List S101} (h : Kd.C k101 w A n l) (hg : w.heap[g]? = some (.map es clock)) (ho : Only g w w1) : Kd.C k101 w1 A n l :=
 C_map h hg ho (by decide) (fun x c hk=>by obtain ⟨A1,c1,rfl,h1,h2⟩:=k101_open hk;exact k101_mk w1 x h1 (mapPt h2 hg ho))
end
theorem C_cut {α : Type} {d : Kd α} {w : World} {A : Option Addr} {l : List α} (h : Kd.C d w A l.length l) (m : Nat) : Kd.C d w A (l.take m).length (l.take m):=by
 rcases Nat.le_total m l.length with hm | hm
 ·have:=C_take h m hm
  rw [List.length_take,Nat.min_eq_left hm];exact this
 ·rw [List.take_of_length_le hm];exact h
abbrev kl (key : ByteArray) : Lit:=.string key.data.toList
theorem owns_blk {w w' : World} {P : Program} {k : TypeId} {R : Value → Option (DataW Unit × List MemPlace)} {b n : Nat} {D : DataW Unit} (h : w.ownsMap P k R b n D) (e : w'.heap[b]? = w.heap[b]?) : w'.ownsMap P k R b n D:=by
 obtain ⟨es,clock,hb,r⟩:=h
 exact ⟨es,clock,e.trans hb,r⟩
theorem owns_below {w w' : World} {P : Program} {k : TypeId} {R : Value → Option (DataW Unit × List MemPlace)} {b n : Nat} {D : DataW Unit} (h : w.ownsMap P k R b n D) (hb : Below w.heap.size w w') : w'.ownsMap P k R b n D:=owns_blk h (hb.block b h.lt)
theorem owns_only {w w' : World} {P : Program} {k : TypeId} {R : Value → Option (DataW Unit × List MemPlace)} {b n g : Nat} {D : DataW Unit} (h : w.ownsMap P k R b n D) (ho : Only g w w') (hn : b ≠ g) : w'.ownsMap P k R b n D:=owns_blk h (ho.block b h.lt hn)
theorem owns_at {w : World} {P : Program} {k : TypeId} {R : Value → Option (DataW Unit × List MemPlace)} {b n : Nat} {D : DataW Unit} (h : w.ownsMap P k R b n D) : ∃ es clock,w.heap[b]? = some (.map es clock):=by
 obtain ⟨es,clock,hb,_⟩:=h
 exact ⟨es,clock,hb⟩
theorem owns_ne {w : World} {P : Program} {k : TypeId} {R : Value → Option (DataW Unit × List MemPlace)} {b n g : Nat} {D : DataW Unit} {cs : Array Value} {t : TypeId} {fr : Nat × Nat} (h : w.ownsMap P k R b n D) (hg : w.heap[g]? = some (.cells cs t fr)) : b ≠ g:=by
 rintro rfl
 obtain ⟨es,clock,hb⟩:=owns_at h
 rw [hb] at hg
 cases hg
section
variable (w : World) {ops : Array Oper} {rest : List Oper} {o : Oper} {a : Go.Act} {Q : Exit → Go.Act → World → Prop}
end
end
section
open Go.WideMaps Go.Maps
def whereV (x : ByteArray × Int) : Value:=.agg #[.string x.1,.int .u64 x.2]
def verV (v : S47) : Value:=.agg #[.int .u64 v.f0,.string v.f1,.bool v.f2,.int .i64 v.f3]
def verD (v : S47) : DataW Unit:=.agg [.lit (.int .u64 v.f0),.lit (.string v.f1.data.toList),.lit (.bool v.f2),.lit (.int .i64 v.f3)]
def verL : List Value → Option (DataW Unit × List MemPlace)
 | [.int .u64 a,.string b,.bool c,.int .i64 d]=>some (verD ⟨a,b,c,d⟩,[])
 | _=>none
def verR : Value → Option (DataW Unit × List MemPlace)
 | .agg cs=>verL cs.toList
 | _=>none
theorem verR_mk (v : S47) : verR (verV v) = some (verD v,[]):=rfl
theorem verL_inv : ∀ {l : List Value} {z : DataW Unit × List MemPlace},verL l = some z → ∃ v : S47,l = [.int .u64 v.f0,.string v.f1,.bool v.f2,.int .i64 v.f3] ∧ z = (verD v,[]):=by
 intro l z h
 unfold verL at h
 split at h
 ·cases h;exact ⟨⟨_,_,_,_⟩,rfl,rfl⟩
 ·cases h
theorem verR_inv {v : Value} {z : DataW Unit × List MemPlace} (h : verR v = some z) : ∃ n : S47,v = verV n ∧ z = (verD n,[]):=by
 cases v <;> simp only [verR] at h <;> try (cases h;done)
 obtain ⟨n,h1,h2⟩:=verL_inv h
 refine ⟨n,?_,h2⟩
 unfold verV
 congr 1
 exact Array.ext' h1
theorem verD_inj {a b : S47} (h : verD a = verD b) : a = b:=by
 obtain ⟨a0,a1,a2,a3⟩:=a
 obtain ⟨b0,b1,b2,b3⟩:=b
 simp only [verD,DataW.agg.injEq,List.cons.injEq,DataW.lit.injEq,Lit.int.injEq,Lit.string.injEq,Lit.bool.injEq] at h
 obtain ⟨⟨_,rfl⟩,h1,rfl,⟨_,rfl⟩,_⟩:=h
 rw [bytes_inj h1]
theorem laidT : laidOutB Tryz.prog = true:=by kernel_rfl
theorem wlaw : Keyed Tryz.prog 78:=Keyed.of_law (deep_law_laid laidT (m:=3) (by omega) (of_decide_eq_true (by kernel_rfl)) (by kernel_rfl) (by kernel_rfl))
theorem ktypes : ∃ d,Tryz.prog.types.size + 1 = d + 1 + 1:=by
 have h : 1 ≤ Tryz.prog.types.size:=of_decide_eq_true (by kernel_rfl)
 exact ⟨Tryz.prog.types.size - 1,by omega⟩
theorem lits_s (d : Nat) (s : ByteArray) (h : s.size ≤ maxLen) : Tryz.prog.keyLits (d + 1) 9 [.string s] = some [.string s.data.toList]:=by
 unfold Program.keyLits
 simp only [Tryz.underlying9,h,if_true]
theorem lits_u (d : Nat) (n : Int) (h : (Lit.int .u64 n).wf = true) : Tryz.prog.keyLits (d + 1) 24 [.int .u64 n] = some [.int .u64 n]:=by
 unfold Program.keyLits
 simp only [Tryz.underlying24,h,and_self,if_true]
theorem kkeyW : Tryz.prog.keyType 78 = true:=by kernel_rfl
theorem kcells_s : Tryz.prog.cellsOf 9 = 1:=by kernel_rfl
theorem kcells_u : Tryz.prog.cellsOf 24 = 1:=by kernel_rfl
theorem kcells_w : Tryz.prog.cellsOf 78 = 2:=by kernel_rfl
theorem u64_wf {n : Int} (h : 0 ≤ n) (h2 : n ≤ 281474976710656) : (Lit.int .u64 n).wf = true:=by
 show (decide ((IntKind.u64).min ≤ n) && decide (n ≤ (IntKind.u64).max)) = true
 rw [Bool.and_eq_true,decide_eq_true_eq,decide_eq_true_eq,show (IntKind.u64).min = 0 from rfl,show (IntKind.u64).max = 18446744073709551615 from rfl]
 omega
theorem formW (x : ByteArray × Int) : (whereV x).formed Tryz.prog 78 = true:=by
 unfold Value.formed whereV
 simp only [Tryz.underlying78]
 simp [kcells_w]
theorem lits_w (d : Nat) (s : ByteArray) (n : Int) (hs : s.size ≤ maxLen) (hn : (Lit.int .u64 n).wf = true) : Tryz.prog.keyLits (d + 1 + 1) 78 [.string s,.int .u64 n] = some [.string s.data.toList,.int .u64 n]:=by
 unfold Program.keyLits
 simp only [Tryz.underlying78]
 simp [kcells_w,kcells_s,kcells_u,lits_s d s hs,lits_u d n hn]
theorem where_some (s : ByteArray) (n : Int) (hs : s.size ≤ 80) (h0 : 0 ≤ n) (h1 : n ≤ 281474976710656) : ∃ kl,keyOf Tryz.prog 78 (whereV (s,n)) = some kl:=by
 have hk : ∀ d,Tryz.prog.keyLits (d + 1 + 1) 78 (whereV (s,n)).cells.toList = some [.string s.data.toList,.int .u64 n]:=fun d=>lits_w d s n (by unfold maxLen;omega) (u64_wf h0 h1)
 obtain ⟨d,hd⟩:=ktypes
 unfold keyOf
 simp only [Tryz.underlying78,kkeyW,formW,Bool.and_self,if_true,Bool.true_and]
 rw [hd,hk]
 exact ⟨_,rfl⟩
theorem lits_s_inv {d : Nat} {c : Value} {r : List Lit} (h : Tryz.prog.keyLits (d + 1) 9 [c] = some r) : ∃ s,c = .string s:=by
 unfold Program.keyLits at h
 simp only [Tryz.underlying9] at h
 cases c <;> simp at h
 exact ⟨_,rfl⟩
theorem lits_u_inv {d : Nat} {c : Value} {r : List Lit} (h : Tryz.prog.keyLits (d + 1) 24 [c] = some r) : ∃ n,c = .int .u64 n:=by
 unfold Program.keyLits at h
 simp only [Tryz.underlying24] at h
 cases c <;> simp at h
 obtain ⟨⟨rfl,_⟩,_⟩:=h
 exact ⟨_,rfl⟩
theorem lits_w0 {d : Nat} {c0 c1 : Value} (h : Tryz.prog.keyLits (d + 1) 9 [c0] = none) : Tryz.prog.keyLits (d + 1 + 1) 78 [c0,c1] = none:=by
 unfold Program.keyLits
 simp only [Tryz.underlying78]
 simp [kcells_w,kcells_s,kcells_u,h]
theorem lits_w1 {d : Nat} {c0 c1 : Value} (h : Tryz.prog.keyLits (d + 1) 24 [c1] = none) : Tryz.prog.keyLits (d + 1 + 1) 78 [c0,c1] = none:=by
 unfold Program.keyLits
 simp only [Tryz.underlying78]
 simp [kcells_w,kcells_s,kcells_u,h]
theorem where_inv (v : Value) (kl : Lit) (h : keyOf Tryz.prog 78 v = some kl) : ∃ x : ByteArray × Int,v = whereV x:=by
 obtain ⟨d,hd⟩:=ktypes
 unfold keyOf at h
 simp only [Tryz.underlying78,kkeyW,Bool.true_and] at h
 by_cases hf : v.formed Tryz.prog 78 = true
 ·rw [if_pos hf,hd] at h
  unfold Value.formed at hf
  simp only [Tryz.underlying78] at hf
  obtain ⟨cs,rfl,hf⟩ : ∃ cs,v = .agg cs ∧ (cs.size == Tryz.prog.cellsOf 78) = true:=by
   cases v <;> first | exact ⟨_,rfl,hf⟩ | cases hf
  rw [kcells_w] at hf
  have hl : cs.toList.length = 2:=by simpa using hf
  obtain ⟨c0,c1,hc⟩ : ∃ a b,cs.toList = [a,b]:=by
   match h2 : cs.toList,hl with
   | [a,b],_=>exact ⟨a,b,rfl⟩
  have e1 : (Value.agg cs).cells.toList = [c0,c1]:=hc
  rw [e1] at h
  cases h0 : Tryz.prog.keyLits (d + 1) 9 [c0] with
  | none=>rw [lits_w0 h0] at h;cases h
  | some r0 =>
   cases h1 : Tryz.prog.keyLits (d + 1) 24 [c1] with
   | none=>rw [lits_w1 h1] at h;cases h
   | some r1 =>
    obtain ⟨s,rfl⟩:=lits_s_inv h0
    obtain ⟨n,rfl⟩:=lits_u_inv h1
    refine ⟨(s,n),?_⟩
    unfold whereV
    congr 1
    exact Array.ext' hc
 ·rw [if_neg hf] at h;cases h
theorem ver_inv (v : Value) (y : DataW Unit × List MemPlace) (h : verR v = some y) : ∃ c,v = verV c:=by
 obtain ⟨n,h1,_⟩:=verR_inv h
 exact ⟨n,h1⟩
/-- whatever the map holds is there -/
structure KI (b : S26) (D : DataW Unit) : Prop where
 map : IsMap D
 kept : ∀ key id kl v,keyOf Tryz.prog 78 (whereV (key,id)) = some kl → (∀ z,D.atKey kl z = verD v) → KeptAt b key id v
theorem ki_0 (b : S26) : KI b (.map []) where
 map:=isMap_empty
 kept:=fun key id kl v _ h=>by
  have h1:=h (.lit (.bool true))
  have h2:=h (.lit (.bool false))
  rw [atKey_of_not_has (show Maps.has (.map []) kl = false from rfl)] at h1 h2
  rw [← h1] at h2
  cases h2
theorem ki_mono {b b2 : S26} {D : DataW Unit} (h : KI b D) (hs : ∀ {key : ByteArray} {id : Int} {v : S47},KeptAt b key id v → KeptAt b2 key id v) : KI b2 D where
 map:=h.map
 kept:=fun key id kl v h1 h2=>hs (h.kept key id kl v h1 h2)
theorem ki_put {b : S26} {D : DataW Unit} (h : KI b D) {key : ByteArray} {id : Int} {v : S47} {kl : Lit} (hk : keyOf Tryz.prog 78 (whereV (key,id)) = some kl) (hn : KeptAt b key id v) : KI b (D.put kl (verD v)) where
 map:=h.map.put _ _
 kept:=fun key2 id2 kl2 v2 h1 h2=>by
  by_cases e : kl2 = kl
  ·subst e
   have e2:=wlaw.inj h1 hk
   unfold whereV at e2
   simp at e2
   obtain ⟨rfl,rfl⟩:=e2
   have:=h2 (.lit (.bool true))
   rw [atKey_put_same h.map (wlaw.key hk)] at this
   rw [← verD_inj this]
   exact hn
  ·refine h.kept key2 id2 kl2 v2 h1 (fun z=>?_)
   rw [← h2 z,atKey_put_other e]
end
section
open Go.WideMaps Go.Maps
attribute [local go_sem] Oper.semAt_some
def fewKey (s : ByteArray) : ByteArray:=if (s.size : Int) > 80 then s.extract 0 80 else s
def cutP (p : S40) : S40:=⟨p.f0,if (p.f1.size : Int) > 2001 then p.f1.extract 0 2001 else p.f1⟩
def cutU (u : S101) : S101:=⟨u.f0,fewKey u.f1,(u.f2.take 31).map cutP⟩
def fewUs (l : List S101) : List S101:=(l.take 11).map cutU
def cutV (v : S47) : S47:=⟨v.f0,if (v.f1.size : Int) > 2001 then v.f1.extract 0 2001 else v.f1,v.f2,v.f3⟩
def fewV (l : List S47) : List S47:=(l.take 21).map cutV
def cutE (x : S56) : S56:=⟨fewKey x.f0,fewV x.f1⟩
def fewE (l : List S56) : List S56:=(l.take 61).map cutE
def cutB (b : S26) : S26:=⟨fewKey b.f0,b.f1,fewE b.f2,fewUs b.f3,b.f4⟩
theorem few_key (s : ByteArray) : cellarerlaw01_Few.f s = some (fewKey s):=by
 unfold cellarerlaw01_Few.f fewKey
 by_cases h : (s.size : Int) > 80
 ·rw [if_pos h,if_pos (by decide),if_pos (by omega),if_pos h]
 ·rw [if_neg h,if_neg h]
theorem one_part (p : S40) : cellarerlaw08_One.f p.f0 p.f1 = some ((cutP p).f0,(cutP p).f1):=by
 unfold cellarerlaw08_One.f cutP
 by_cases h : (p.f1.size : Int) > 2001
 ·rw [if_pos h,if_pos (by decide),if_pos (by omega)];simp only [if_pos h]
 ·rw [if_neg h];simp only [if_neg h]
theorem one_v (v : S47) : cellarerlaw05_One.f v.f0 v.f1 v.f2 v.f3 = some ((cutV v).f0,(cutV v).f1,(cutV v).f2,(cutV v).f3):=by
 unfold cellarerlaw05_One.f cutV
 by_cases h : (v.f1.size : Int) > 2001
 ·rw [if_pos h,if_pos (by decide),if_pos (by omega)];simp only [if_pos h]
 ·rw [if_neg h];simp only [if_neg h]
theorem belowA (w : World) (o : Obj) : Below w.heap.size w (w.alloc o):=(Below.refl _ _).alloc (Nat.le_refl _) o
theorem tk_snoc {α β : Type} (f : α → β) (l : List α) (k : Nat) (h : k < l.length) : (l.take (k + 1)).map f = (l.take k).map f ++ [f l[k]]:=by
 rw [List.take_add_one,List.getElem?_eq_getElem h,List.map_append];rfl
theorem tk_end {α β : Type} (f : α → β) (l : List α) (k m : Nat) (h : k = l.length ∨ k = m) (hm : k ≤ m) : (l.take k).map f = (l.take m).map f:=by
 rcases h with rfl | rfl
 ·rw [List.take_length,List.take_of_length_le hm]
 ·rfl
theorem fewV.walk (A : Option Addr) (c : Nat) (l : List S47) (w : World) (hr : Kd.C k47 w A l.length l) :
  Calls Tryz.prog 75 #[.slice A l.length c] w fun e w'=>∃ v,e = .returned v ∧ Kd.R k47 47 w' w.heap.size (fun _=>True) v (fewV l) ∧ Below w.heap.size w w':=by
 have HR:=zh hr
 have hlen : (l.length : Int) ≤ 9223372036854775807:=by have:=hr.2.1;omega
 have HB:=zh (Below.refl w.heap.size w)
 clear hr
 go_enter Tryz.func75,Tryz.ntmps75
 go_wp2
 go_loopw [3,4] (fun v3 v4 wr=>∃ k : Nat,v4 = .int .i64 k ∧ k ≤ l.length ∧ k ≤ 21 ∧ Hid (Kd.R k47 47 wr w.heap.size (fun _=>True) v3 ((l.take k).map cutV)) ∧ Hid (Below w.heap.size w wr)) (fun _ v4 _=>l.length - (intOf v4).toNat)
 case atStart=>exact ⟨0,rfl,Nat.zero_le _,by decide,Kd.R_nil _ _ _ _ _,HB⟩
 case round =>
  obtain ⟨k,rfl,hk,hkm,HO,HB⟩:=hrel
  by_cases hlt : k < l.length
  ·by_cases hm : k < 21
   ·have p0 : (0 : Int) ≤ (k : Int):=by omega
    have p1 : (k : Int) < (l.length : Int):=by omega
    have p2 : (k : Int) < 21:=by omega
    have HL:=zh hm
    have HTS:=zh (tk_snoc cutV l k hlt)
    obtain ⟨ad,e',d0,d1,d2,d3⟩:=atVersion HR.out HB.out k hlt
    subst e'
    generalize l[k] = x at *
    go_wp2_with (first
     | (go_at_call 28;go_must (refine (cellarerlaw05_One.calls _ _ _ _ _ _ _ _ _ (one_v x)).mono ?_;rintro e w7 ⟨rfl,hb⟩;have HO:=zh (Kd.R_below HO.out hb);have HB:=keepB HB hb;clear hb))
     | ((with_reducible refine gate_builtin (b:=.append) (xs:=#[.tmp 15,.tmp 21]) rfl ?_);at_builtin;go_must (refine Kd.R_append k47 (w0:=w) w.heap.size rfl (.tmp 15) (.tmp 21) 54 47 (.agg #[(.int .u64 0),(.string ⟨#[]⟩),(.bool false),(.int .i64 0)]) 40 rfl Tryz.underlying54 info47 rfl (by decide) (by decide) _ _ (cutV x : S47) [.int .u64 (cutV x).f0,.string (cutV x).f1,.bool (cutV x).f2,.int .i64 (cutV x).f3] (fun _=>True) (fun _=>False) rfl rfl (k47_mkM _ _ _ (cutV x)) (fun _ hk=>hk.elim) (fun _ _=>trivial) HO.out HB.out HB.out.size (by have:=HL.out;rw [List.length_map,List.length_take];omega) ?_;intro v8 w8 ho hb hg hat;rw [← HTS.out] at ho;have HO:=zh ho;have HB:=zh hb;clear ho hb hg hat)))
    go_roundw
    case rel=>exact ⟨k + 1,by go_num,hlt,hm,HO,HB⟩
    case measure=>simp [intOf];omega
   ·obtain rfl : k = 21:=by omega
    have p1 : (21 : Int) < (l.length : Int):=by omega
    have HE:=HO.out
    rw [tk_end cutV l _ 21 (Or.inr rfl) hkm] at HE
    go_wp2
    go_ret
    exact ⟨_,rfl,HE,HB.out⟩
  ·obtain rfl : k = l.length:=by omega
   have HE:=HO.out
   rw [tk_end cutV l _ 21 (Or.inl rfl) hkm] at HE
   go_wp2
   go_ret
   exact ⟨_,rfl,HE,HB.out⟩
theorem fewE.walk (A : Option Addr) (c : Nat) (l : List S56) (w : World) (hr : Kd.C k56 w A l.length l) :
  Calls Tryz.prog 30 #[.slice A l.length c] w fun e w'=>∃ v,e = .returned v ∧ Kd.R k56 56 w' w.heap.size (fun _=>True) v (fewE l) ∧ Below w.heap.size w w':=by
 have HR:=zh hr
 have hlen : (l.length : Int) ≤ 9223372036854775807:=by have:=hr.2.1;omega
 have HB:=zh (Below.refl w.heap.size w)
 clear hr
 go_enter Tryz.func30,Tryz.ntmps30
 go_wp2
 go_loopw [3,4] (fun v3 v4 wr=>∃ k : Nat,v4 = .int .i64 k ∧ k ≤ l.length ∧ k ≤ 61 ∧ Hid (Kd.R k56 56 wr w.heap.size (fun _=>True) v3 ((l.take k).map cutE)) ∧ Hid (Below w.heap.size w wr)) (fun _ v4 _=>l.length - (intOf v4).toNat)
 case atStart=>exact ⟨0,rfl,Nat.zero_le _,by decide,Kd.R_nil _ _ _ _ _,HB⟩
 case round =>
  obtain ⟨k,rfl,hk,hkm,HO,HB⟩:=hrel
  by_cases hlt : k < l.length
  ·by_cases hm : k < 61
   ·have p0 : (0 : Int) ≤ (k : Int):=by omega
    have p1 : (k : Int) < (l.length : Int):=by omega
    have p2 : (k : Int) < 61:=by omega
    have HL:=zh hm
    have HTS:=zh (tk_snoc cutE l k hlt)
    obtain ⟨ad,A1,c1,e',d0,d1,hle1,hC1⟩:=atEntry HR.out (Below.refl _ _) k hlt
    subst e'
    generalize l[k] = x at *
    go_wp2
    have HO:=zh (Kd.R_drew HO.out)
    refine wp_region_held_drew (S:=fun W=>Below w.heap.size w W) (by kernel_rfl) HB.out.drew (fun hHeld=>?_)
    clear HB
    refine zt 0 (v:=?v0E) ?y0E ?r0E
    case y0E=>(intro w' h;go_simp;try with_reducible rfl)
    try simp only [zA,zB,zC,Act.put,zD,zE,zF]
    refine zt 1 (v:=?v1E) ?y1E ?r1E
    case y1E=>(intro w' h;go_simp;try with_reducible rfl)
    try simp only [zA,zB,zC,Act.put,zD,zE,zF]
    refine zt 2 (v:=?v2E) ?y2E ?r2E
    case y2E=>(intro w' h;go_simp;try with_reducible rfl)
    try simp only [zA,zB,zC,Act.put,zD,zE,zF]
    refine zt 3 (v:=?v3E) ?y3E ?r3E
    case y3E=>(intro w' h;go_simp;try with_reducible rfl)
    try simp only [zA,zB,zC,Act.put,zD,zE,zF]
    refine zt 4 (v:=?v4E) ?y4E ?r4E
    case y4E=>(intro w' h;go_simp;try with_reducible rfl)
    try simp only [zA,zB,zC,Act.put,zD,zE,zF]
    refine zt 5 (v:=?v5E) ?y5E ?r5E
    case y5E=>(intro w' h;have a0:=keepc h d0;go_simp;try with_reducible rfl)
    try simp only [zA,zB,zC,Act.put,zD,zE,zF]
    refine zt 7 (v:=?v7E) ?y7E ?r7E
    case y7E=>(intro w' h;go_simp;try with_reducible rfl)
    try simp only [zA,zB,zC,Act.put,zD,zE,zF]
    refine zt 8 (v:=?v8E) ?y8E ?r8E
    case y8E=>(intro w' h;go_simp;try with_reducible rfl)
    try simp only [zA,zB,zC,Act.put,zD,zE,zF]
    refine zt 9 (v:=?v9E) ?y9E ?r9E
    case y9E=>(intro w' h;go_simp;try with_reducible rfl)
    try simp only [zA,zB,zC,Act.put,zD,zE,zF]
    refine zt 10 (v:=?v10E) ?y10E ?r10E
    case y10E=>(intro w' h;go_simp;try with_reducible rfl)
    try simp only [zA,zB,zC,Act.put,zD,zE,zF]
    refine zt 11 (v:=?v11E) ?y11E ?r11E
    case y11E=>(intro w' h;have a1:=keepc h d1;go_simp;try with_reducible rfl)
    try simp only [zA,zB,zC,Act.put,zD,zE,zF]
    refine wpAnyH_ready (rs:=[6]) (by kernel_rfl) (by simp) ?_
    refine AllReadyH.cons (o:=_) rfl (fun K hK=>?_) AllReadyH.nil
    rw [if_pos (by rfl)]
    go_simp
    refine (cellarerlaw01_Few.calls x.f0 _ _ (few_key x.f0)).mono ?_
    rintro e8 w8 ⟨rfl,hd⟩
    have hb:=outD hd
    have HO:=zh (Kd.R_below HO.out hb)
    clear hd
    refine hK.out _ _ (Below.trans hHeld (hb.mono (Below.size hHeld))) (fun hHeld=>?_)
    clear hK K hb
    try simp only [zA,zB,zC,Act.put,zD,zE,zF]
    refine wpAnyH_ready (rs:=[12]) (by kernel_rfl) (by simp) ?_
    refine AllReadyH.cons (o:=_) rfl (fun K hK=>?_) AllReadyH.nil
    rw [if_pos (by rfl)]
    go_simp
    refine (fewV.walk A1 c1 x.f1 _ (Kd.C_below hC1 hHeld)).mono ?_
    rintro e8 w8 ⟨vv,rfl,hv,hb⟩
    obtain ⟨Av,cv,rfl⟩:=Kd.R_slice hv
    have HNE:=zh (fun q hq=>((Kd.R_bound HO.out).1 q hq).2.2.1)
    have HV:=zh (Kd.R_lower (Kd.R_mono (Kd.R_bound hv) (fun q hq=>hq.2.1)) (Below.size hHeld))
    have HO:=zh (Kd.R_below HO.out hb)
    clear hv
    refine hK.out _ _ (Below.trans hHeld (hb.mono (Below.size hHeld))) (fun hHeld=>?_)
    clear hK K hb
    try simp only [zA,zB,zC,Act.put,zD,zE,zF]
    refine zt 13 (v:=?v13E) ?y13E ?r13E
    case y13E=>(intro w' h;go_simp;try with_reducible rfl)
    try simp only [zA,zB,zC,Act.put,zD,zE,zF]
    refine wpAnyH_ready (rs:=[14]) (by kernel_rfl) (by simp) ?_
    refine AllReadyH.cons (o:=_) rfl (fun K hK=>?_) AllReadyH.nil
    rw [if_pos (by rfl)]
    go_simp
    have hH0:=hHeld
    refine hK.out _ _ (Below.trans hHeld ((belowA _ _).mono (Below.size hHeld))) (fun hHeld=>?_)
    clear hK K
    try simp only [zA,zB,zC,Act.put,zD,zE,zF]
    refine wpAnyH_ready (rs:=[15]) (by kernel_rfl) (by simp) ?_
    refine AllReadyH.cons (o:=_) rfl (fun K hK=>?_) AllReadyH.nil
    refine Kd.R_append_step k56 (w0:=w) w.heap.size (by rfl) (.tmp 15) (.tmp 29) 22 56 (.agg #[(.string ⟨#[]⟩),(.slice none 0 0)]) 40 rfl Tryz.underlying22 info56 rfl (by decide) (by decide) _ _ (cutE x) [.string (fewKey x.f0),.slice Av (fewV x.f1).length cv] (fun _=>True) _ rfl rfl (k56_mkM _ _ _ (cutE x) HV.out) (fun q hq=>⟨trivial,fun e=>by have:=HNE.out q e.symm;omega⟩) (fun _ _=>trivial) HO.out hH0 (Below.size hH0) (by have:=HL.out;rw [List.length_map,List.length_take];omega) ?_
    intro v9 w9 ho hb hg hat
    rw [← HTS.out] at ho
    refine hK.out _ _ hb (fun hHeld=>?_)
    have HO:=zh ho
    clear hK K ho hb hg hat hH0
    try simp only [zA,zB,zC,Act.put,zD,zE,zF]
    refine zt 16 (v:=?v16E) ?y16E ?r16E
    case y16E=>(intro w' h;go_simp;try with_reducible rfl)
    try simp only [zA,zB,zC,Act.put,zD,zE,zF]
    refine wpAnyH_done (by kernel_rfl) ?_ _
    have HB : Hid (Below w.heap.size w w9):=hHeld
    go_wp2
    go_roundw
    case rel=>exact ⟨k + 1,by go_num,hlt,hm,HO,HB⟩
    case measure=>simp [intOf];omega
   ·obtain rfl : k = 61:=by omega
    have p1 : (61 : Int) < (l.length : Int):=by omega
    have HE:=HO.out
    rw [tk_end cutE l _ 61 (Or.inr rfl) hkm] at HE
    go_wp2
    go_ret
    exact ⟨_,rfl,HE,HB.out⟩
  ·obtain rfl : k = l.length:=by omega
   have HE:=HO.out
   rw [tk_end cutE l _ 61 (Or.inl rfl) hkm] at HE
   go_wp2
   go_ret
   exact ⟨_,rfl,HE,HB.out⟩
end
section
open Go.WideMaps Go.Maps
section
variable {P : Program} {md : Region.Mode} {ops : Array Oper} {Q : Exit → Go.Act → World → Prop} {z : Nat} {S : World → Prop}
def wpAnyZ (P : Program) (md : Region.Mode) (ops : Array Oper) (Q : Exit → Go.Act → World → Prop) (z : Nat) (S : World → Prop) : Nat → Array Bool → Go.Act → World → Prop
 | 0,listed,a,w=>Region.ready md ops listed = [] ∧ Q .normal a w
 | fuel + 1,listed,a,w=>(Region.ready md ops listed = [] → Q .normal a w) ∧
  ∀ i ∈ Region.ready md ops listed,wpOp P ops Q i (fun a' w'=>((listed.setIfInBounds i true).getD z true = true ∨ S w') ∧ wpAnyZ P md ops Q z S fuel (listed.setIfInBounds i true) a' w') a w
theorem wpAny_of_Z : ∀ (fuel : Nat) (listed : Array Bool) (a : Go.Act) (w : World),wpAnyZ P md ops Q z S fuel listed a w → wpAny P md ops Q fuel listed a w
 | 0,_,_,_,h=>h
 | fuel + 1,_,_,_,h=>⟨h.1,fun i hi=>wpOp_mono (fun a' w' h'=>wpAny_of_Z fuel _ a' w' h'.2) (h.2 i hi)⟩
/-- z waits for i. -/
def waits (md : Region.Mode) (ops : Array Oper) (z i : Nat) : Bool:=(ops[z]?.map (fun o=>o.after.toList.any (fun e=>Region.binds md e && e.on == i))).getD false
/-- z waits for i, by the operations between, none of which has come up. -/
def awaitB (md : Region.Mode) (ops : Array Oper) (listed : Array Bool) (z : Nat) : Nat → List Nat → Bool
 | i,[]=>waits md ops z i
 | i,k :: ks=>waits md ops k i && (!(listed.getD k true) && awaitB md ops listed z k ks)
theorem blocked {listed : Array Bool} {i j k : Nat} (hw : waits md ops k i = true) (hu : listed.getD i true = false) (hj : j ∈ Region.ready md ops listed) : j ≠ k:=fun e=>by
 subst e
 obtain ⟨_,oj,hoj,hall⟩:=mem_ready.1 hj
 unfold waits at hw
 rw [hoj,Option.map_some,Option.getD_some,List.any_eq_true] at hw
 obtain ⟨e,he,hb⟩:=hw
 rw [Bool.and_eq_true] at hb
 have q1:=hall e (Array.mem_def.2 he) hb.1
 have e3 : e.on = i:=by simpa using hb.2
 rw [e3] at q1
 rcases Nat.lt_or_ge i listed.size with h' | h'
 ·simp [h'] at hu q1;rw [hu] at q1;cases q1
 ·simp [Array.getElem?_eq_none h'] at q1
theorem chain_step {listed : Array Bool} {j : Nat} (hj : j ∈ Region.ready md ops listed) : ∀ (ks : List Nat) (i : Nat),listed.getD i true = false → awaitB md ops listed z i ks = true → j ≠ z ∧ awaitB md ops (listed.setIfInBounds j true) z i ks = true
 | [],i,hu,h=>⟨blocked h hu hj,h⟩
 | k :: ks,i,hu,h=>by
  unfold awaitB at h ⊢
  rw [Bool.and_eq_true,Bool.and_eq_true,Bool.not_eq_true'] at h
  have hjk:=blocked h.1 hu hj
  obtain ⟨h1,h2⟩:=chain_step hj ks k h.2.1 h.2.2
  exact ⟨h1,by rw [Bool.and_eq_true,Bool.and_eq_true,Bool.not_eq_true',getD_set_ne true hjk];exact ⟨h.1,h.2.1,h2⟩⟩
theorem wpAnyZ_first {i : Nat} {oi : Oper} {v : Value} (hi : ops[i]? = some oi) (hsel : ∀ (j : Nat) (o : Oper) cs b,ops[j]? = some o → o.op ≠ .select cs b)
  (hQ : ∀ c a w,Q (.panic c) (a.put oi.dst v) w → Q (.panic c) a w) (ks : List Nat) (hiz : i ≠ z) :
  ∀ (fuel : Nat) (listed : Array Bool) (a : Go.Act) (w : World),listed.getD z true = false → awaitB md ops listed z i ks = true →
   (∀ j oj,ops[j]? = some oj → j ≠ i → listed.getD j true = false → (∀ e ∈ oj.after,Region.binds md e = true → e.on ≠ i) → oi.apart ops oj = true) →
   i ∈ Region.ready md ops listed → YieldsIf P ops S oi v a → S w →
   wpAnyZ P md ops Q z S fuel (listed.setIfInBounds i true) (a.put oi.dst v) w → wpAnyZ P md ops Q z S (fuel + 1) listed a w:=by
 intro fuel
 induction fuel with
 | zero =>
  intro listed a w hzu hku _ hr hy hS H
  refine ⟨fun h=>(by rw [h] at hr;cases hr),fun j hj=>?_⟩
  by_cases hji : j = i
  ·subst hji;exact hy.wpOp hi hS ⟨.inr hS,H⟩
  ·have:=ready_mono hj hji
   rw [H.1] at this
   cases this
 | succ fuel ih =>
  intro listed a w hzu hku hfree hr hy hS H
  refine ⟨fun h=>(by rw [h] at hr;cases hr),fun j hj=>?_⟩
  by_cases hji : j = i
  ·subst hji;exact hy.wpOp hi hS ⟨.inr hS,H⟩
  ·have h1:=H.2 j (ready_mono hj hji)
   obtain ⟨hjun,oj,hoj,hall⟩:=mem_ready.1 hj
   have hnot : ∀ e ∈ oj.after,Region.binds md e = true → e.on ≠ i:=fun e he hb heq=>by
    have q1:=hall e he hb
    have q0:=(mem_ready.1 hr).1
    rw [heq] at q1
    rcases Nat.lt_or_ge i listed.size with h' | h'
    ·simp [h'] at q0 q1;rw [q0] at q1;cases q1
    ·simp [Array.getElem?_eq_none h'] at q1
   obtain ⟨hjz,hku'⟩:=chain_step hj ks i (by simpa using (mem_ready.1 hr).1) hku
   have h2:=wpOp_putIf hoj (hfree j oj hoj hji hjun hnot) (fun cs b=>hsel i oi cs b hi) (fun cs b=>hsel j oj cs b hoj) hQ hy h1
   have hzu' : (listed.setIfInBounds j true).getD z true = false:=by rw [getD_set_ne true hjz];exact hzu
   have hfree' : ∀ k ok,ops[k]? = some ok → k ≠ i → (listed.setIfInBounds j true).getD k true = false →
     (∀ e ∈ ok.after,Region.binds md e = true → e.on ≠ i) → oi.apart ops ok = true:=fun k ok hk hki hun hno=>by
    refine hfree k ok hk hki ?_ hno
    by_cases hjk : j = k
    ·subst hjk;exact hjun
    ·rw [getD_set_ne true hjk] at hun;exact hun
   refine wpOp_mono (fun a' w' h3=>?_) h2
   have hS' : S w':=by
    rcases h3.2.1 with h | h
    ·rw [getD_set_ne true hjz,getD_set_ne true hiz,hzu] at h;cases h
    ·exact h
   refine ⟨.inr hS',ih (listed.setIfInBounds j true) a' w' hzu' hku' hfree' (ready_mono hr (Ne.symm hji)) h3.1 hS' ?_⟩
   rw [Array.setIfInBounds_comm _ _ hji]
   exact h3.2.2
theorem tkz (ks : List Nat) {i : Nat} {oi : Oper} {v : Value} {fuel : Nat} {listed : Array Bool} {a : Go.Act} {w : World} (hi : ops[i]? = some oi)
  (hS : S w) (hy : YieldsIf P ops S oi v a) (h : wpAnyZ P md ops Q z S fuel (listed.setIfInBounds i true) (a.put oi.dst v) w)
  (hQ : ∀ c a w,Q (.panic c) (a.put oi.dst v) w → Q (.panic c) a w:=by exact fun _ _ _ h=>h)
  (hs : Region.noSelect ops = true:=by kernel_rfl) (hf : Region.free md ops listed i = true:=by kernel_rfl) (hr : (Region.ready md ops listed).contains i = true:=by kernel_rfl)
  (hiz : (i == z) = false:=by kernel_rfl) (hzu : listed.getD z true = false:=by kernel_rfl) (hku : awaitB md ops listed z i ks = true:=by kernel_rfl) :
  wpAnyZ P md ops Q z S (fuel + 1) listed a w:=wpAnyZ_first hi (Region.noSelect_spec hs) hQ ks (by simpa using hiz) fuel listed a w hzu hku (Region.free_spec hi hf) (by simpa using hr) hy hS h
def AllReadyZ (P : Program) (md : Region.Mode) (ops : Array Oper) (Q : Exit → Go.Act → World → Prop) (z : Nat) (S : World → Prop) (fuel : Nat) (listed : Array Bool) (a : Go.Act) (w : World) (rs : List Nat) : Prop :=
 ∀ i ∈ rs,wpOp P ops Q i (fun a' w'=>((listed.setIfInBounds i true).getD z true = true ∨ S w') ∧ wpAnyZ P md ops Q z S fuel (listed.setIfInBounds i true) a' w') a w
theorem AllReadyZ.nil {fuel : Nat} {listed : Array Bool} {a : Go.Act} {w : World} : AllReadyZ P md ops Q z S fuel listed a w []:=fun _ h=>by cases h
theorem AllReadyZ.cons {fuel : Nat} {listed : Array Bool} {a : Go.Act} {w : World} {i : Nat} {o : Oper} {rs : List Nat} (ho : ops[i]? = some o)
  (h : ∀ K' : Go.Act → World → Prop,Shut (∀ a w,S w → (S w → wpAnyZ P md ops Q z S fuel (listed.setIfInBounds i true) a w) → K' a w) → if Region.wanted o (yielded ops a.tmps) = true then Oper.wp P o a w K' Q else K' (a.put o.dst undef) w)
  (hs : AllReadyZ P md ops Q z S fuel listed a w rs) : AllReadyZ P md ops Q z S fuel listed a w (i :: rs):=fun j hj=>by
 rcases List.mem_cons.1 hj with rfl | hj
 ·exact wpOp_step ho (fun K' hK=>h K' (fun a w hS hW=>hK a w ⟨.inr hS,hW hS⟩))
 ·exact hs j hj
theorem wpAnyZ_ready {rs : List Nat} {fuel : Nat} {listed : Array Bool} {a : Go.Act} {w : World} (hr : Region.ready md ops listed = rs) (hne : rs ≠ []) (h : AllReadyZ P md ops Q z S fuel listed a w rs) : wpAnyZ P md ops Q z S (fuel + 1) listed a w :=
 ⟨fun h0=>absurd (hr ▸ h0) hne,hr ▸ h⟩
/-- The last one, z itself: no fact is asked behind it. -/
theorem wpAnyZ_last {fuel : Nat} {listed : Array Bool} {a : Go.Act} {w : World} {o : Oper} (hr : Region.ready md ops listed = [z]) (hz : (listed.setIfInBounds z true).getD z true = true) (ho : ops[z]? = some o)
  (h : ∀ K' : Go.Act → World → Prop,Shut (∀ a w,wpAnyZ P md ops Q z S fuel (listed.setIfInBounds z true) a w → K' a w) → if Region.wanted o (yielded ops a.tmps) = true then Oper.wp P o a w K' Q else K' (a.put o.dst undef) w) : wpAnyZ P md ops Q z S (fuel + 1) listed a w :=
 ⟨fun h0=>absurd (hr ▸ h0) (by simp),fun i hi=>by
  rw [hr] at hi
  obtain rfl : i = z:=by simpa using hi
  exact wpOp_step ho (fun K' hK=>h K' (fun a w hW=>hK a w ⟨.inl hz,hW⟩))⟩
theorem wpAnyZ_done {listed : Array Bool} {a : Go.Act} {w : World} (hr : Region.ready md ops listed = []) (h : Q .normal a w) : ∀ fuel,wpAnyZ P md ops Q z S fuel listed a w
 | 0=>⟨hr,h⟩
 | _ + 1=>⟨fun _=>h,by rw [hr];simp⟩
theorem wp_region_Z (z : Nat) {id : Nat} {a : Go.Act} {w : World} (hm : P.follows .mixedOrders = true) (hS : S w.drew)
  (h : S w.drew → wpAnyZ P .any ops Q z S ops.size (Array.replicate ops.size false) a w.drew) : (Code.region id ops true).wp P Q a w :=
 wp_region_any hm (wpAny_of_Z _ _ _ _ (h hS))
end
end
section
open Go.WideMaps Go.Maps
attribute [local go_sem] Oper.semAt_some
section
variable {P : Program} {md : Region.Mode} {ops : Array Oper} {Q : Exit → Go.Act → World → Prop} {z : Nat} {S : World → Prop}
/-- a drawn region; what stands behind it by a letter -/
theorem wp_region_cont {id : Nat} {a : Go.Act} {w : World} (hm : P.follows .mixedOrders = true) (hS : S w.drew)
  (h : S w.drew → ∀ QQ,Hid (QQ = Q) → Hid (∀ c a1 k v w,QQ (.panic c) (Go.Act.put a1 (some k) v) w → QQ (.panic c) a1 w) → ∀ OPS,Hid (OPS = ops) → ∀ aa,Hid (aa = a) → wpAnyH P .any ops QQ S ops.size (Array.replicate ops.size false) a w.drew)
  (hP : ∀ c a1 k v w,Q (.panic c) (Go.Act.put a1 (some k) v) w → Q (.panic c) a1 w:=by exact fun _ _ _ _ _ h=>h) : (Code.region id ops true).wp P Q a w :=
 wp_region_held_drew hm hS (fun h'=>h h' Q rfl hP ops rfl a rfl)
end
theorem isz_upl : (Tryz.prog.info? 101).map (·.size) = some 3:=by kernel_rfl
theorem r_cells {α : Type} {d : Kd α} {e : Nat} {w : World} {base : Nat} {ok : Nat → Prop} {v : Value} {xs : List α} (h : d.R e w base ok v xs) : v.cells.toList = [v]:=by
 obtain ⟨A,c,rfl⟩:=Kd.R_slice h;rfl
theorem r_one {α : Type} {d : Kd α} {e : Nat} {w : World} {base : Nat} {ok : Nat → Prop} {v : Value} {xs : List α} (h : d.R e w base ok v xs) : ∀ q ∈ [v],q.oneCell' = true:=by
 obtain ⟨A,c,rfl⟩:=Kd.R_slice h;simp [Value.oneCell']
theorem grown_size {w w' : World} {r : Option Nat} (h : w.grownBy w' r) : w.heap.size ≤ w'.heap.size:=h.size
theorem fewU.walk (A : Option Addr) (c : Nat) (l : List S101) (w : World) (hr : Kd.C k101 w A l.length l) :
  Calls Tryz.prog 31 #[.slice A l.length c] w fun e w'=>∃ v,e = .returned v ∧ Kd.R k101 101 w' w.heap.size (fun _=>True) v (fewUs l) ∧ Below w.heap.size w w':=by
 have HR:=zh hr
 have hlen : (l.length : Int) ≤ 9223372036854775807:=by have:=hr.2.1;omega
 have HB:=zh (Below.refl w.heap.size w)
 clear hr
 go_enter Tryz.func31,Tryz.ntmps31
 go_wp2
 go_loopw [3,4] (fun v3 v4 wr=>∃ k : Nat,v4 = .int .i64 k ∧ k ≤ l.length ∧ k ≤ 11 ∧ Hid (Kd.R k101 101 wr w.heap.size (fun _=>True) v3 ((l.take k).map cutU)) ∧ Hid (Below w.heap.size w wr)) (fun _ v4 _=>l.length - (intOf v4).toNat)
 case atStart=>exact ⟨0,rfl,Nat.zero_le _,by decide,Kd.R_nil _ _ _ _ _,HB⟩
 case round =>
  obtain ⟨k,rfl,hk,hkm,HO,HB⟩:=hrel
  by_cases hlt : k < l.length
  ·by_cases hm : k < 11
   ·have p0 : (0 : Int) ≤ (k : Int):=by omega
    have p1 : (k : Int) < (l.length : Int):=by omega
    have p2 : (k : Int) < 11:=by omega
    have HL:=zh hm
    have HTS:=zh (tk_snoc cutU l k hlt)
    obtain ⟨ad,A2,c2,e',d0,d1,d2,hle2,hC2⟩:=atUpload HR.out (Below.refl _ _) k hlt
    subst e'
    generalize l[k] = x at *
    go_wp2
    have HNE:=zh (fun q hq=>((Kd.R_bound HO.out).1 q hq).2.2.1)
    have HO:=zh (Kd.R_drew (Kd.R_mono (Kd.R_bound HO.out) (fun q hq=>(hq.2.2.1 : q < wr.heap.size))))
    have HW0:=zh (show w.heap.size ≤ wr.heap.size from HB.out.size)
    obtain ⟨W0,hW0⟩ : ∃ n,n = wr.heap.size:=⟨_,rfl⟩
    have hS0 : W0 ≤ wr.drew.heap.size:=by rw [hW0];exact Nat.le_refl _
    rw [← hW0] at HNE HO HW0
    clear hW0
    refine wp_region_cont (S:=fun W=>Below w.heap.size w W ∧ W0 ≤ W.heap.size) (by kernel_rfl) ⟨HB.out.drew,hS0⟩ (fun hHeld QQ hQQ hPQ OPS hOP aa haa=>?_)
    clear HB hS0
    have CONT : ∀ (g : Nat) (w1 : World),(Below w.heap.size w w1 ∧ W0 ≤ w1.heap.size) → Hid (w1.heap[g]? = some (.cells #[.int .u64 0,.string ⟨#[]⟩,.slice none 0 0] 101 (0,0))) → Hid (W0 ≤ g) → Hid (Kd.R k101 101 w1 w.heap.size (fun q=>q < W0) u3 ((l.take k).map cutU)) → wpAnyH Tryz.prog .any OPS QQ (fun W=>Below w.heap.size w W ∧ W0 ≤ W.heap.size) 1 #[true,true,true,true,true,true,true,true,true,true,true,true,true,false] (((((((((((((aa.put (some 17) (.slice (some ad) l.length c)).put (some 18) (.int .i64 (k : Int))).put (some 19) (.pointer (some (ad.add (k * 3))))).put (some 20) (.pointer (some (ad.add (k * 3))))).put (some 21) (.int .u64 x.f0)).put (some 22) (.slice (some ad) l.length c)).put (some 23) (.int .i64 (k : Int))).put (some 24) (.pointer (some (ad.add (k * 3))))).put (some 25) (.pointer (some ⟨(ad.add (k * 3)).block,(ad.add (k * 3)).off + 1,none⟩))).put (some 26) (.string x.f1)).put (some 27) (.string (fewKey x.f1))).put (some 28) (.agg #[.int .u64 x.f0,.string (fewKey x.f1),.slice none 0 0])).put (some 5) (.pointer (some ⟨g,0,none⟩))) w1:=by
     intro g w1 hHeld Kg Lg HO
     rw [hOP.out,haa.out,hQQ.out]
     clear hOP haa hQQ hPQ
     try simp only [zA,zB,zC,Act.put,zD,zE,zF]
     refine wpAnyH_ready (rs:=[13]) (by kernel_rfl) (by simp) ?_
     refine AllReadyH.cons (o:=_) rfl (fun K hK=>?_) AllReadyH.nil
     rw [if_pos (by rfl)]
     refine wp_store_row rfl 101 (.tmp 5) (.tmp 28) rfl g 0 _ 101 (.agg #[.int .u64 x.f0,.string (fewKey x.f1),.slice none 0 0]) [.int .u64 x.f0,.string (fewKey x.f1),.slice none 0 0] rfl rfl Kg.out rfl isz_upl (by show 0 + 3 ≤ 3;decide) (by simp [Value.oneCell']) ?_
     intro w2 hk ho
     have HO:=zh (Kd.R_step HO.out (fun q hq hlt=>ho.out.block q hlt (by have:=Lg.out;omega)))
     have Kg : Hid (w2.heap[g]? = some (.cells #[.int .u64 x.f0,.string (fewKey x.f1),.slice none 0 0] 101 (0,0))):=hk
     refine hK.out _ _ ⟨ho.out.below hHeld.1 hHeld.1.size (Nat.le_trans HW0.out Lg.out),Nat.le_trans hHeld.2 ho.out.size⟩ (fun hHeld=>?_)
     clear hK K hk ho
     try simp only [zA,zB,zC,Act.put,zD,zE,zF]
     refine wpAnyH_done (by kernel_rfl) ?_ _
     have HB : Hid (Below w.heap.size w w2):=hHeld.1
     have HS : Hid (W0 ≤ w2.heap.size):=hHeld.2
     clear hHeld
     go_wp2
     go_loopw [6] (fun v6 wi=>∃ (j : Nat) (v : Value),v6 = .int .i64 j ∧ j ≤ x.f2.length ∧ j ≤ 31 ∧ Hid (wi.heap[g]? = some (.cells #[.int .u64 x.f0,.string (fewKey x.f1),v] 101 (0,0))) ∧ Hid (Kd.R k40 40 wi w.heap.size (fun q=>W0 ≤ q ∧ q ≠ g) v ((x.f2.take j).map cutP)) ∧ Hid (Kd.R k101 101 wi w.heap.size (fun q=>q < W0) u3 ((l.take k).map cutU)) ∧ Hid (Below w.heap.size w wi) ∧ Hid (W0 ≤ wi.heap.size)) (fun v6 _=>x.f2.length - (intOf v6).toNat)
     case atStart=>exact ⟨0,_,rfl,Nat.zero_le _,by decide,Kg,Kd.R_nil _ _ _ _ _,HO,HB,HS⟩
     case round =>
      obtain ⟨j,v,rfl,hj,hj31,Kg,HV,HO,HB,HS⟩:=hrel
      obtain ⟨Av,cv,rfl⟩:=Kd.R_slice HV.out
      obtain ⟨XS,hXS⟩ : ∃ L,(x.f2.take j).map cutP = L:=⟨_,rfl⟩
      have HXL : Hid (XS.length ≤ j):=by unfold Hid;rw [← hXS,List.length_map,List.length_take];omega
      rw [hXS] at HV Kg
      have b2:=keepc HB.out d2
      by_cases jl : j < x.f2.length
      ·by_cases jm : j < 31
       ·obtain ⟨ap,e',f0,f1⟩:=atPart hC2 (Below.refl _ _) j jl
        have r0 : (0 : Int) ≤ (j : Int):=by omega
        have r1 : (j : Int) < (x.f2.length : Int):=by omega
        have r2 : (j : Int) < 31:=by omega
        have HTP:=zh ((tk_snoc cutP x.f2 j jl).trans (by rw [hXS]))
        clear hXS
        have HJ:=zh jm
        subst e'
        generalize x.f2[j] = y at *
        go_wp2
        clear b2
        have Kg:=zh (blk_drew Kg.out)
        have HV:=zh (Kd.R_drew HV.out)
        have HO:=zh (Kd.R_drew HO.out)
        refine wp_region_Z 14 (S:=fun W=>(Below w.heap.size w W ∧ W0 ≤ W.heap.size) ∧ W.cell? ⟨g,2,none⟩ = some (.slice Av XS.length cv)) (by kernel_rfl) ⟨⟨HB.out.drew,HS.out⟩,zj Kg 2⟩ (fun hHeld=>?_)
        clear HB HS
        refine tkz [1,12] (i:=0) (v:=?v0P) rfl hHeld (Or.inl ⟨rfl,?y0P⟩) ?r0P
        case y0P=>(intro w' h;go_simp;try with_reducible rfl)
        try simp only [zA,zB,zC,Act.put,zD,zE,zF]
        refine tkz [12] (i:=1) (v:=?v1P) rfl hHeld (Or.inl ⟨rfl,?y1P⟩) ?r1P
        case y1P=>(intro w' h;have g2:=h.2;go_simp;try with_reducible rfl)
        try simp only [zA,zB,zC,Act.put,zD,zE,zF]
        refine tkz [4,5,6,8,9,10,12] (i:=2) (v:=?v2P) rfl hHeld (Or.inl ⟨rfl,?y2P⟩) ?r2P
        case y2P=>(intro w' h;go_simp;try with_reducible rfl)
        try simp only [zA,zB,zC,Act.put,zD,zE,zF]
        refine tkz [4,5,6,8,9,10,12] (i:=3) (v:=?v3P) rfl hHeld (Or.inl ⟨rfl,?y3P⟩) ?r3P
        case y3P=>(intro w' h;go_simp;try with_reducible rfl)
        try simp only [zA,zB,zC,Act.put,zD,zE,zF]
        refine tkz [5,6,8,9,10,12] (i:=4) (v:=?v4P) rfl hHeld (Or.inl ⟨rfl,?y4P⟩) ?r4P
        case y4P=>(intro w' h;go_simp;try with_reducible rfl)
        try simp only [zA,zB,zC,Act.put,zD,zE,zF]
        refine tkz [6,8,9,10,12] (i:=5) (v:=?v5P) rfl hHeld (Or.inl ⟨rfl,?y5P⟩) ?r5P
        case y5P=>(intro w' h;go_simp;try with_reducible rfl)
        try simp only [zA,zB,zC,Act.put,zD,zE,zF]
        refine tkz [8,9,10,12] (i:=6) (v:=?v6P) rfl hHeld (Or.inl ⟨rfl,?y6P⟩) ?r6P
        case y6P=>(intro w' h;have a2:=keepc h.1.1 d2;go_simp;try with_reducible rfl)
        try simp only [zA,zB,zC,Act.put,zD,zE,zF]
        refine tkz [8,9,10,12] (i:=7) (v:=?v7P) rfl hHeld (Or.inl ⟨rfl,?y7P⟩) ?r7P
        case y7P=>(intro w' h;go_simp;try with_reducible rfl)
        try simp only [zA,zB,zC,Act.put,zD,zE,zF]
        refine tkz [9,10,12] (i:=8) (v:=?v8P) rfl hHeld (Or.inl ⟨rfl,?y8P⟩) ?r8P
        case y8P=>(intro w' h;go_simp;try with_reducible rfl)
        try simp only [zA,zB,zC,Act.put,zD,zE,zF]
        refine tkz [10,12] (i:=9) (v:=?v9P) rfl hHeld (Or.inl ⟨rfl,?y9P⟩) ?r9P
        case y9P=>(intro w' h;have a0:=keepc h.1.1 f0;have a1:=keepc h.1.1 f1;go_simp;try with_reducible rfl)
        try simp only [zA,zB,zC,Act.put,zD,zE,zF]
        refine wpAnyZ_ready (rs:=[10]) (by kernel_rfl) (by simp) ?_
        refine AllReadyZ.cons (o:=_) rfl (fun K hK=>?_) AllReadyZ.nil
        rw [if_pos (by rfl)]
        go_simp
        refine (cellarerlaw08_One.calls y.f0 y.f1 _ _ _ (one_part y)).mono ?_
        rintro e8 w8 ⟨rfl,hb⟩
        have HO:=zh (Kd.R_below HO.out hb)
        have HV:=zh (Kd.R_below HV.out hb)
        have Kg:=zk Kg hb
        refine hK.out _ _ ⟨⟨Below.trans hHeld.1.1 (hb.mono (Below.size hHeld.1.1)),Nat.le_trans hHeld.1.2 hb.size⟩,keepc hb hHeld.2⟩ (fun hHeld=>?_)
        clear hK K hb
        try simp only [zA,zB,zC,Act.put,zD,zE,zF]
        refine wpAnyZ_ready (rs:=[11]) (by kernel_rfl) (by simp) ?_
        refine AllReadyZ.cons (o:=_) rfl (fun K hK=>?_) AllReadyZ.nil
        rw [if_pos (by rfl)]
        go_simp
        have hH0:=hHeld
        have hb:=belowA w8 (.cells #[.int .i64 (cutP y).f0,.string (cutP y).f1] 40)
        refine hK.out _ _ ⟨⟨Below.trans hHeld.1.1 (hb.mono (Below.size hHeld.1.1)),Nat.le_trans hHeld.1.2 hb.size⟩,keepc hb hHeld.2⟩ (fun hHeld=>?_)
        clear hK K hb
        try simp only [zA,zB,zC,Act.put,zD,zE,zF]
        refine wpAnyZ_ready (rs:=[12]) (by kernel_rfl) (by simp) ?_
        refine AllReadyZ.cons (o:=_) rfl (fun K hK=>?_) AllReadyZ.nil
        refine Kd.R_append_step k40 (w0:=w) w.heap.size (by rfl) (.tmp 44) (.tmp 54) 99 40 (.agg #[(.int .i64 0),(.string ⟨#[]⟩)]) 24 rfl Tryz.underlying99 info40 rfl (by decide) (by decide) (.slice Av XS.length cv) XS (cutP y) [.int .i64 (cutP y).f0,.string (cutP y).f1] (fun q=>W0 ≤ q ∧ q ≠ g) (fun _=>False) rfl rfl (k40_mkM _ _ _ (cutP y)) (fun _ hk=>hk.elim) (fun q hq=>⟨Nat.le_trans hH0.1.2 hq,by have:=blk_lt Kg.out;omega⟩) HV.out hH0.1.1 (Below.size hH0.1.1) (by have:=HJ.out;have:=HXL.out;omega) ?_
        intro v9 w9 ho hb hg hat
        rw [← HTP.out] at ho
        have Kg:=zh (blk_grown Kg.out hg (fun e=>(HV.out.1 g e.symm).2 rfl))
        have HO:=zh (Kd.R_grown HO.out hg (fun q hq e=>by have:=(HV.out.1 q e.symm).1;omega))
        have HV:=zh ho
        refine hK.out _ _ ⟨⟨hb,Nat.le_trans hH0.1.2 (grown_size hg)⟩,zj Kg 2⟩ (fun hHeld=>?_)
        clear hK K ho hg hat hH0 hb
        try simp only [zA,zB,zC,Act.put,zD,zE,zF]
        refine tkz [] (i:=13) (v:=?v13P) rfl hHeld (Or.inl ⟨rfl,?y13P⟩) ?r13P
        case y13P=>(intro w' h;go_simp;try with_reducible rfl)
        try simp only [zA,zB,zC,Act.put,zD,zE,zF]
        refine wpAnyZ_last (o:=_) (by kernel_rfl) (by kernel_rfl) rfl (fun K hK=>?_)
        rw [if_pos (by rfl)]
        refine wp_store_row rfl 99 (.tmp 56) (.tmp 55) rfl g 2 _ 101 v9 [v9] rfl rfl Kg.out (r_cells HV.out) (by kernel_rfl) (by show 2 + 1 ≤ 3;decide) (r_one HV.out) ?_
        intro wz hk ho
        have HO:=zh (Kd.R_step HO.out (fun q hq hlt=>ho.out.block q hlt (by have:=Lg.out;omega)))
        have HV:=zh (Kd.R_step HV.out (fun q hq hlt=>ho.out.block q hlt hq.2))
        have HB:=zh (ho.out.below hHeld.1.1 (Below.size hHeld.1.1) (Nat.le_trans HW0.out Lg.out))
        have HS:=zh (Nat.le_trans hHeld.1.2 ho.out.size)
        have Kg : Hid (wz.heap[g]? = some (.cells #[.int .u64 x.f0,.string (fewKey x.f1),v9] 101 (0,0))):=hk
        refine hK.out _ _ ?_
        clear hK K hk ho hHeld
        try simp only [zA,zB,zC,Act.put,zD,zE,zF]
        refine wpAnyZ_done (by kernel_rfl) ?_ _
        go_wp2
        go_roundw
        case rel=>exact ⟨j + 1,v9,by go_num,jl,jm,Kg,HV,HO,HB,HS⟩
        case measure=>simp [intOf];omega
       ·obtain rfl : j = 31:=by omega
        have r1 : (31 : Int) < (x.f2.length : Int):=by omega
        have HE : Kd.R k40 40 wr w.heap.size (fun q=>W0 ≤ q ∧ q ≠ g) (.slice Av XS.length cv) ((x.f2.take 31).map cutP):=by rw [← tk_end cutP x.f2 _ 31 (Or.inr rfl) hj31,hXS];exact HV.out
        have z0:=zb Kg.out 0 (.int .u64 x.f0)
        have z1:=zb Kg.out 1 (.string (fewKey x.f1))
        have z2:=zb Kg.out 2 (.slice Av XS.length cv)
        go_wp2_with (((with_reducible refine gate_builtin (b:=.append) (xs:=#[.tmp 57,.tmp 59]) rfl ?_);at_builtin;go_must (refine Kd.R_append k101 (w0:=w) w.heap.size rfl (.tmp 57) (.tmp 59) 23 101 (.agg #[(.int .u64 0),(.string ⟨#[]⟩),(.slice none 0 0)]) 48 rfl Tryz.underlying23 info101 rfl (by decide) (by decide) u3 ((l.take k).map cutU) (cutU x) [.int .u64 x.f0,.string (fewKey x.f1),.slice Av XS.length cv] (fun _=>True) (fun q=>W0 ≤ q ∧ q ≠ g) rfl rfl (k101_mkM _ _ _ (cutU x) HE) (fun q hq=>⟨trivial,fun e=>by have:=HNE.out q e.symm;omega⟩) (fun _ _=>trivial) (Kd.R_mono HO.out (fun _ _=>trivial)) HB.out HB.out.size (by have:=HL.out;rw [List.length_map,List.length_take];omega) ?_;intro v8 w8 ho hb hg hat;rw [← HTS.out] at ho;have HO:=zh ho;have HB:=zh hb;clear ho hb hg hat)))
        go_roundw
        case rel=>exact ⟨k + 1,by go_num,hlt,hm,HO,HB⟩
        case measure=>simp [intOf];omega
      ·obtain rfl : j = x.f2.length:=by omega
       have HE : Kd.R k40 40 wr w.heap.size (fun q=>W0 ≤ q ∧ q ≠ g) (.slice Av XS.length cv) ((x.f2.take 31).map cutP):=by rw [← tk_end cutP x.f2 _ 31 (Or.inl rfl) hj31,hXS];exact HV.out
       have z0:=zb Kg.out 0 (.int .u64 x.f0)
       have z1:=zb Kg.out 1 (.string (fewKey x.f1))
       have z2:=zb Kg.out 2 (.slice Av XS.length cv)
       go_wp2_with (((with_reducible refine gate_builtin (b:=.append) (xs:=#[.tmp 57,.tmp 59]) rfl ?_);at_builtin;go_must (refine Kd.R_append k101 (w0:=w) w.heap.size rfl (.tmp 57) (.tmp 59) 23 101 (.agg #[(.int .u64 0),(.string ⟨#[]⟩),(.slice none 0 0)]) 48 rfl Tryz.underlying23 info101 rfl (by decide) (by decide) u3 ((l.take k).map cutU) (cutU x) [.int .u64 x.f0,.string (fewKey x.f1),.slice Av XS.length cv] (fun _=>True) (fun q=>W0 ≤ q ∧ q ≠ g) rfl rfl (k101_mkM _ _ _ (cutU x) HE) (fun q hq=>⟨trivial,fun e=>by have:=HNE.out q e.symm;omega⟩) (fun _ _=>trivial) (Kd.R_mono HO.out (fun _ _=>trivial)) HB.out HB.out.size (by have:=HL.out;rw [List.length_map,List.length_take];omega) ?_;intro v8 w8 ho hb hg hat;rw [← HTS.out] at ho;have HO:=zh ho;have HB:=zh hb;clear ho hb hg hat)))
       go_roundw
       case rel=>exact ⟨k + 1,by go_num,hlt,hm,HO,HB⟩
       case measure=>simp [intOf];omega
    refine tk (i:=0) (v:=?v0U) rfl hHeld (Or.inl ⟨rfl,?y0U⟩) ?r0U (hQ:=fun c _ w h=>hPQ.out c _ _ _ w h)
    case y0U=>(intro w' h;go_simp;try with_reducible rfl)
    try simp only [zA,zB,zC,Act.put,zD,zE,zF]
    refine tk (i:=1) (v:=?v1U) rfl hHeld (Or.inl ⟨rfl,?y1U⟩) ?r1U (hQ:=fun c _ w h=>hPQ.out c _ _ _ w h)
    case y1U=>(intro w' h;go_simp;try with_reducible rfl)
    try simp only [zA,zB,zC,Act.put,zD,zE,zF]
    refine tk (i:=2) (v:=?v2U) rfl hHeld (Or.inl ⟨rfl,?y2U⟩) ?r2U (hQ:=fun c _ w h=>hPQ.out c _ _ _ w h)
    case y2U=>(intro w' h;go_simp;try with_reducible rfl)
    try simp only [zA,zB,zC,Act.put,zD,zE,zF]
    refine tk (i:=3) (v:=?v3U) rfl hHeld (Or.inl ⟨rfl,?y3U⟩) ?r3U (hQ:=fun c _ w h=>hPQ.out c _ _ _ w h)
    case y3U=>(intro w' h;go_simp;try with_reducible rfl)
    try simp only [zA,zB,zC,Act.put,zD,zE,zF]
    refine tk (i:=4) (v:=?v4U) rfl hHeld (Or.inl ⟨rfl,?y4U⟩) ?r4U (hQ:=fun c _ w h=>hPQ.out c _ _ _ w h)
    case y4U=>(intro w' h;have a0:=keepc h.1 d0;go_simp;try with_reducible rfl)
    try simp only [zA,zB,zC,Act.put,zD,zE,zF]
    refine tk (i:=5) (v:=?v5U) rfl hHeld (Or.inl ⟨rfl,?y5U⟩) ?r5U (hQ:=fun c _ w h=>hPQ.out c _ _ _ w h)
    case y5U=>(intro w' h;go_simp;try with_reducible rfl)
    try simp only [zA,zB,zC,Act.put,zD,zE,zF]
    refine tk (i:=6) (v:=?v6U) rfl hHeld (Or.inl ⟨rfl,?y6U⟩) ?r6U (hQ:=fun c _ w h=>hPQ.out c _ _ _ w h)
    case y6U=>(intro w' h;go_simp;try with_reducible rfl)
    try simp only [zA,zB,zC,Act.put,zD,zE,zF]
    refine tk (i:=7) (v:=?v7U) rfl hHeld (Or.inl ⟨rfl,?y7U⟩) ?r7U (hQ:=fun c _ w h=>hPQ.out c _ _ _ w h)
    case y7U=>(intro w' h;go_simp;try with_reducible rfl)
    try simp only [zA,zB,zC,Act.put,zD,zE,zF]
    refine tk (i:=8) (v:=?v8U) rfl hHeld (Or.inl ⟨rfl,?y8U⟩) ?r8U (hQ:=fun c _ w h=>hPQ.out c _ _ _ w h)
    case y8U=>(intro w' h;go_simp;try with_reducible rfl)
    try simp only [zA,zB,zC,Act.put,zD,zE,zF]
    refine tk (i:=9) (v:=?v9U) rfl hHeld (Or.inl ⟨rfl,?y9U⟩) ?r9U (hQ:=fun c _ w h=>hPQ.out c _ _ _ w h)
    case y9U=>(intro w' h;have a1:=keepc h.1 d1;go_simp;try with_reducible rfl)
    try simp only [zA,zB,zC,Act.put,zD,zE,zF]
    refine wpAnyH_ready (rs:=[10,12]) (by kernel_rfl) (by simp) ?_
    refine AllReadyH.cons (o:=_) rfl (fun K hK=>?_) (AllReadyH.cons (o:=_) rfl (fun K hK=>?_) AllReadyH.nil)
    ·skip
     rw [if_pos (by rfl)]
     go_simp
     refine (cellarerlaw01_Few.calls x.f1 _ _ (few_key x.f1)).mono ?_
     rintro e8 w8 ⟨rfl,hd⟩
     have hb:=outD hd
     have HO:=zh (Kd.R_below HO.out hb)
     refine hK.out _ _ ⟨Below.trans hHeld.1 (hb.mono (Below.size hHeld.1)),Nat.le_trans hHeld.2 hb.size⟩ (fun hHeld=>?_)
     clear hK K hb hd
     try simp only [zA,zB,zC,Act.put,zD,zE,zF]
     refine tk (i:=11) (v:=?v11Ua) rfl hHeld (Or.inl ⟨rfl,?y11Ua⟩) ?r11Ua (hQ:=fun c _ w h=>hPQ.out c _ _ _ w h)
     case y11Ua=>(intro w' h;go_simp;try with_reducible rfl)
     try simp only [zA,zB,zC,Act.put,zD,zE,zF]
     refine wpAnyH_ready (rs:=[12]) (by kernel_rfl) (by simp) ?_
     refine AllReadyH.cons (o:=_) rfl (fun K hK=>?_) AllReadyH.nil
     rw [if_pos (by rfl)]
     refine wp_box_row (N:=5) rfl (cs:=#[.int .u64 0,.string ⟨#[]⟩,.slice none 0 0]) (t:=101) (by first | (go_simp;done) | (go_simp;rfl)) ?_
     intro g hg w9 hk hb
     have HO:=zh (Kd.R_below HO.out hb)
     have Kg:=zh hk
     have Lg : Hid (W0 ≤ g):=by rw [hg];exact hHeld.2
     refine hK.out _ _ ⟨Below.trans hHeld.1 (hb.mono (Below.size hHeld.1)),Nat.le_trans hHeld.2 hb.size⟩ (fun hHeld=>?_)
     clear hK K hk hb hg
     try simp only [zA,zB,zC,Act.put,zD,zE,zF]
     have hc:=CONT g _ hHeld Kg Lg HO
     rw [hOP.out,haa.out] at hc
     try simp only [zA,zB,zC,Act.put,zD,zE,zF] at hc
     exact hc
    ·skip
     rw [if_pos (by rfl)]
     refine wp_box_row (N:=5) rfl (cs:=#[.int .u64 0,.string ⟨#[]⟩,.slice none 0 0]) (t:=101) (by first | (go_simp;done) | (go_simp;rfl)) ?_
     intro g hg w9 hk hb
     have HO:=zh (Kd.R_below HO.out hb)
     have Kg:=zh hk
     have Lg : Hid (W0 ≤ g):=by rw [hg];exact hHeld.2
     refine hK.out _ _ ⟨Below.trans hHeld.1 (hb.mono (Below.size hHeld.1)),Nat.le_trans hHeld.2 hb.size⟩ (fun hHeld=>?_)
     clear hK K hk hb hg
     try simp only [zA,zB,zC,Act.put,zD,zE,zF]
     refine wpAnyH_ready (rs:=[10]) (by kernel_rfl) (by simp) ?_
     refine AllReadyH.cons (o:=_) rfl (fun K hK=>?_) AllReadyH.nil
     rw [if_pos (by rfl)]
     go_simp
     refine (cellarerlaw01_Few.calls x.f1 _ _ (few_key x.f1)).mono ?_
     rintro e8 w8 ⟨rfl,hd⟩
     have hb:=outD hd
     have HO:=zh (Kd.R_below HO.out hb)
     have Kg:=zk Kg hb
     refine hK.out _ _ ⟨Below.trans hHeld.1 (hb.mono (Below.size hHeld.1)),Nat.le_trans hHeld.2 hb.size⟩ (fun hHeld=>?_)
     clear hK K hb hd
     try simp only [zA,zB,zC,Act.put,zD,zE,zF]
     refine tk (i:=11) (v:=?v11Ub) rfl hHeld (Or.inl ⟨rfl,?y11Ub⟩) ?r11Ub (hQ:=fun c _ w h=>hPQ.out c _ _ _ w h)
     case y11Ub=>(intro w' h;go_simp;try with_reducible rfl)
     try simp only [zA,zB,zC,Act.put,zD,zE,zF]
     have hc:=CONT g _ hHeld Kg Lg HO
     rw [hOP.out,haa.out] at hc
     try simp only [zA,zB,zC,Act.put,zD,zE,zF] at hc
     exact hc
   ·obtain rfl : k = 11:=by omega
    have p1 : (11 : Int) < (l.length : Int):=by omega
    have HE:=HO.out
    rw [tk_end cutU l _ 11 (Or.inr rfl) hkm] at HE
    go_wp2
    go_ret
    exact ⟨_,rfl,HE,HB.out⟩
  ·obtain rfl : k = l.length:=by omega
   have HE:=HO.out
   rw [tk_end cutU l _ 11 (Or.inl rfl) hkm] at HE
   go_wp2
   go_ret
   exact ⟨_,rfl,HE,HB.out⟩
end
section
open Go.WideMaps Go.Maps

end
section
open Go.WideMaps Go.Maps
attribute [local go_sem] Oper.semAt_some
theorem few.walk (b : S26) (A2 A3 : Option Addr) (c2 c3 : Nat) (w : World) (h2 : Kd.C k56 w A2 b.f2.length b.f2) (g2 : b.f2.length ≤ c2) (h3 : Kd.C k101 w A3 b.f3.length b.f3) (g3 : b.f3.length ≤ c3) :
  Calls Tryz.prog 10 #[.agg #[.string b.f0,.int .i64 b.f1,.slice A2 b.f2.length c2,.slice A3 b.f3.length c3,.int .u64 b.f4]] w fun e w'=>∃ A5 c5 A6 c6,e = .returned (.agg #[.string (cutB b).f0,.int .i64 (cutB b).f1,.slice A5 (cutB b).f2.length c5,.slice A6 (cutB b).f3.length c6,.int .u64 (cutB b).f4]) ∧ (cutB b).f2.length ≤ c5 ∧ (cutB b).f3.length ≤ c6 ∧ Kd.C k56 w' A5 (cutB b).f2.length (cutB b).f2 ∧ Kd.C k101 w' A6 (cutB b).f3.length (cutB b).f3 ∧ Below w.heap.size w w':=by
 have HFE:=zh (fun (W : World) (h : Below w.heap.size w W)=>fewE.walk A2 c2 b.f2 W (Kd.C_below h2 h))
 have HFU:=zh (fun (W : World) (h : Below w.heap.size w W)=>fewU.walk A3 c3 b.f3 W (Kd.C_below h3 h))
 have HB:=zh (Below.refl w.heap.size w)
 clear h2 g2 h3 g3
 go_enter Tryz.func10,Tryz.ntmps10
 go_wp2_with (first
  | ((with_reducible refine gate_dst (N:=1) rfl ?_);go_must (refine zx HB (N:=1) (cs:=#[.string b.f0,.int .i64 b.f1,.slice A2 b.f2.length c2,.slice A3 b.f3.length c3,.int .u64 b.f4]) (t:=26) ?hr ?_;(case hr=>first | (go_simp;done) | (go_simp;rfl));intro gb w1 Kgb Lgb HB hbelgb hqgb;clear hbelgb hqgb))
  | ((with_reducible refine gate_dst (N:=2) rfl ?_);go_must (refine zx HB (N:=2) (cs:=#[.string ⟨#[]⟩,.int .i64 0,.slice none 0 0,.slice none 0 0,.int .u64 0]) (t:=26) ?hr ?_;(case hr=>first | (go_simp;done) | (go_simp;rfl));intro go w2 Kgo Lgo HB hbelgo hqgo;have M2:=zh (show gb < go by rw [hqgo];exact blk_lt Kgb.out);have Kgb:=zk Kgb hbelgo;clear hbelgo hqgo)))
 refine wp_region_held_drew (S:=fun W=>Below w.heap.size w W ∧ W.heap[gb]? = some (.cells #[.string b.f0,.int .i64 b.f1,.slice A2 b.f2.length c2,.slice A3 b.f3.length c3,.int .u64 b.f4] 26 (0,0))) (by kernel_rfl) ⟨HB.out.drew,blk_drew Kgb.out⟩ (fun hHeld=>?_)
 have Kgo:=zh (blk_drew Kgo.out)
 clear HB Kgb
 refine zt 0 (v:=?v0Y) ?y0Y ?r0Y
 case y0Y=>(intro w' h;go_simp;try with_reducible rfl)
 try simp only [zA,zB,zC,Act.put,zD,zE,zF]
 refine zt 1 (v:=?v1Y) ?y1Y ?r1Y
 case y1Y=>(intro w' h;have a0:=blk_cell h.2 0;go_simp;try with_reducible rfl)
 try simp only [zA,zB,zC,Act.put,zD,zE,zF]
 refine zt 3 (v:=?v3Y) ?y3Y ?r3Y
 case y3Y=>(intro w' h;go_simp;try with_reducible rfl)
 try simp only [zA,zB,zC,Act.put,zD,zE,zF]
 refine zt 4 (v:=?v4Y) ?y4Y ?r4Y
 case y4Y=>(intro w' h;have a1:=blk_cell h.2 1;go_simp;try with_reducible rfl)
 try simp only [zA,zB,zC,Act.put,zD,zE,zF]
 refine zt 5 (v:=?v5Y) ?y5Y ?r5Y
 case y5Y=>(intro w' h;go_simp;try with_reducible rfl)
 try simp only [zA,zB,zC,Act.put,zD,zE,zF]
 refine zt 6 (v:=?v6Y) ?y6Y ?r6Y
 case y6Y=>(intro w' h;have a2:=blk_cell h.2 2;go_simp;try with_reducible rfl)
 try simp only [zA,zB,zC,Act.put,zD,zE,zF]
 refine zt 8 (v:=?v8Y) ?y8Y ?r8Y
 case y8Y=>(intro w' h;go_simp;try with_reducible rfl)
 try simp only [zA,zB,zC,Act.put,zD,zE,zF]
 refine zt 9 (v:=?v9Y) ?y9Y ?r9Y
 case y9Y=>(intro w' h;have a3:=blk_cell h.2 3;go_simp;try with_reducible rfl)
 try simp only [zA,zB,zC,Act.put,zD,zE,zF]
 refine zt 11 (v:=?v11Y) ?y11Y ?r11Y
 case y11Y=>(intro w' h;go_simp;try with_reducible rfl)
 try simp only [zA,zB,zC,Act.put,zD,zE,zF]
 refine zt 12 (v:=?v12Y) ?y12Y ?r12Y
 case y12Y=>(intro w' h;have a4:=blk_cell h.2 4;go_simp;try with_reducible rfl)
 try simp only [zA,zB,zC,Act.put,zD,zE,zF]
 refine wpAnyH_ready (rs:=[2]) (by kernel_rfl) (by simp) ?_
 refine AllReadyH.cons (o:=_) rfl (fun K hK=>?_) AllReadyH.nil
 rw [if_pos (by rfl)]
 go_simp
 refine (cellarerlaw01_Few.calls b.f0 _ _ (few_key b.f0)).mono ?_
 rintro e8 w8 ⟨rfl,hd⟩
 have hb:=outD hd
 clear hd
 have Kgo:=zk Kgo hb
 refine hK.out _ _ ⟨Below.trans hHeld.1 (hb.mono (Below.size hHeld.1)),blk_below hHeld.2 hb⟩ (fun hHeld=>?_)
 clear hK K hb
 try simp only [zA,zB,zC,Act.put,zD,zE,zF]
 refine wpAnyH_ready (rs:=[7]) (by kernel_rfl) (by simp) ?_
 refine AllReadyH.cons (o:=_) rfl (fun K hK=>?_) AllReadyH.nil
 rw [if_pos (by rfl)]
 go_simp
 refine (HFE.out _ hHeld.1).mono ?_
 rintro e8 w8 ⟨v1,rfl,hv,hb⟩
 obtain ⟨A5,c5,rfl,l5,C5⟩:=Kd.R_reads hv
 have Y3:=zh C5
 clear hv C5
 have Kgo:=zk Kgo hb
 refine hK.out _ _ ⟨Below.trans hHeld.1 (hb.mono (Below.size hHeld.1)),blk_below hHeld.2 hb⟩ (fun hHeld=>?_)
 clear hK K hb
 try simp only [zA,zB,zC,Act.put,zD,zE,zF]
 refine wpAnyH_ready (rs:=[10]) (by kernel_rfl) (by simp) ?_
 refine AllReadyH.cons (o:=_) rfl (fun K hK=>?_) AllReadyH.nil
 rw [if_pos (by rfl)]
 go_simp
 refine (HFU.out _ hHeld.1).mono ?_
 rintro e8 w8 ⟨v2,rfl,hv,hb⟩
 obtain ⟨A6,c6,rfl,l6,C6⟩:=Kd.R_reads hv
 have Y3:=zc Y3 hb
 have Y4:=zh C6
 clear hv C6
 have Kgo:=zk Kgo hb
 refine hK.out _ _ ⟨Below.trans hHeld.1 (hb.mono (Below.size hHeld.1)),blk_below hHeld.2 hb⟩ (fun hHeld=>?_)
 clear hK K hb
 try simp only [zA,zB,zC,Act.put,zD,zE,zF]
 refine zt 13 (v:=?v13Y) ?y13Y ?r13Y
 case y13Y=>(intro w' h;go_simp;try with_reducible rfl)
 try simp only [zA,zB,zC,Act.put,zD,zE,zF]
 refine wpAnyH_ready (rs:=[14]) (by kernel_rfl) (by simp) ?_
 refine AllReadyH.cons (o:=_) rfl (fun K hK=>?_) AllReadyH.nil
 rw [if_pos (by rfl)]
 refine wp_store_row rfl 26 (.tmp 2) (.tmp 16) rfl go 0 _ 26 (.agg #[.string (fewKey b.f0),.int .i64 b.f1,.slice A5 (fewE b.f2).length c5,.slice A6 (fewUs b.f3).length c6,.int .u64 b.f4]) [.string (fewKey b.f0),.int .i64 b.f1,.slice A5 (fewE b.f2).length c5,.slice A6 (fewUs b.f3).length c6,.int .u64 b.f4] rfl rfl Kgo.out rfl isz_bucket (by show 0 + 5 ≤ 5;decide) (by simp [Value.oneCell']) ?_
 intro w9 hk ho
 have Y3:=zh (keepE Y3.out Kgo.out (bk_like _ _ _ _ _ _ _ _ _) ho.out)
 have Y4:=zh (keepU Y4.out Kgo.out (bk_like _ _ _ _ _ _ _ _ _) ho.out)
 refine hK.out _ _ ⟨ho.out.below hHeld.1 (Below.size hHeld.1) Lgo.out,ho.out.blk hHeld.2 (by have:=M2.out;omega)⟩ (fun hHeld=>?_)
 have z0:=zb hk.out 0 (.string (fewKey b.f0))
 have z1:=zb hk.out 1 (.int .i64 b.f1)
 have z2:=zb hk.out 2 (.slice A5 (fewE b.f2).length c5)
 have z3:=zb hk.out 3 (.slice A6 (fewUs b.f3).length c6)
 have z4:=zb hk.out 4 (.int .u64 b.f4)
 clear hK K hk ho
 try simp only [zA,zB,zC,Act.put,zD,zE,zF]
 refine wpAnyH_done (by kernel_rfl) ?_ _
 go_wp2
 refine bodyPost_ret (v:=.agg #[.string (fewKey b.f0),.int .i64 b.f1,.slice A5 (fewE b.f2).length c5,.slice A6 (fewUs b.f3).length c6,.int .u64 b.f4]) (by simp [results,Tryz.results10,go_sem,z0,z1,z2,z3,z4]) rfl ?_
 exact ⟨A5,c5,A6,c6,rfl,l5,l6,Y3.out,Y4.out,hHeld.1⟩
end
section
open Go.WideMaps Go.Maps
def kB : Kd S26:=Kd.iso (Kd.pair Kd.string (Kd.pair (Kd.int .i64) (Kd.pair (Kd.slice 56 k56) (Kd.pair (Kd.slice 101 k101) (Kd.int .u64))))) (fun x : S26=>(x.f0,x.f1,x.f2,x.f3,x.f4))
theorem kB_open {w : World} {x : S26} {cs : List Value} (h : kB.K w x cs) : ∃ A2 c2 A3 c3,cs = [.string x.f0,.int .i64 x.f1,.slice A2 x.f2.length c2,.slice A3 x.f3.length c3,.int .u64 x.f4] ∧ x.f2.length ≤ c2 ∧ k56.C w A2 x.f2.length x.f2 ∧ x.f3.length ≤ c3 ∧ k101.C w A3 x.f3.length x.f3:=by
 obtain ⟨_,_,rfl,rfl,⟨_,_,rfl,rfl,⟨_,_,rfl,⟨A2,c2,rfl,l2,g2⟩,⟨_,_,rfl,⟨A3,c3,rfl,l3,g3⟩,rfl⟩⟩⟩⟩:=h
 exact ⟨A2,c2,A3,c3,rfl,l2,g2,l3,g3⟩
theorem kB_mk (w : World) (x : S26) {A2 : Option Addr} {c2 : Nat} (l2 : x.f2.length ≤ c2) (g2 : k56.C w A2 x.f2.length x.f2) {A3 : Option Addr} {c3 : Nat} (l3 : x.f3.length ≤ c3) (g3 : k101.C w A3 x.f3.length x.f3) : kB.K w x [.string x.f0,.int .i64 x.f1,.slice A2 x.f2.length c2,.slice A3 x.f3.length c3,.int .u64 x.f4]:=⟨[.string x.f0],[.int .i64 x.f1,.slice A2 x.f2.length c2,.slice A3 x.f3.length c3,.int .u64 x.f4],rfl,rfl,⟨[.int .i64 x.f1],[.slice A2 x.f2.length c2,.slice A3 x.f3.length c3,.int .u64 x.f4],rfl,rfl,⟨[.slice A2 x.f2.length c2],[.slice A3 x.f3.length c3,.int .u64 x.f4],rfl,⟨A2,c2,rfl,l2,g2⟩,⟨[.slice A3 x.f3.length c3],[.int .u64 x.f4],rfl,⟨A3,c3,rfl,l3,g3⟩,rfl⟩⟩⟩⟩
def kA : Kd Act:=Kd.iso (Kd.pair (Kd.int .u8) (Kd.pair Kd.string (Kd.pair Kd.string (Kd.pair (Kd.int .u64) (Kd.pair (Kd.int .i64) (Kd.pair (Kd.int .i64) (Kd.slice 43 k43))))))) (fun x : Act=>(x.kd,x.key,x.data,x.id,x.n,x.q,x.ps))
theorem kA_open {w : World} {x : Act} {cs : List Value} (h : kA.K w x cs) : ∃ A6 c6,cs = [.int .u8 x.kd,.string x.key,.string x.data,.int .u64 x.id,.int .i64 x.n,.int .i64 x.q,.slice A6 x.ps.length c6] ∧ x.ps.length ≤ c6 ∧ k43.C w A6 x.ps.length x.ps:=by
 obtain ⟨_,_,rfl,rfl,⟨_,_,rfl,rfl,⟨_,_,rfl,rfl,⟨_,_,rfl,rfl,⟨_,_,rfl,rfl,⟨_,_,rfl,rfl,⟨A6,c6,rfl,l6,g6⟩⟩⟩⟩⟩⟩⟩:=h
 exact ⟨A6,c6,rfl,l6,g6⟩
theorem kA_mk (w : World) (x : Act) {A6 : Option Addr} {c6 : Nat} (l6 : x.ps.length ≤ c6) (g6 : k43.C w A6 x.ps.length x.ps) : kA.K w x [.int .u8 x.kd,.string x.key,.string x.data,.int .u64 x.id,.int .i64 x.n,.int .i64 x.q,.slice A6 x.ps.length c6]:=⟨[.int .u8 x.kd],[.string x.key,.string x.data,.int .u64 x.id,.int .i64 x.n,.int .i64 x.q,.slice A6 x.ps.length c6],rfl,rfl,⟨[.string x.key],[.string x.data,.int .u64 x.id,.int .i64 x.n,.int .i64 x.q,.slice A6 x.ps.length c6],rfl,rfl,⟨[.string x.data],[.int .u64 x.id,.int .i64 x.n,.int .i64 x.q,.slice A6 x.ps.length c6],rfl,rfl,⟨[.int .u64 x.id],[.int .i64 x.n,.int .i64 x.q,.slice A6 x.ps.length c6],rfl,rfl,⟨[.int .i64 x.n],[.int .i64 x.q,.slice A6 x.ps.length c6],rfl,rfl,⟨[.int .i64 x.q],[.slice A6 x.ps.length c6],rfl,rfl,⟨A6,c6,rfl,l6,g6⟩⟩⟩⟩⟩⟩⟩
def zAct : Act:=⟨0,⟨#[]⟩,⟨#[]⟩,0,0,0,[]⟩
theorem atAct {w w1 : World} {A : Option Addr} {l : List Act} (hr : Kd.C kA w A l.length l) (hb : Below w.heap.size w w1) (k : Nat) (h : k < l.length) :
  ∃ ad A6 c6,A = some ad ∧ w1.cell? (ad.add (k * 7)) = some (.int .u8 l[k].kd) ∧ w1.cell? ⟨(ad.add (k * 7)).block,(ad.add (k * 7)).off + 1,none⟩ = some (.string l[k].key) ∧ w1.cell? ⟨(ad.add (k * 7)).block,(ad.add (k * 7)).off + 2,none⟩ = some (.string l[k].data) ∧ w1.cell? ⟨(ad.add (k * 7)).block,(ad.add (k * 7)).off + 3,none⟩ = some (.int .u64 l[k].id) ∧ w1.cell? ⟨(ad.add (k * 7)).block,(ad.add (k * 7)).off + 4,none⟩ = some (.int .i64 l[k].n) ∧ w1.cell? ⟨(ad.add (k * 7)).block,(ad.add (k * 7)).off + 5,none⟩ = some (.int .i64 l[k].q) ∧ w1.cell? ⟨(ad.add (k * 7)).block,(ad.add (k * 7)).off + 6,none⟩ = some (.slice A6 l[k].ps.length c6) ∧ l[k].ps.length ≤ c6 ∧ Kd.C k43 w1 A6 l[k].ps.length l[k].ps:=by
 obtain ⟨ad,c,e,_,hK,hc0⟩:=Kd.C_get hr zAct (k : Int) (by omega) (by omega)
 rw [Int.toNat_natCast] at hc0
 have ez : l.getD ((k : Int).toNat) zAct = l[k]:=by rw [Int.toNat_natCast];simp [List.getD_eq_getElem?_getD,h]
 rw [ez] at hK
 have hc : ∀ j u,c[j]? = some u → w.cell? (ad.add (k * 7 + j)) = some u:=hc0
 obtain ⟨A6,c6,rfl,l6,g6⟩:=kA_open hK
 exact ⟨ad,A6,c6,e,keepc hb (hc 0 _ rfl),keepc hb (by rw [← add_field _ _ 1 (by omega)];exact hc 1 _ rfl),keepc hb (by rw [← add_field _ _ 2 (by omega)];exact hc 2 _ rfl),keepc hb (by rw [← add_field _ _ 3 (by omega)];exact hc 3 _ rfl),keepc hb (by rw [← add_field _ _ 4 (by omega)];exact hc 4 _ rfl),keepc hb (by rw [← add_field _ _ 5 (by omega)];exact hc 5 _ rfl),keepc hb (by rw [← add_field _ _ 6 (by omega)];exact hc 6 _ rfl),l6,Kd.C_below g6 hb⟩
end
section
open Go.WideMaps Go.Maps
def wfu (n : Int) : Prop:=0 ≤ n ∧ n ≤ 18446744073709551615
def wfi (n : Int) : Prop:=-9223372036854775808 ≤ n ∧ n ≤ 9223372036854775807
theorem wfu_of {n : Int} (h : (Lit.int .u64 n).wf = true) : wfu n:=by
 have h2 : (decide ((IntKind.u64).min ≤ n) && decide (n ≤ (IntKind.u64).max)) = true:=h
 rw [Bool.and_eq_true,decide_eq_true_eq,decide_eq_true_eq,show (IntKind.u64).min = 0 from rfl,show (IntKind.u64).max = 18446744073709551615 from rfl] at h2
 exact h2
theorem wfi_of {n : Int} (h : (Lit.int .i64 n).wf = true) : wfi n:=by
 have h2 : (decide ((IntKind.i64).min ≤ n) && decide (n ≤ (IntKind.i64).max)) = true:=h
 rw [Bool.and_eq_true,decide_eq_true_eq,decide_eq_true_eq,show (IntKind.i64).min = -9223372036854775808 from rfl,show (IntKind.i64).max = 9223372036854775807 from rfl] at h2
 exact h2
def wf8 (n : Int) : Prop:=0 ≤ n ∧ n ≤ 255
theorem wf8_of {n : Int} (h : (Lit.int .u8 n).wf = true) : wf8 n:=by
 have h2 : (decide ((IntKind.u8).min ≤ n) && decide (n ≤ (IntKind.u8).max)) = true:=h
 rw [Bool.and_eq_true,decide_eq_true_eq,decide_eq_true_eq,show (IntKind.u8).min = 0 from rfl,show (IntKind.u8).max = 255 from rfl] at h2
 exact h2
def wf32 (n : Int) : Prop:=0 ≤ n ∧ n ≤ 4294967295
theorem wf32_of {n : Int} (h : (Lit.int .u32 n).wf = true) : wf32 n:=by
 have h2 : (decide ((IntKind.u32).min ≤ n) && decide (n ≤ (IntKind.u32).max)) = true:=h
 rw [Bool.and_eq_true,decide_eq_true_eq,decide_eq_true_eq,show (IntKind.u32).min = 0 from rfl,show (IntKind.u32).max = 4294967295 from rfl] at h2
 exact h2
theorem tstruct5 {H : Type} {enc : TypeId × Value → H} {P : Program} {w : World} {base : Nat} {spare : Nat → Bool} {held : Bool} {t : TypeId} {f0 f1 f2 f3 f4 : Field} {fuel : Nat} {cs : List Value} {x : DataW H × List MemPlace} (ht : P.underlying t = some (.struct #[f0,f1,f2,f3,f4])) (h : DataW.trod enc P w base spare held fuel t cs = some x) :
  ∃ y0 y1 y2 y3 y4 n,cs.length = P.cellsOf t ∧ DataW.trod enc P w base spare held n f0.type ((cs.drop f0.offset).take (P.cellsOf f0.type)) = some y0 ∧ DataW.trod enc P w base spare held n f1.type ((cs.drop f1.offset).take (P.cellsOf f1.type)) = some y1 ∧
   DataW.trod enc P w base spare held n f2.type ((cs.drop f2.offset).take (P.cellsOf f2.type)) = some y2 ∧ DataW.trod enc P w base spare held n f3.type ((cs.drop f3.offset).take (P.cellsOf f3.type)) = some y3 ∧ DataW.trod enc P w base spare held n f4.type ((cs.drop f4.offset).take (P.cellsOf f4.type)) = some y4:=by
 obtain ⟨xs,n,_,_,hl,hlen,hf⟩:=DataW.trod_struct ht h
 match xs,hlen with
 | [y0,y1,y2,y3,y4],_=>exact ⟨y0,y1,y2,y3,y4,n,hl,hf 0 f0 rfl,hf 1 f1 rfl,hf 2 f2 rfl,hf 3 f3 rfl,hf 4 f4 rfl⟩
theorem tstruct4 {H : Type} {enc : TypeId × Value → H} {P : Program} {w : World} {base : Nat} {spare : Nat → Bool} {held : Bool} {t : TypeId} {f0 f1 f2 f3 : Field} {fuel : Nat} {cs : List Value} {x : DataW H × List MemPlace} (ht : P.underlying t = some (.struct #[f0,f1,f2,f3])) (h : DataW.trod enc P w base spare held fuel t cs = some x) :
  ∃ y0 y1 y2 y3 n,cs.length = P.cellsOf t ∧ DataW.trod enc P w base spare held n f0.type ((cs.drop f0.offset).take (P.cellsOf f0.type)) = some y0 ∧ DataW.trod enc P w base spare held n f1.type ((cs.drop f1.offset).take (P.cellsOf f1.type)) = some y1 ∧
   DataW.trod enc P w base spare held n f2.type ((cs.drop f2.offset).take (P.cellsOf f2.type)) = some y2 ∧ DataW.trod enc P w base spare held n f3.type ((cs.drop f3.offset).take (P.cellsOf f3.type)) = some y3:=by
 obtain ⟨xs,n,_,_,hl,hlen,hf⟩:=DataW.trod_struct ht h
 match xs,hlen with
 | [y0,y1,y2,y3],_=>exact ⟨y0,y1,y2,y3,n,hl,hf 0 f0 rfl,hf 1 f1 rfl,hf 2 f2 rfl,hf 3 f3 rfl⟩
theorem tstruct3 {H : Type} {enc : TypeId × Value → H} {P : Program} {w : World} {base : Nat} {spare : Nat → Bool} {held : Bool} {t : TypeId} {f0 f1 f2 : Field} {fuel : Nat} {cs : List Value} {x : DataW H × List MemPlace} (ht : P.underlying t = some (.struct #[f0,f1,f2])) (h : DataW.trod enc P w base spare held fuel t cs = some x) :
  ∃ y0 y1 y2 n,cs.length = P.cellsOf t ∧ DataW.trod enc P w base spare held n f0.type ((cs.drop f0.offset).take (P.cellsOf f0.type)) = some y0 ∧ DataW.trod enc P w base spare held n f1.type ((cs.drop f1.offset).take (P.cellsOf f1.type)) = some y1 ∧
   DataW.trod enc P w base spare held n f2.type ((cs.drop f2.offset).take (P.cellsOf f2.type)) = some y2:=by
 obtain ⟨xs,n,_,_,hl,hlen,hf⟩:=DataW.trod_struct ht h
 match xs,hlen with
 | [y0,y1,y2],_=>exact ⟨y0,y1,y2,n,hl,hf 0 f0 rfl,hf 1 f1 rfl,hf 2 f2 rfl⟩
theorem tstruct2 {H : Type} {enc : TypeId × Value → H} {P : Program} {w : World} {base : Nat} {spare : Nat → Bool} {held : Bool} {t : TypeId} {f0 f1 : Field} {fuel : Nat} {cs : List Value} {x : DataW H × List MemPlace} (ht : P.underlying t = some (.struct #[f0,f1])) (h : DataW.trod enc P w base spare held fuel t cs = some x) :
  ∃ y0 y1 n,cs.length = P.cellsOf t ∧ DataW.trod enc P w base spare held n f0.type ((cs.drop f0.offset).take (P.cellsOf f0.type)) = some y0 ∧ DataW.trod enc P w base spare held n f1.type ((cs.drop f1.offset).take (P.cellsOf f1.type)) = some y1:=by
 obtain ⟨xs,n,_,_,hl,hlen,hf⟩:=DataW.trod_struct ht h
 match xs,hlen with
 | [y0,y1],_=>exact ⟨y0,y1,n,hl,hf 0 f0 rfl,hf 1 f1 rfl⟩
def OpensQ {α : Type} (P : Program) (d : Kd α) (t : TypeId) (Q : α → Prop) : Prop :=
 ∀ (H : Type) (enc : TypeId × Value → H) (W : World) (n : Nat) (cs : List Value) (x : DataW H × List MemPlace),DataW.trod enc P W 0 (fun _=>true) true n t cs = some x → ∃ y : α,d.K W y cs ∧ Q y
theorem opensQ_C {α : Type} {P : Program} {d : Kd α} {t e : TypeId} (ht : P.underlying t = some (.slice e)) (hs : P.cellsOf e = d.sz) {Q : α → Prop} (he : OpensQ P d e Q) (z : α) (H : Type) (enc : TypeId × Value → H) (W : World) (n : Nat) (cs : List Value) (x : DataW H × List MemPlace)
  (h : DataW.trod enc P W 0 (fun _=>true) true n t cs = some x) : ∃ (l : List α) (A : Option Addr) (c : Nat),cs = [.slice A l.length c] ∧ l.length ≤ c ∧ d.C W A l.length l ∧ ∀ x ∈ l,Q x:=by
 rcases DataW.trod_slice ht h with ⟨rfl,_⟩ | ⟨a,len,cap,elems,rest,m,_,rfl,_,_,hl,hm,hlen,hel,_,_⟩
 ·exact ⟨[],none,0,rfl,Nat.le_refl _,⟨rfl,by simp,fun h0=>by simp at h0⟩,fun x hx=>by cases hx⟩
 have each : ∀ i : Nat,∃ p : α,i < len → Q p ∧ ∃ c : List Value,c.length = d.sz ∧ d.K W p c ∧ ∀ j u,c[j]? = some u → W.cell? (a.add (i * d.sz + j)) = some u:=by
  intro i
  by_cases hi : i < len
  ·have h1:=hel i hi
   rw [List.getElem?_eq_getElem (by omega),Option.bind_eq_some_iff] at h1
   obtain ⟨c,hc,ht'⟩:=h1
   obtain ⟨y,hy,hq⟩:=he H enc W m c _ ht'
   refine ⟨y,fun _=>⟨hq,c,d.K_len hy,hy,fun j u hu=>?_⟩⟩
   obtain ⟨_,hcl,hcell⟩:=World.cells?_some hc
   have:=hcell j (by have:=(List.getElem?_eq_some_iff.1 hu).1;omega)
   rw [hs,add_add] at this
   rw [this,hu]
  ·exact ⟨z,fun h=>absurd h hi⟩
 obtain ⟨f,hf⟩:=Classical.skolem.1 each
 refine ⟨(List.range len).map f,some a,cap,by simp,by simpa using hl,⟨by simp,by simp [maxLen] at hm ⊢;omega,fun _=>⟨a,rfl,fun j p hj=>?_⟩⟩,fun x hx=>by
  obtain ⟨j,hj,rfl⟩:=List.mem_map.1 hx
  exact (hf j (List.mem_range.1 hj)).1⟩
 rw [List.getElem?_map] at hj
 have hjl : j < len:=by
  rcases Nat.lt_or_ge j len with h | h
  ·exact h
  ·rw [List.getElem?_eq_none (by simpa using h)] at hj;cases hj
 rw [List.getElem?_range hjl] at hj
 injection hj with hj
 subst hj
 exact (hf j hjl).2
theorem tstruct7 {H : Type} {enc : TypeId × Value → H} {P : Program} {w : World} {base : Nat} {spare : Nat → Bool} {held : Bool} {t : TypeId} {f0 f1 f2 f3 f4 f5 f6 : Field} {fuel : Nat} {cs : List Value} {x : DataW H × List MemPlace} (ht : P.underlying t = some (.struct #[f0,f1,f2,f3,f4,f5,f6])) (h : DataW.trod enc P w base spare held fuel t cs = some x) :
  ∃ y0 y1 y2 y3 y4 y5 y6 n,cs.length = P.cellsOf t ∧ DataW.trod enc P w base spare held n f0.type ((cs.drop f0.offset).take (P.cellsOf f0.type)) = some y0 ∧ DataW.trod enc P w base spare held n f1.type ((cs.drop f1.offset).take (P.cellsOf f1.type)) = some y1 ∧ DataW.trod enc P w base spare held n f2.type ((cs.drop f2.offset).take (P.cellsOf f2.type)) = some y2 ∧ DataW.trod enc P w base spare held n f3.type ((cs.drop f3.offset).take (P.cellsOf f3.type)) = some y3 ∧ DataW.trod enc P w base spare held n f4.type ((cs.drop f4.offset).take (P.cellsOf f4.type)) = some y4 ∧ DataW.trod enc P w base spare held n f5.type ((cs.drop f5.offset).take (P.cellsOf f5.type)) = some y5 ∧ DataW.trod enc P w base spare held n f6.type ((cs.drop f6.offset).take (P.cellsOf f6.type)) = some y6:=by
 obtain ⟨xs,n,_,_,hl,hlen,hf⟩:=DataW.trod_struct ht h
 match xs,hlen with
 | [y0,y1,y2,y3,y4,y5,y6],_=>exact ⟨y0,y1,y2,y3,y4,y5,y6,n,hl,hf 0 f0 rfl,hf 1 f1 rfl,hf 2 f2 rfl,hf 3 f3 rfl,hf 4 f4 rfl,hf 5 f5 rfl,hf 6 f6 rfl⟩
theorem cellsT_uint64 : Tryz.prog.cellsOf 24 = 1:=by kernel_rfl
theorem cellsT_uint32 : Tryz.prog.cellsOf 36 = 1:=by kernel_rfl
theorem cellsT_uint8 : Tryz.prog.cellsOf 5 = 1:=by kernel_rfl
theorem cellsT_3 : Tryz.prog.cellsOf 3 = 1:=by kernel_rfl
theorem cellsT_9 : Tryz.prog.cellsOf 9 = 1:=by kernel_rfl
theorem cellsT_4 : Tryz.prog.cellsOf 4 = 1:=by kernel_rfl
theorem cellsT_Version : Tryz.prog.cellsOf 54 = 1:=by kernel_rfl
theorem cellsT_Entry : Tryz.prog.cellsOf 22 = 1:=by kernel_rfl
theorem cellsT_Part : Tryz.prog.cellsOf 99 = 1:=by kernel_rfl
theorem cellsT_Upload : Tryz.prog.cellsOf 23 = 1:=by kernel_rfl
theorem cellsT_Piece : Tryz.prog.cellsOf 35 = 1:=by kernel_rfl
theorem cellsS_Version : Tryz.prog.cellsOf 47 = 4:=by kernel_rfl
def wfVersion (x : S47) : Prop:=wfu x.f0 ∧ wfi x.f3
theorem opensQVersion : OpensQ Tryz.prog k47 47 wfVersion:=by
 intro H enc W n cs x h
 obtain ⟨y0,y1,y2,y3,m,hl,t0,t1,t2,t3⟩:=tstruct4 Tryz.underlying47 h
 rw [cellsS_Version] at hl
 match cs,hl with
 | [a,b,c,d],_ =>
  simp only [cellsT_3,cellsT_4,cellsT_9,cellsT_uint64,List.drop,List.take] at t0 t1 t2 t3
  obtain ⟨s0,e0,_,w0⟩:=DataW.trod_int Tryz.underlying24 t0
  obtain ⟨s1,e1,_,_⟩:=DataW.trod_string Tryz.underlying9 t1
  obtain ⟨s2,e2,_⟩:=DataW.trod_bool Tryz.underlying4 t2
  obtain ⟨s3,e3,_,w3⟩:=DataW.trod_int Tryz.underlying3 t3
  injection e0 with e0;injection e1 with e1;injection e2 with e2;injection e3 with e3
  subst e0 e1 e2 e3
  exact ⟨⟨s0,s1,s2,s3⟩,k47_mk W ⟨s0,s1,s2,s3⟩ ,wfu_of w0,wfi_of w3⟩
theorem cellsS_Entry : Tryz.prog.cellsOf 56 = 2:=by kernel_rfl
def wfEntry (x : S56) : Prop:=(∀ y ∈ x.f1,wfVersion y)
theorem opensQEntry : OpensQ Tryz.prog k56 56 wfEntry:=by
 intro H enc W n cs x h
 obtain ⟨y0,y1,m,hl,t0,t1⟩:=tstruct2 Tryz.underlying56 h
 rw [cellsS_Entry] at hl
 match cs,hl with
 | [a,b],_ =>
  simp only [cellsT_9,cellsT_Version,List.drop,List.take] at t0 t1
  obtain ⟨s0,e0,_,_⟩:=DataW.trod_string Tryz.underlying9 t0
  obtain ⟨s1,A1,c1,e1,hle1,hC1,w1⟩:=opensQ_C Tryz.underlying54 cellsS_Version opensQVersion z47 _ _ _ _ _ _ t1
  injection e0 with e0;injection e1 with e1
  subst e0 e1
  exact ⟨⟨s0,s1⟩,k56_mk W ⟨s0,s1⟩ hle1 hC1,w1⟩
theorem cellsS_Part : Tryz.prog.cellsOf 40 = 2:=by kernel_rfl
def wfPart (x : S40) : Prop:=wfi x.f0
theorem opensQPart : OpensQ Tryz.prog k40 40 wfPart:=by
 intro H enc W n cs x h
 obtain ⟨y0,y1,m,hl,t0,t1⟩:=tstruct2 Tryz.underlying40 h
 rw [cellsS_Part] at hl
 match cs,hl with
 | [a,b],_ =>
  simp only [cellsT_3,cellsT_9,List.drop,List.take] at t0 t1
  obtain ⟨s0,e0,_,w0⟩:=DataW.trod_int Tryz.underlying3 t0
  obtain ⟨s1,e1,_,_⟩:=DataW.trod_string Tryz.underlying9 t1
  injection e0 with e0;injection e1 with e1
  subst e0 e1
  exact ⟨⟨s0,s1⟩,k40_mk W ⟨s0,s1⟩ ,wfi_of w0⟩
theorem cellsS_Upload : Tryz.prog.cellsOf 101 = 3:=by kernel_rfl
def wfUpload (x : S101) : Prop:=wfu x.f0 ∧ (∀ y ∈ x.f2,wfPart y)
theorem opensQUpload : OpensQ Tryz.prog k101 101 wfUpload:=by
 intro H enc W n cs x h
 obtain ⟨y0,y1,y2,m,hl,t0,t1,t2⟩:=tstruct3 Tryz.underlying101 h
 rw [cellsS_Upload] at hl
 match cs,hl with
 | [a,b,c],_ =>
  simp only [cellsT_9,cellsT_Part,cellsT_uint64,List.drop,List.take] at t0 t1 t2
  obtain ⟨s0,e0,_,w0⟩:=DataW.trod_int Tryz.underlying24 t0
  obtain ⟨s1,e1,_,_⟩:=DataW.trod_string Tryz.underlying9 t1
  obtain ⟨s2,A2,c2,e2,hle2,hC2,w2⟩:=opensQ_C Tryz.underlying99 cellsS_Part opensQPart z40 _ _ _ _ _ _ t2
  injection e0 with e0;injection e1 with e1;injection e2 with e2
  subst e0 e1 e2
  exact ⟨⟨s0,s1,s2⟩,k101_mk W ⟨s0,s1,s2⟩ hle2 hC2,wfu_of w0,w2⟩
theorem cellsS_Bucket : Tryz.prog.cellsOf 26 = 5:=by kernel_rfl
def wfBucket (x : S26) : Prop:=wfi x.f1 ∧ (∀ y ∈ x.f2,wfEntry y) ∧ (∀ y ∈ x.f3,wfUpload y) ∧ wfu x.f4
theorem opensQBucket : OpensQ Tryz.prog kB 26 wfBucket:=by
 intro H enc W n cs x h
 obtain ⟨y0,y1,y2,y3,y4,m,hl,t0,t1,t2,t3,t4⟩:=tstruct5 Tryz.underlying26 h
 rw [cellsS_Bucket] at hl
 match cs,hl with
 | [a,b,c,d,e],_ =>
  simp only [cellsT_3,cellsT_9,cellsT_Entry,cellsT_Upload,cellsT_uint64,List.drop,List.take] at t0 t1 t2 t3 t4
  obtain ⟨s0,e0,_,_⟩:=DataW.trod_string Tryz.underlying9 t0
  obtain ⟨s1,e1,_,w1⟩:=DataW.trod_int Tryz.underlying3 t1
  obtain ⟨s2,A2,c2,e2,hle2,hC2,w2⟩:=opensQ_C Tryz.underlying22 cellsS_Entry opensQEntry z56 _ _ _ _ _ _ t2
  obtain ⟨s3,A3,c3,e3,hle3,hC3,w3⟩:=opensQ_C Tryz.underlying23 cellsS_Upload opensQUpload z101 _ _ _ _ _ _ t3
  obtain ⟨s4,e4,_,w4⟩:=DataW.trod_int Tryz.underlying24 t4
  injection e0 with e0;injection e1 with e1;injection e2 with e2;injection e3 with e3;injection e4 with e4
  subst e0 e1 e2 e3 e4
  exact ⟨⟨s0,s1,s2,s3,s4⟩,kB_mk W ⟨s0,s1,s2,s3,s4⟩ hle2 hC2 hle3 hC3,wfi_of w1,w2,w3,wfu_of w4⟩
theorem cellsS_Piece : Tryz.prog.cellsOf 43 = 2:=by kernel_rfl
def wfPiece (x : S43) : Prop:=wfi x.f0 ∧ wf32 x.f1
theorem opensQPiece : OpensQ Tryz.prog k43 43 wfPiece:=by
 intro H enc W n cs x h
 obtain ⟨y0,y1,m,hl,t0,t1⟩:=tstruct2 Tryz.underlying43 h
 rw [cellsS_Piece] at hl
 match cs,hl with
 | [a,b],_ =>
  simp only [cellsT_3,cellsT_uint32,List.drop,List.take] at t0 t1
  obtain ⟨s0,e0,_,w0⟩:=DataW.trod_int Tryz.underlying3 t0
  obtain ⟨s1,e1,_,w1⟩:=DataW.trod_int Tryz.underlying36 t1
  injection e0 with e0;injection e1 with e1
  subst e0 e1
  exact ⟨⟨s0,s1⟩,k43_mk W ⟨s0,s1⟩ ,wfi_of w0,wf32_of w1⟩
theorem cellsS_Act : Tryz.prog.cellsOf 59 = 7:=by kernel_rfl
def wfAct (x : Act) : Prop:=wf8 x.kd ∧ wfu x.id ∧ wfi x.n ∧ wfi x.q ∧ (∀ y ∈ x.ps,wfPiece y)
theorem opensQAct : OpensQ Tryz.prog kA 59 wfAct:=by
 intro H enc W n cs x h
 obtain ⟨y0,y1,y2,y3,y4,y5,y6,m,hl,t0,t1,t2,t3,t4,t5,t6⟩:=tstruct7 Tryz.underlying59 h
 rw [cellsS_Act] at hl
 match cs,hl with
 | [a,b,c,d,e,f,g],_ =>
  simp only [cellsT_3,cellsT_9,cellsT_Piece,cellsT_uint64,cellsT_uint8,List.drop,List.take] at t0 t1 t2 t3 t4 t5 t6
  obtain ⟨s0,e0,_,w0⟩:=DataW.trod_int Tryz.underlying5 t0
  obtain ⟨s1,e1,_,_⟩:=DataW.trod_string Tryz.underlying9 t1
  obtain ⟨s2,e2,_,_⟩:=DataW.trod_string Tryz.underlying9 t2
  obtain ⟨s3,e3,_,w3⟩:=DataW.trod_int Tryz.underlying24 t3
  obtain ⟨s4,e4,_,w4⟩:=DataW.trod_int Tryz.underlying3 t4
  obtain ⟨s5,e5,_,w5⟩:=DataW.trod_int Tryz.underlying3 t5
  obtain ⟨s6,A6,c6,e6,hle6,hC6,w6⟩:=opensQ_C Tryz.underlying35 cellsS_Piece opensQPiece z43 _ _ _ _ _ _ t6
  injection e0 with e0;injection e1 with e1;injection e2 with e2;injection e3 with e3;injection e4 with e4;injection e5 with e5;injection e6 with e6
  subst e0 e1 e2 e3 e4 e5 e6
  exact ⟨⟨s0,s1,s2,s3,s4,s5,s6⟩,kA_mk W ⟨s0,s1,s2,s3,s4,s5,s6⟩ hle6 hC6,wf8_of w0,wfu_of w3,wfi_of w4,wfi_of w5,w6⟩
theorem open_bucket {H : Type} {enc : TypeId × Value → H} {W : World} {base : Nat} {v : Value} {d : DataW H} {p : List MemPlace} (hv : Value.okWide Tryz.prog W .any base 26 v) (h : DataW.Trod enc Tryz.prog W 0 (fun _=>true) true 26 v d p) :
  ∃ (x : S26) (A2 : Option Addr) (c2 : Nat) (A3 : Option Addr) (c3 : Nat),v = .agg #[.string x.f0,.int .i64 x.f1,.slice A2 x.f2.length c2,.slice A3 x.f3.length c3,.int .u64 x.f4] ∧ x.f2.length ≤ c2 ∧ Kd.C k56 W A2 x.f2.length x.f2 ∧ x.f3.length ≤ c3 ∧ Kd.C k101 W A3 x.f3.length x.f3 ∧ wfBucket x:=by
 obtain ⟨cs,rfl,hsz⟩:=Go.WideShapes.okWide_struct Tryz.underlying26 hv
 obtain ⟨n,hn⟩:=h
 obtain ⟨y,hy,hq⟩:=opensQBucket _ _ _ _ _ _ hn
 obtain ⟨A2,c2,A3,c3,hk,h2,g2,h3,g3⟩:=kB_open hy
 refine ⟨y,A2,c2,A3,c3,?_,h2,g2,h3,g3,hq⟩
 have e2 : cs.toList = [.string y.f0,.int .i64 y.f1,.slice A2 y.f2.length c2,.slice A3 y.f3.length c3,.int .u64 y.f4]:=by simpa [Value.cells] using hk
 rw [← Array.toArray_toList (xs:=cs),e2]
theorem open_acts {H : Type} {enc : TypeId × Value → H} {W : World} {base : Nat} {v : Value} {d : DataW H} {p : List MemPlace} (hv : Value.okWide Tryz.prog W .any base 66 v) (h : DataW.Trod enc Tryz.prog W 0 (fun _=>true) true 66 v d p) :
  ∃ (l : List Act) (A : Option Addr) (c : Nat),v = .slice A l.length c ∧ l.length ≤ c ∧ Kd.C kA W A l.length l ∧ ∀ x ∈ l,wfAct x:=by
 obtain ⟨a,n,c,rfl⟩:=Go.WideShapes.okWide_slice Tryz.underlying66 hv
 obtain ⟨m,hm⟩:=h
 obtain ⟨l,A,c',e,hle,hC,hq⟩:=opensQ_C Tryz.underlying66 cellsS_Act opensQAct zAct _ _ _ _ _ _ hm
 refine ⟨l,A,c',?_,hle,hC,hq⟩
 simpa [Value.cells] using e
end
section
open Go.WideMaps Go.Maps
attribute [local go_sem] Oper.semAt_some
attribute [local go_sem high] eqA47
theorem not_iter {w : World} {p : Addr} {u : Value} {m : Option Nat} {s : Nat} {se : Array Nat} {c : Nat} (h : w.cell? p = some u) (hb : w.heap[p.block]? = some (.mapIter m s se c)) : False:=by
 simp [World.cell?,hb] at h
section
variable {w w1 : World} {g : Nat} {A : Option Addr} {n : Nat} {m : Option Nat} {s c0 : Nat} {se : Array Nat}
theorem C_iter {α : Type} {d : Kd α} {l : List α} (h : Kd.C d w A n l) (hg : w.heap[g]? = some (.mapIter m s se c0)) (ho : Only g w w1) (hK : ∀ (x : α) (c : List Value),d.K w x c → d.K w1 x c) : Kd.C d w1 A n l:=by
 obtain ⟨h1,h2,h3⟩:=h
 refine ⟨h1,h2,fun hn=>?_⟩
 obtain ⟨ad,e,hc⟩:=h3 hn
 refine ⟨ad,e,fun j x hx=>?_⟩
 obtain ⟨c,h4,h5,h6⟩:=hc j x hx
 refine ⟨c,h4,hK x c h5,fun i u hu=>?_⟩
 have hb : ad.block ≠ g:=fun e=>not_iter (h6 i u hu) (by rw [(add_blk _ _).1,e];exact hg)
 exact ho.cell (by rw [(add_blk _ _).1];exact hb) (h6 i u hu)
theorem iterV {l : List S47} (h : Kd.C k47 w A n l) (hg : w.heap[g]? = some (.mapIter m s se c0)) (ho : Only g w w1) : Kd.C k47 w1 A n l :=
 C_iter h hg ho (fun x c hk=>by obtain rfl:=k47_open hk;exact k47_mk w1 x)
theorem iterPt {l : List S40} (h : Kd.C k40 w A n l) (hg : w.heap[g]? = some (.mapIter m s se c0)) (ho : Only g w w1) : Kd.C k40 w1 A n l :=
 C_iter h hg ho (fun x c hk=>by obtain rfl:=k40_open hk;exact k40_mk w1 x)
theorem iterE {l : List S56} (h : Kd.C k56 w A n l) (hg : w.heap[g]? = some (.mapIter m s se c0)) (ho : Only g w w1) : Kd.C k56 w1 A n l :=
 C_iter h hg ho (fun x c hk=>by obtain ⟨A1,c1,rfl,h1,h2⟩:=k56_open hk;exact k56_mk w1 x h1 (iterV h2 hg ho))
theorem iterU {l : List S101} (h : Kd.C k101 w A n l) (hg : w.heap[g]? = some (.mapIter m s se c0)) (ho : Only g w w1) : Kd.C k101 w1 A n l :=
 C_iter h hg ho (fun x c hk=>by obtain ⟨A1,c1,rfl,h1,h2⟩:=k101_open hk;exact k101_mk w1 x h1 (iterPt h2 hg ho))
end
theorem ranges_iter {w : World} {P : Program} {k : TypeId} {R : Value → Option (DataW Unit × List MemPlace)} {b r n : Nat} {D : DataW Unit} {left : Lit → Bool} {cnt : Nat} (h : w.ranges P k R b r n D left cnt) : ∃ s se c,w.heap[r]? = some (.mapIter (some b) s se c):=by
 obtain ⟨es,clock,since,seen,c0,_,_,_,_,hr,_⟩:=h
 exact ⟨_,_,_,hr⟩
theorem iter_ne {w : World} {r g : Nat} {m : Option Nat} {s c : Nat} {se : Array Nat} {cs : Array Value} {t : TypeId} {fr : Nat × Nat} (h : w.heap[r]? = some (.mapIter m s se c)) (hg : w.heap[g]? = some (.cells cs t fr)) : g ≠ r:=by
 rintro rfl
 rw [h] at hg
 cases hg
theorem grown_only {w w1 : World} {r : Nat} (h : w.grownBy w1 (some r)) : Only r w w1:=⟨h.os,h.tape,h.output,h.size,fun k hk hne=>h.block k hk (by simpa using hne)⟩
theorem ranges_below {w w1 : World} {P : Program} {k : TypeId} {R : Value → Option (DataW Unit × List MemPlace)} {b r n : Nat} {D : DataW Unit} {left : Lit → Bool} {cnt : Nat} (h : w.ranges P k R b r n D left cnt) (hb : Below w.heap.size w w1) : w1.ranges P k R b r n D left cnt :=
 h.kept (row:=none) ⟨hb.os,hb.tape,hb.output,hb.size,fun i hi _=>hb.block i hi⟩ (by simp) (by simp)
theorem ranges_only {w w1 : World} {P : Program} {k : TypeId} {R : Value → Option (DataW Unit × List MemPlace)} {b r n g : Nat} {D : DataW Unit} {left : Lit → Bool} {cnt : Nat} (h : w.ranges P k R b r n D left cnt) (ho : Only g w w1) (h1 : b ≠ g) (h2 : r ≠ g) : w1.ranges P k R b r n D left cnt :=
 h.kept (row:=some g) ⟨ho.os,ho.tape,ho.output,ho.size,fun i hi hn=>ho.block i hi (by simpa using hn)⟩ (by simpa using h1) (by simpa using h2)
theorem cutV_id {v : S47} (h : v.f1.size ≤ 2001) : cutV v = v:=by
 unfold cutV
 rw [if_neg (by omega)]
theorem turn_on {b : S26} (h : (turnB b 1).2 = 0) : bucketB (turnB b 1).1 = true ∧ (turnB b 1).1.f1 = 1 ∧ (turnB b 1).1.f4 = b.f4:=by
 have hb : bucketB b = true:=by
  unfold turnB at h
  by_cases h1 : bucketB b = false ∨ (1 : Int) < 0 ∨ 2 < (1 : Int)
  ·rw [if_pos h1] at h;cases h
  ·exact bool_no (fun c=>h1 (Or.inl c))
 have hs:=(turn_step hb 1 false).1
 refine ⟨hs,?_⟩
 unfold turnB
 rw [if_neg (by rw [hb];simp),if_neg (by simp)]
 exact ⟨rfl,rfl⟩
section
variable {P : Program} {o : Oper} {a : Go.Act} {Q : Exit → Go.Act → World → Prop} {K : Go.Act → World → Prop}
/-- a store into a map, in a drawn region -/
theorem wp_mapUpdate_row {w : World} (hN : o.dst = none) (m x v : Operand) (t : TypeId) (hop : o.op = Op.mapUpdate t m x v)
  (k e : TypeId) (KK : Keyed P k) (ht : P.underlying t = some (.map k e)) (R : Value → Option (DataW Unit × List MemPlace)) (b n : Nat) (D : DataW Unit)
  (hm : a.eval m = .map (some b)) (hown : w.ownsMap P k R b n D) (hn : n < maxLen) (key val : Value) (kl : Lit) (hx : a.eval x = key) (hv : a.eval v = val) (hkey : keyOf P k key = some kl)
  (d : DataW Unit) (ps : List MemPlace) (hval : R val = some (d,ps))
  (h : ∀ w',w'.ownsMap P k R b (n + 1) (D.put kl d) → w.mapTurned w' b → K a w') : Oper.wp P o a w K Q:=by
 obtain ⟨w',hrun,r1,r2⟩:=hown.store KK ht hn hkey hval
 unfold Oper.wp
 simp [execOp,hop,hm,hx,hv,hrun]
 unfold Oper.upon
 show K (a.put o.dst undef) _
 rw [hN]
 exact h w' r1 r2
end
theorem isz_where : (Tryz.prog.info? 78).map (·.size) = some 2:=by kernel_rfl
theorem cut_le (n : Nat) (s : ByteArray) : (cutS n s).size ≤ n:=by
 unfold cutS
 by_cases h : n < s.size
 ·rw [if_pos h];simp [ByteArray.size_extract];omega
 ·rw [if_neg h];omega
theorem keeps.walk (b : S26) (A2 A3 : Option Addr) (c2 c3 : Nat) (A : Option Addr) (c : Nat) (l : List Act) (w : World) (h2 : Kd.C k56 w A2 b.f2.length b.f2) (g2 : b.f2.length ≤ c2) (h3 : Kd.C k101 w A3 b.f3.length b.f3) (g3 : b.f3.length ≤ c3) (hb4 : 0 ≤ b.f4) (hr : Kd.C kA w A l.length l) (hc : l.length ≤ c) (hw : ∀ x ∈ l,wfAct x) :
  Calls Tryz.prog 9 #[.agg #[.string b.f0,.int .i64 b.f1,.slice A2 b.f2.length c2,.slice A3 b.f3.length c3,.int .u64 b.f4],.slice A l.length c] w fun e w'=>e = .returned (.bool true) ∧ Below w.heap.size w w':=by
 have HR:=zh hr
 have HW:=zh hw
 have hlen : (l.length : Int) ≤ 9223372036854775807:=by have:=hr.2.1;omega
 have HFW:=zh (fun (W : World) (h : Below w.heap.size w W)=>few.walk b A2 A3 c2 c3 W (Kd.C_below h2 h) g2 (Kd.C_below h3 h) g3)
 have HZ:=zh (fun (W : World)=>awake.walk W)
 have H4b : Hid (0 ≤ (cutB b).f4):=hb4
 generalize cutB b = cb at *
 have HTN:=zh (fun (A D : Option Addr) (c d : Nat) (W : World) h2 g2 h3 g3=>turnB.walk cb A D c d 1 W h2 g2 h3 g3)
 have hto:=turn_on (b:=cb)
 generalize turnB cb 1 = tr at *
 obtain ⟨tb,te⟩:=tr
 have HG:=zh (Below.refl w.heap.size w)
 have hmm:=@run_makeMap Tryz.prog
 clear hr hw h2 g2 h3 g3 hb4
 have te0 : (te != 0) = !(te == 0):=rfl
 by_cases hte : te = 0
 rotate_left
 ·have e0 : (te == 0) = false:=beq_eq_false_iff_ne.2 hte
  rw [e0] at te0
  go_enter Tryz.func9,Tryz.ntmps9
  go_wp2_with (first
   | ((with_reducible refine gate_dst (N:=2) rfl ?_);go_must (refine zx HG (N:=2) (cs:=#[.string b.f0,.int .i64 b.f1,.slice A2 b.f2.length c2,.slice A3 b.f3.length c3,.int .u64 b.f4]) (t:=26) ?hr ?_;(case hr=>first | (go_simp;done) | (go_simp;rfl));intro gB w1 KgB LgB HG hbelgB hqgB;obtain ⟨a0,a1,a2,a3,a4⟩:=zz5 KgB.out;clear hbelgB hqgB))
   | (go_at_call 10;go_must (refine (HFW.out _ HG.out).mono ?_;rintro e w2 ⟨A7,c7,D7,d7,rfl,x7,y7,z3,z4,hb⟩;have E7:=zh z3;have U7:=zh z4;have HG:=keepB HG hb;have KgB:=zk KgB hb;clear hb z3 z4 a0 a1 a2 a3 a4))
   | (go_at_call 27;go_must (refine (HTN.out A7 D7 c7 d7 _ E7.out x7 U7.out y7).mono ?_;rintro e w3 ⟨vt,rfl,⟨A4,c4,D4,d4,rfl,X4,Y4_,z3,z4⟩,hb⟩;have E4:=zh z3;have U4:=zh z4;have HG:=keepB HG hb;have KgB:=zk KgB hb;clear hb z3 z4))
   | ((with_reducible refine gate_store (t:=26) (p:=2) (v:=.tmp 20) rfl ?_);go_must (refine zs 26 (.tmp 2) (.tmp 20) gB 0 26 [.string tb.f0,.int .i64 tb.f1,.slice A4 tb.f2.length c4,.slice D4 tb.f3.length d4,.int .u64 tb.f4] KgB isz_bucket ?_;intro w5 hk ho;have E4:=zh (keepE E4.out KgB.out (bk_like _ _ _ _ _ _ _ _ _) ho.out);have U4:=zh (keepU U4.out KgB.out (bk_like _ _ _ _ _ _ _ _ _) ho.out);have KgB : Hid (w5.heap[gB]? = some (.cells #[.string tb.f0,.int .i64 tb.f1,.slice A4 tb.f2.length c4,.slice D4 tb.f3.length d4,.int .u64 tb.f4] 26 (0,0))):=hk;have HG:=zo ho HG LgB;clear hk ho))
   | (go_at_call 14;go_must (refine (HZ.out _).mono ?_;rintro e w20 ⟨rfl,hb⟩;have HG:=keepB HG hb;clear hb)))
  go_ret
  exact ⟨rfl,HG.out⟩
 subst hte
 obtain ⟨tb1,tb2,tb3⟩:=hto rfl
 change bucketB tb = true at tb1
 change tb.f1 = 1 at tb2
 change tb.f4 = cb.f4 at tb3
 have HB0 : Hid (bucketB tb = true ∧ 0 ≤ tb.f4 ∧ tb.f1 = 1):=⟨tb1,by rw [tb3];exact H4b.out,tb2⟩
 clear te0 hto tb1 tb2 tb3 H4b
 go_enter Tryz.func9,Tryz.ntmps9
 go_wp2_with (first
   | ((with_reducible refine gate_dst (N:=2) rfl ?_);go_must (refine zx HG (N:=2) (cs:=#[.string b.f0,.int .i64 b.f1,.slice A2 b.f2.length c2,.slice A3 b.f3.length c3,.int .u64 b.f4]) (t:=26) ?hr ?_;(case hr=>first | (go_simp;done) | (go_simp;rfl));intro gB w1 KgB LgB HG hbelgB hqgB;obtain ⟨a0,a1,a2,a3,a4⟩:=zz5 KgB.out;clear hbelgB hqgB))
   | (go_at_call 10;go_must (refine (HFW.out _ HG.out).mono ?_;rintro e w2 ⟨A7,c7,D7,d7,rfl,x7,y7,z3,z4,hb⟩;have E7:=zh z3;have U7:=zh z4;have HG:=keepB HG hb;have KgB:=zk KgB hb;clear hb z3 z4 a0 a1 a2 a3 a4))
   | (go_at_call 27;go_must (refine (HTN.out A7 D7 c7 d7 _ E7.out x7 U7.out y7).mono ?_;rintro e w3 ⟨vt,rfl,⟨A4,c4,D4,d4,rfl,X4,Y4_,z3,z4⟩,hb⟩;have E4:=zh z3;have U4:=zh z4;have HG:=keepB HG hb;have KgB:=zk KgB hb;clear hb z3 z4))
   | ((with_reducible refine gate_store (t:=26) (p:=2) (v:=.tmp 20) rfl ?_);go_must (refine zs 26 (.tmp 2) (.tmp 20) gB 0 26 [.string tb.f0,.int .i64 tb.f1,.slice A4 tb.f2.length c4,.slice D4 tb.f3.length d4,.int .u64 tb.f4] KgB isz_bucket ?_;intro w5 hk ho;have E4:=zh (keepE E4.out KgB.out (bk_like _ _ _ _ _ _ _ _ _) ho.out);have U4:=zh (keepU U4.out KgB.out (bk_like _ _ _ _ _ _ _ _ _) ho.out);have KgB : Hid (w5.heap[gB]? = some (.cells #[.string tb.f0,.int .i64 tb.f1,.slice A4 tb.f2.length c4,.slice D4 tb.f3.length d4,.int .u64 tb.f4] 26 (0,0))):=hk;have HG:=zo ho HG LgB;clear hk ho)))
 have HM0 : Hid ((w5.alloc (.map #[] 0)).ownsMap Tryz.prog 78 verR w5.heap.size 0 (.map [])):=World.ownsMap_made w5 _ _ _
 have LM:=zh HG.out.size
 have hal:=(Below.refl w5.heap.size w5).alloc (Nat.le_refl _) (.map #[] 0)
 have HG:=keepB HG hal
 have KgB:=zk KgB hal
 have E4:=zc E4 hal
 have U4:=zc U4 hal
 have LgM : Hid (w.heap.size ≤ w5.heap.size):=LM.out
 clear hal hmm LM
 generalize (w5.alloc (.map #[] 0)) = w6 at *
 generalize w5.heap.size = gM at *
 go_loopw [7] (fun i wr=>∃ (k : Nat) (D : DataW Unit) (b : S26) (AB DB : Option Addr) (cB dB : Nat),i = .int .i64 k ∧ k ≤ l.length ∧ k ≤ 30 ∧ Hid (KI b D) ∧ Hid (bucketB b = true ∧ 0 ≤ b.f4 ∧ b.f1 = 1) ∧ Hid (wr.heap[gB]? = some (.cells #[.string b.f0,.int .i64 b.f1,.slice AB b.f2.length cB,.slice DB b.f3.length dB,.int .u64 b.f4] 26 (0,0))) ∧ Hid (wr.ownsMap Tryz.prog 78 verR gM k D) ∧ b.f2.length ≤ cB ∧ b.f3.length ≤ dB ∧ Hid (Kd.C k56 wr AB b.f2.length b.f2) ∧ Hid (Kd.C k101 wr DB b.f3.length b.f3) ∧ Hid (Below w.heap.size w wr)) (fun i _=>l.length - (intOf i).toNat)
 case atStart=>exact ⟨0,.map [],tb,A4,D4,c4,d4,rfl,Nat.zero_le _,by decide,ki_0 tb,HB0,KgB,HM0,X4,Y4_,E4,U4,HG⟩
 case round =>
  clear KgB HM0 E4 U4 HG HB0
  obtain ⟨k,D,b,AB,DB,cB,dB,rfl,hk,hk30,HKI,HBK,KgB,HM,XB,YB,EB,UB,HG⟩:=hrel
  by_cases hlt : k < l.length
  ·by_cases h30 : k < 30
   ·obtain ⟨ad,A6,c6,e',d0,d1,d2,d3,d4_,d5_,d6,hle6,hC6⟩:=atAct HR.out HG.out k hlt
    subst e'
    have p0 : (0 : Int) ≤ (k : Int):=by omega
    have p1 : (k : Int) < (l.length : Int):=by omega
    have p2 : (k : Int) < 30:=by omega
    have hwx:=HW.out l[k] (List.getElem_mem hlt)
    generalize l[k] = x at *
    have HCT:=zh (fun (W : World)=>cut.walk x.kd x.id x.n x.q x.key x.data A6 x.ps c6 W hle6)
    have hky : (cutS 80 x.key).size ≤ 80:=cut_le 80 x.key
    have hdt : (cutS 2001 x.data).size ≤ 2001:=cut_le 2001 x.data
    have HP:=zh (C_cut hC6 40)
    have hpz : (x.ps.take 40).length < 100:=by rw [List.length_take];omega
    generalize cutS 80 x.key = ky at *
    generalize cutS 2001 x.data = dt at *
    generalize x.ps.take 40 = pz at *
    have t0_ : 0 ≤ Int.tmod x.kd 9:=Int.tmod_nonneg _ hwx.1.1
    have HB:=zh (Below.refl wr.heap.size wr)
    have NaB:=zh (blk_lt KgB.out)
    clear hC6 hle6 hwx
    by_cases n3 : Int.tmod x.kd 9 = 3
    ·have u3_ : (Int.tmod x.kd 9 == 3) = true:=beq_iff_eq.2 n3
     clear hpz HP t0_ n3 hky hdt
     go_wp2_with (first
      | (go_at_call 22;go_must (refine (HCT.out _).mono ?_;rintro e w1 ⟨rfl,hb⟩;have HB:=keepB HB hb;clear hb))
      | ((with_reducible refine gate_dst (N:=8) rfl ?_);go_must (refine zx HB (N:=8) (cs:=#[.int .u8 0,.string ⟨#[]⟩,.string ⟨#[]⟩,.int .u64 0,.int .i64 0,.int .i64 0,.slice none 0 0]) (t:=59) ?hr ?_;(case hr=>first | (go_simp;done) | (go_simp;rfl));intro ga w2 Kga Lga HB hbelga hqga;clear hbelga hqga))
      | ((with_reducible refine gate_store (t:=59) (p:=8) (v:=.tmp 40) rfl ?_);go_must (refine zs 59 (.tmp 8) (.tmp 40) ga 0 59 [.int .u8 x.kd,.string ky,.string dt,.int .u64 x.id,.int .i64 x.n,.int .i64 x.q,.slice A6 pz.length c6] Kga (by kernel_rfl) ?_;intro w3 hk ho;have Kga : Hid (w3.heap[ga]? = some (.cells #[.int .u8 x.kd,.string ky,.string dt,.int .u64 x.id,.int .i64 x.n,.int .i64 x.q,.slice A6 pz.length c6] 59 (0,0))):=hk;have HB:=zo ho HB Lga;have KgB:=zk KgB HB.out;obtain ⟨a0,a1,a2,a3,a4⟩:=zz5 KgB.out;obtain ⟨b0,b1,b2,b3,b4,b5,b6⟩:=zz7 Kga.out;clear hk ho)))
     go_roundw
     case rel=>exact ⟨k + 1,D,b,AB,DB,cB,dB,by go_num,hlt,h30,HKI,HBK,KgB,zh ((owns_below HM.out HB.out).mono (Nat.le_succ _)),XB,YB,zc EB HB.out,zc UB HB.out,keepB HG HB.out⟩
     case measure=>simp [intOf];omega
    have u3_ : (Int.tmod x.kd 9 == 3) = false:=beq_eq_false_iff_ne.2 n3
    by_cases n4 : Int.tmod x.kd 9 = 4
    ·have u4_ : (Int.tmod x.kd 9 == 4) = true:=beq_iff_eq.2 n4
     clear hpz HP t0_ n3 n4 hky hdt
     go_wp2_with (first
      | (go_at_call 22;go_must (refine (HCT.out _).mono ?_;rintro e w1 ⟨rfl,hb⟩;have HB:=keepB HB hb;clear hb))
      | ((with_reducible refine gate_dst (N:=8) rfl ?_);go_must (refine zx HB (N:=8) (cs:=#[.int .u8 0,.string ⟨#[]⟩,.string ⟨#[]⟩,.int .u64 0,.int .i64 0,.int .i64 0,.slice none 0 0]) (t:=59) ?hr ?_;(case hr=>first | (go_simp;done) | (go_simp;rfl));intro ga w2 Kga Lga HB hbelga hqga;clear hbelga hqga))
      | ((with_reducible refine gate_store (t:=59) (p:=8) (v:=.tmp 40) rfl ?_);go_must (refine zs 59 (.tmp 8) (.tmp 40) ga 0 59 [.int .u8 x.kd,.string ky,.string dt,.int .u64 x.id,.int .i64 x.n,.int .i64 x.q,.slice A6 pz.length c6] Kga (by kernel_rfl) ?_;intro w3 hk ho;have Kga : Hid (w3.heap[ga]? = some (.cells #[.int .u8 x.kd,.string ky,.string dt,.int .u64 x.id,.int .i64 x.n,.int .i64 x.q,.slice A6 pz.length c6] 59 (0,0))):=hk;have HB:=zo ho HB Lga;have KgB:=zk KgB HB.out;obtain ⟨a0,a1,a2,a3,a4⟩:=zz5 KgB.out;obtain ⟨b0,b1,b2,b3,b4,b5,b6⟩:=zz7 Kga.out;clear hk ho)))
     go_roundw
     case rel=>exact ⟨k + 1,D,b,AB,DB,cB,dB,by go_num,hlt,h30,HKI,HBK,KgB,zh ((owns_below HM.out HB.out).mono (Nat.le_succ _)),XB,YB,zc EB HB.out,zc UB HB.out,keepB HG HB.out⟩
     case measure=>simp [intOf];omega
    have u4_ : (Int.tmod x.kd 9 == 4) = false:=beq_eq_false_iff_ne.2 n4
    have HDO0:=zh (fun (W : World) (h : Below wr.heap.size wr W)=>do.walk b AB DB cB dB (⟨x.kd,ky,dt,x.id,x.n,x.q,pz⟩ : Act) A6 c6 W (Kd.C_below EB.out h) XB (Kd.C_below UB.out h) YB hpz (Kd.C_below HP.out h))
    have hst:=do_step (a:=(⟨x.kd,ky,dt,x.id,x.n,x.q,pz⟩ : Act)) HBK.out.1 HBK.out.2.1 t0_
    have hks:=kept_step (a:=(⟨x.kd,ky,dt,x.id,x.n,x.q,pz⟩ : Act)) HBK.out.2.2 HBK.out.2.1 t0_ n3 n4
    have hkn:=fun (k3 : Int.tmod x.kd 9 < 3)=>kept_new (a:=(⟨x.kd,ky,dt,x.id,x.n,x.q,pz⟩ : Act)) HBK.out.2.2 t0_ k3
    have hmx:=(head_le HBK.out.1).1
    have h4_:=HBK.out.2.1
    clear hpz HP t0_ n3 n4
    change StepOK b _ (decide (Int.tmod x.kd 9 = 6)) at hst
    generalize doR b (⟨x.kd,ky,dt,x.id,x.n,x.q,pz⟩ : Act) = r at *
    obtain ⟨rb,rid,tg,er⟩:=r
    obtain ⟨s1,s2,-,s4⟩:=hst
    change bucketB rb = true at s1
    change b.f4 ≤ rb.f4 at s2
    change er = 0 → decide (Int.tmod x.kd 9 = 6) = false → rid ≠ 0 → rid = b.f4 + 1 ∧ rb.f4 = b.f4 + 1 at s4
    change rb.f1 = 1 ∧ ∀ {key : ByteArray} {id : Int} {v : S47},KeptAt b key id v → KeptAt rb key id v at hks
    change ∀ (k3 : Int.tmod x.kd 9 < 3),er = 0 → KeptAt rb ky rid (if Int.tmod x.kd 9 = 2 then ⟨rid,⟨#[]⟩,true,x.q⟩ else ⟨rid,dt,false,x.q⟩) at hkn
    have HDO : Hid (∀ (W : World),Below wr.heap.size wr W → Calls Tryz.prog 23 #[.agg #[.string b.f0,.int .i64 b.f1,.slice AB b.f2.length cB,.slice DB b.f3.length dB,.int .u64 b.f4],.agg #[.int .u8 x.kd,.string ky,.string dt,.int .u64 x.id,.int .i64 x.n,.int .i64 x.q,.slice A6 pz.length c6]] W (fun e w'=>∃ A5 c5 D5 d5,e = .returned (.agg #[.string rb.f0,.int .i64 rb.f1,.slice A5 rb.f2.length c5,.slice D5 rb.f3.length d5,.int .u64 rb.f4,.int .u64 rid,.string tg,.int .i64 er]) ∧ rb.f2.length ≤ c5 ∧ rb.f3.length ≤ d5 ∧ Kd.C k56 w' A5 rb.f2.length rb.f2 ∧ Kd.C k101 w' D5 rb.f3.length rb.f3 ∧ Below W.heap.size W w')):=HDO0
    have HBR : Hid (bucketB rb = true ∧ 0 ≤ rb.f4 ∧ rb.f1 = 1):=⟨s1,Int.le_trans h4_ s2,hks.1⟩
    have HKJ0:=zh (ki_mono HKI.out hks.2)
    clear HDO0 s1 hks
    by_cases he : er = 0
    ·subst he
     by_cases k3 : Int.tmod x.kd 9 < 3
     ·have v0 : decide (Int.tmod x.kd 9 < 3) = true:=decide_eq_true k3
      have hn:=hkn k3 rfl
      have hid : 0 ≤ rid ∧ rid ≤ 281474976710656:=by
       by_cases hi : rid = 0
       ·omega
       ·have:=s4 rfl (decide_eq_false (by omega)) hi;omega
      obtain ⟨kl0,hkl0⟩:=where_some ky rid hky hid.1 hid.2
      have HKL:=zh hkl0
      have HKM : Hid (k < maxLen):=by unfold Hid maxLen;omega
      by_cases k2 : Int.tmod x.kd 9 = 2
      ·have u2_ : (Int.tmod x.kd 9 == 2) = true:=beq_iff_eq.2 k2
       rw [if_pos k2] at hn
       have HKJ:=zh (ki_put HKJ0.out hkl0 hn)
       have HON : Hid (∀ (W : World),Calls Tryz.prog 28 #[.agg #[.int .u64 rid,.string ⟨#[]⟩,.bool true,.int .i64 x.q]] W (fun e w'=>e = .returned (.agg #[.int .u64 rid,.string ⟨#[]⟩,.bool true,.int .i64 x.q]) ∧ Below W.heap.size W w')):=fun W=>by
        have z:=cellarerlaw05_One.calls _ _ _ _ _ _ _ _ W (one_v (⟨rid,⟨#[]⟩,true,x.q⟩ : S47))
        rw [cutV_id (by show (0 : Nat) ≤ 2001;decide)] at z
        exact z
       clear hn hid s4 s2 hkl0 hmx h4_ hkn k2 k3 hky hdt
       go_wp2_with (first
        | (go_at_call 22;go_must (refine (HCT.out _).mono ?_;rintro e w1 ⟨rfl,hb⟩;have HB:=keepB HB hb;clear hb))
        | ((with_reducible refine gate_dst (N:=8) rfl ?_);go_must (refine zx HB (N:=8) (cs:=#[.int .u8 0,.string ⟨#[]⟩,.string ⟨#[]⟩,.int .u64 0,.int .i64 0,.int .i64 0,.slice none 0 0]) (t:=59) ?hr ?_;(case hr=>first | (go_simp;done) | (go_simp;rfl));intro ga w2 Kga Lga HB hbelga hqga;clear hbelga hqga))
        | ((with_reducible refine gate_store (t:=59) (p:=8) (v:=.tmp 40) rfl ?_);go_must (refine zs 59 (.tmp 8) (.tmp 40) ga 0 59 [.int .u8 x.kd,.string ky,.string dt,.int .u64 x.id,.int .i64 x.n,.int .i64 x.q,.slice A6 pz.length c6] Kga (by kernel_rfl) ?_;intro w3 hk ho;have Kga : Hid (w3.heap[ga]? = some (.cells #[.int .u8 x.kd,.string ky,.string dt,.int .u64 x.id,.int .i64 x.n,.int .i64 x.q,.slice A6 pz.length c6] 59 (0,0))):=hk;have HB:=zo ho HB Lga;have KgB:=zk KgB HB.out;obtain ⟨a0,a1,a2,a3,a4⟩:=zz5 KgB.out;obtain ⟨b0,b1,b2,b3,b4,b5,b6⟩:=zz7 Kga.out;clear hk ho))
        | (go_at_call 23;go_must (refine (HDO.out _ HB.out).mono ?_;rintro e w5 ⟨A5,c5,D5,d5,rfl,y1_,y2_,y3,y4,hb⟩;have Y3:=zh y3;have Y4:=zh y4;have HB:=keepB HB hb;have Kga:=zk Kga hb;have KgB:=zk KgB hb;clear hb y3 y4 a0 a1 a2 a3 a4 b0 b1 b2 b3 b4 b5 b6))
        | ((with_reducible refine gate_dst (N:=10) rfl ?_);go_must (refine zx HB (N:=10) (cs:=#[.string ⟨#[]⟩,.int .i64 0,.slice none 0 0,.slice none 0 0,.int .u64 0,.int .u64 0,.string ⟨#[]⟩,.int .i64 0]) (t:=62) ?hr ?_;(case hr=>first | (go_simp;done) | (go_simp;rfl));intro go w6 Kgo Lgo HB hbelgo hqgo;have M1:=zh (show ga < go by rw [hqgo];exact blk_lt Kga.out);have M2:=zh (show gB < go by rw [hqgo];exact blk_lt KgB.out);have HD:=zh hbelgo;have WD:=zh (show _ ≤ go by rw [hqgo];exact Nat.le_refl _);have Kga:=zk Kga hbelgo;have KgB:=zk KgB hbelgo;clear hbelgo hqgo))
        | ((with_reducible refine gate_store (t:=62) (p:=10) (v:=.tmp 52) rfl ?_);go_must (refine zs 62 (.tmp 10) (.tmp 52) go 0 62 [.string rb.f0,.int .i64 rb.f1,.slice A5 rb.f2.length c5,.slice D5 rb.f3.length d5,.int .u64 rb.f4,.int .u64 rid,.string tg,.int .i64 0] Kgo (by kernel_rfl) ?_;intro w7 hk ho;have Y3:=zc Y3 (ho.out.below HD.out HD.out.size WD.out);have Y4:=zc Y4 (ho.out.below HD.out HD.out.size WD.out);clear HD WD;have HB:=zo ho HB Lgo;have Kga:=zl ho Kga (by have:=M1.out;omega);have KgB:=zl ho KgB (by have:=M2.out;omega);have Kgo : Hid (w7.heap[go]? = some (.cells #[.string rb.f0,.int .i64 rb.f1,.slice A5 rb.f2.length c5,.slice D5 rb.f3.length d5,.int .u64 rb.f4,.int .u64 rid,.string tg,.int .i64 0] 62 (0,0))):=hk;obtain ⟨f0,f1,f2,f3,f4,f5,f6,f7⟩:=zz8 Kgo.out;obtain ⟨b0,b1,b2,b3,b4,b5,b6⟩:=zz7 Kga.out;clear hk ho))
        | ((with_reducible refine gate_dst (N:=11) rfl ?_);go_must (refine zx HB (N:=11) (cs:=#[.int .u64 0,.string ⟨#[]⟩,.bool false,.int .i64 0]) (t:=47) ?hr ?_;(case hr=>first | (go_simp;done) | (go_simp;rfl));intro gv w8 Kgv Lgv HB hbelgv hqgv;have M3:=zh (show ga < gv by rw [hqgv];exact blk_lt Kga.out);have M4:=zh (show gB < gv by rw [hqgv];exact blk_lt KgB.out);have M5:=zh (show go < gv by rw [hqgv];exact blk_lt Kgo.out);have HD:=zh hbelgv;have WD:=zh (show _ ≤ gv by rw [hqgv];exact Nat.le_refl _);have Kga:=zk Kga hbelgv;have KgB:=zk KgB hbelgv;have Kgo:=zk Kgo hbelgv;clear hbelgv hqgv))
        | ((with_reducible refine gate_store (t:=47) (p:=11) (v:=.tmp 66) rfl ?_);go_must (refine zs 47 (.tmp 11) (.tmp 66) gv 0 47 [.int .u64 rid,.string dt,.bool false,.int .i64 x.q] Kgv (by kernel_rfl) ?_;intro w9 hk ho;have HB:=zo ho HB Lgv;have HD:=zo ho HD WD;have Kga:=zl ho Kga (by have:=M3.out;omega);have KgB:=zl ho KgB (by have:=M4.out;omega);have Kgo:=zl ho Kgo (by have:=M5.out;omega);have Kgv : Hid (w9.heap[gv]? = some (.cells #[.int .u64 rid,.string dt,.bool false,.int .i64 x.q] 47 (0,0))):=hk;clear f0 f1 f2 f3 f4 f5 f6 f7 b0 b1 b2 b3 b4 b5 b6;clear hk ho))
        | ((with_reducible refine gate_store (t:=9) (p:=69) (v:=.const (.string ⟨#[]⟩)) rfl ?_);go_must (refine zq 9 (.tmp 69) (.const (.string ⟨#[]⟩)) gv 1 47 (.string ⟨#[]⟩) Kgv (by kernel_rfl) ?_;intro wa hk ho;have HB:=zo ho HB Lgv;have HD:=zo ho HD WD;have Kga:=zl ho Kga (by have:=M3.out;omega);have KgB:=zl ho KgB (by have:=M4.out;omega);have Kgo:=zl ho Kgo (by have:=M5.out;omega);have Kgv : Hid (wa.heap[gv]? = some (.cells #[.int .u64 rid,.string ⟨#[]⟩,.bool false,.int .i64 x.q] 47 (0,0))):=hk;clear hk ho))
        | ((with_reducible refine gate_store (t:=4) (p:=70) (v:=.const (.bool true)) rfl ?_);go_must (refine zq 4 (.tmp 70) (.const (.bool true)) gv 2 47 (.bool true) Kgv (by kernel_rfl) ?_;intro wb hk ho;have HB:=zo ho HB Lgv;have HD:=zo ho HD WD;have Kga:=zl ho Kga (by have:=M3.out;omega);have KgB:=zl ho KgB (by have:=M4.out;omega);have Kgo:=zl ho Kgo (by have:=M5.out;omega);have Kgv : Hid (wb.heap[gv]? = some (.cells #[.int .u64 rid,.string ⟨#[]⟩,.bool true,.int .i64 x.q] 47 (0,0))):=hk;clear hk ho)))
       have hdr : Below wb.heap.size wb wb.drew:=below_drew (Below.refl _ _)
       have Y3:=zc Y3 (HD.out.trans (hdr.mono HD.out.size))
       have Y4:=zc Y4 (HD.out.trans (hdr.mono HD.out.size))
       have HG:=keepB HG (HB.out.trans (hdr.mono HB.out.size))
       have HM:=zh (owns_below HM.out (HB.out.trans (hdr.mono HB.out.size)))
       have Kga:=zk Kga hdr
       have Kgo:=zk Kgo hdr
       have KgB:=zk KgB hdr
       have Kgv:=zk Kgv hdr
       refine wp_region_held_drew (S:=fun W=>W.cell? ⟨ga,1,none⟩ = some (.string ky) ∧ W.cell? ⟨go,5,none⟩ = some (.int .u64 rid) ∧ W.cell? ⟨gv,0,none⟩ = some (.int .u64 rid) ∧ W.cell? ⟨gv,1,none⟩ = some (.string ⟨#[]⟩) ∧ W.cell? ⟨gv,2,none⟩ = some (.bool true) ∧ W.cell? ⟨gv,3,none⟩ = some (.int .i64 x.q)) (by kernel_rfl) ⟨zj Kga 1,zj Kgo 5,zj Kgv 0,zj Kgv 1,zj Kgv 2,zj Kgv 3⟩ (fun hHeld=>?_)
       clear HD WD HB hdr
       generalize wb.drew = wd at *
       refine zt 0 (v:=?v0M) ?y0M ?r0M
       case y0M=>(intro w' h;obtain ⟨s0,s1,s2,s3,s4,s5⟩:=h;go_simp;try with_reducible rfl)
       try simp only [zA,zB,zC,Act.put,zD,zE,zF]
       refine zt 1 (v:=?v1M) ?y1M ?r1M
       case y1M=>(intro w' h;obtain ⟨s0,s1,s2,s3,s4,s5⟩:=h;go_simp;try with_reducible rfl)
       try simp only [zA,zB,zC,Act.put,zD,zE,zF]
       refine zt 2 (v:=?v2M) ?y2M ?r2M
       case y2M=>(intro w' h;obtain ⟨s0,s1,s2,s3,s4,s5⟩:=h;go_simp;try with_reducible rfl)
       try simp only [zA,zB,zC,Act.put,zD,zE,zF]
       refine zt 3 (v:=?v3M) ?y3M ?r3M
       case y3M=>(intro w' h;obtain ⟨s0,s1,s2,s3,s4,s5⟩:=h;go_simp;try with_reducible rfl)
       try simp only [zA,zB,zC,Act.put,zD,zE,zF]
       refine zt 4 (v:=?v4M) ?y4M ?r4M
       case y4M=>(intro w' h;obtain ⟨s0,s1,s2,s3,s4,s5⟩:=h;go_simp;try with_reducible rfl)
       try simp only [zA,zB,zC,Act.put,zD,zE,zF]
       refine zt 5 (v:=?v5M) ?y5M ?r5M
       case y5M=>(intro w' h;obtain ⟨s0,s1,s2,s3,s4,s5⟩:=h;go_simp;try with_reducible rfl)
       try simp only [zA,zB,zC,Act.put,zD,zE,zF]
       refine zt 6 (v:=?v6M) ?y6M ?r6M
       case y6M=>(intro w' h;obtain ⟨s0,s1,s2,s3,s4,s5⟩:=h;go_simp;try with_reducible rfl)
       try simp only [zA,zB,zC,Act.put,zD,zE,zF]
       refine wpAnyH_ready (rs:=[7]) (by kernel_rfl) (by simp) ?_
       refine AllReadyH.cons (o:=_) rfl (fun K hK=>?_) AllReadyH.nil
       rw [if_pos (by rfl)]
       go_simp
       obtain ⟨s0,s1,s2,s3,s4,s5⟩:=hHeld
       refine (HON.out _).mono ?_
       rintro e8 w10 ⟨rfl,hb⟩
       have Y3:=zc Y3 hb
       have Y4:=zc Y4 hb
       have HG:=keepB HG hb
       have HM:=zh (owns_below HM.out hb)
       have Kga:=zk Kga hb
       have Kgo:=zk Kgo hb
       have KgB:=zk KgB hb
       have Kgv:=zk Kgv hb
       refine hK.out _ _ ⟨keepc hb s0,keepc hb s1,keepc hb s2,keepc hb s3,keepc hb s4,keepc hb s5⟩ (fun hHeld=>?_)
       clear hK K hb s0 s1 s2 s3 s4 s5
       try simp only [zA,zB,zC,Act.put,zD,zE,zF]
       refine wpAnyH_ready (rs:=[8]) (by kernel_rfl) (by simp) ?_
       refine AllReadyH.cons (o:=_) rfl (fun K hK=>?_) AllReadyH.nil
       rw [if_pos (by rfl)]
       refine wp_mapUpdate_row rfl (.tmp 71) (.tmp 76) (.tmp 78) 75 rfl 78 47 wlaw Tryz.underlying75 verR gM k D rfl HM.out HKM.out (.agg #[.string ky,.int .u64 rid]) (.agg #[.int .u64 rid,.string ⟨#[]⟩,.bool true,.int .i64 x.q]) kl0 rfl rfl HKL.out (verD (⟨rid,⟨#[]⟩,true,x.q⟩ : S47)) [] rfl ?_
       intro w11 hown htn
       have ho:=turned_only htn
       obtain ⟨es0,ck0,hes⟩:=owns_at HM.out
       have Y3:=zh (mapE Y3.out hes ho)
       have Y4:=zh (mapU Y4.out hes ho)
       have Kga:=zh (ho.blk Kga.out (Ne.symm (owns_ne HM.out Kga.out)))
       have Kgo:=zh (ho.blk Kgo.out (Ne.symm (owns_ne HM.out Kgo.out)))
       have Kgv:=zh (ho.blk Kgv.out (Ne.symm (owns_ne HM.out Kgv.out)))
       have KgB:=zh (ho.blk KgB.out (Ne.symm (owns_ne HM.out KgB.out)))
       have HG:=zh (ho.below HG.out HG.out.size LgM.out)
       have HM:=zh hown
       refine hK.out _ _ ⟨zj Kga 1,zj Kgo 5,zj Kgv 0,zj Kgv 1,zj Kgv 2,zj Kgv 3⟩ (fun hHeld=>?_)
       clear hK K hes htn ho hown hHeld
       try simp only [zA,zB,zC,Act.put,zD,zE,zF]
       refine wpAnyH_done (by kernel_rfl) ?_ _
       have f0:=zb Kgo.out 0 (.string rb.f0)
       have f1:=zb Kgo.out 1 (.int .i64 rb.f1)
       have f2:=zb Kgo.out 2 (.slice A5 rb.f2.length c5)
       have f3:=zb Kgo.out 3 (.slice D5 rb.f3.length d5)
       have f4:=zb Kgo.out 4 (.int .u64 rb.f4)
       have f5:=zb Kgo.out 5 (.int .u64 rid)
       have f6:=zb Kgo.out 6 (.string tg)
       have f7:=zb Kgo.out 7 (.int .i64 0)
       go_wp2_with (first
        | ((with_reducible refine gate_store (t:=26) (p:=2) (v:=.tmp 80) rfl ?_);go_must (refine zs 26 (.tmp 2) (.tmp 80) gB 0 26 [.string rb.f0,.int .i64 rb.f1,.slice A5 rb.f2.length c5,.slice D5 rb.f3.length d5,.int .u64 rb.f4] KgB isz_bucket ?_;intro w12 hk ho;have Y3:=zh (keepE Y3.out KgB.out (bk_like _ _ _ _ _ _ _ _ _) ho.out);have Y4:=zh (keepU Y4.out KgB.out (bk_like _ _ _ _ _ _ _ _ _) ho.out);have HM:=zh (owns_only HM.out ho.out (owns_ne HM.out KgB.out));have KgB : Hid (w12.heap[gB]? = some (.cells #[.string rb.f0,.int .i64 rb.f1,.slice A5 rb.f2.length c5,.slice D5 rb.f3.length d5,.int .u64 rb.f4] 26 (0,0))):=hk;have HG:=zo ho HG LgB;clear f0 f1 f2 f3 f4 f5 f6 f7;clear hk ho))
        | (at_range;go_must (refine wpList_range_own _ rfl _ 75 rfl 78 47 wlaw Tryz.underlying75 verR gM (k + 1) (D.put kl0 (verD (⟨rid,⟨#[]⟩,true,x.q⟩ : S47))) rfl HM.out ?_;intro w13 hrg0 hg0 hs0;have HGS:=zh HG.out.size)))
       go_frame
       have hb0:=grown_below hg0
       have HG:=keepB HG hb0
       have KgB:=zk KgB hb0
       have Y3:=zc Y3 hb0
       have Y4:=zc Y4 hb0
       have HR0:=zh hrg0
       obtain ⟨gR,hgR⟩ : ∃ n,n = w12.heap.size:=⟨_,rfl⟩
       rw [← hgR] at HR0 ⊢
       have LgR : Hid (w.heap.size ≤ gR):=by unfold Hid;rw [hgR];exact HGS.out
       clear hb0 hg0 hs0 hrg0 hgR HM
       go_loopw [14] (fun _ wi=>∃ (left : Lit → Bool) (cnt : Nat),Hid (wi.ranges Tryz.prog 78 verR gM gR (k + 1) (D.put kl0 (verD (⟨rid,⟨#[]⟩,true,x.q⟩ : S47))) left cnt) ∧ Hid (wi.heap[gB]? = some (.cells #[.string rb.f0,.int .i64 rb.f1,.slice A5 rb.f2.length c5,.slice D5 rb.f3.length d5,.int .u64 rb.f4] 26 (0,0))) ∧ Hid (Kd.C k56 wi A5 rb.f2.length rb.f2) ∧ Hid (Kd.C k101 wi D5 rb.f3.length rb.f3) ∧ Hid (Below w.heap.size w wi)) (fun _ wi=>wi.rangeLeft gM gR)
       case atStart=>exact ⟨_,_,HR0,KgB,Y3,Y4,HG⟩
       case round =>
        clear HR0 KgB Y3 Y4 HG
        obtain ⟨left,cnt,HRG,KgB,Y3,Y4,HG⟩:=hrel
        go_wp2_with (at_next;refine wpList_next_ranges _ rfl (.tmp 82) rfl 78 wlaw verR (fun x : ByteArray × Int=>Value.agg #[.string x.1,.int .u64 x.2]) (fun v : S47=>Value.agg #[.int .u64 v.f0,.string v.f1,.bool v.f2,.int .i64 v.f3]) where_inv ver_inv gM gR (k + 1) (D.put kl0 (verD (⟨rid,⟨#[]⟩,true,x.q⟩ : S47))) left cnt rfl HRG.out ?_ ?_)
        ·intro hc0 hl0
         go_wp2
         go_roundw
         case rel=>exact ⟨k + 1,(D.put kl0 (verD (⟨rid,⟨#[]⟩,true,x.q⟩ : S47))),rb,A5,D5,c5,d5,by go_num,hlt,h30,HKJ,HBR,KgB,zh HRG.out.owns,y1_,y2_,Y3,Y4,HG⟩
         case measure=>simp [intOf];omega
        ·intro x1 x2 v kl2 ya yb w14 cnt1 hkey hlk hv hat hrg1 hltc hg1 hs1 hen
         obtain ⟨rfl,rfl⟩ : ya = verD v ∧ yb = []:=Prod.mk.inj (Option.some.inj (hv.symm.trans (verR_mk v)))
         have hfd:=kept_find HBR.out.1 (HKJ.out.kept x1 x2 kl2 v hkey hat)
         have HFD:=fun (A5 D5 : Option Addr) (c5 d5 : Nat) (W : World) (h2 : Kd.C k56 W A5 rb.f2.length rb.f2) (g2 : rb.f2.length ≤ c5) (h3 : Kd.C k101 W D5 rb.f3.length rb.f3) (g3 : rb.f3.length ≤ d5)=>show Calls Tryz.prog 29 #[.agg #[.string rb.f0,.int .i64 rb.f1,.slice A5 rb.f2.length c5,.slice D5 rb.f3.length d5,.int .u64 rb.f4],.string x1,.int .u64 x2] W (fun e w'=>∃ er2 : Int,e = .returned (.tuple #[.agg #[.int .u64 v.f0,.string v.f1,.bool v.f2,.int .i64 v.f3],.int .i64 er2]) ∧ Below W.heap.size W w') from by
          have z:=findB.walk rb A5 D5 c5 d5 x1 x2 W h2 g2 h3 g3
          rw [hfd] at z
          exact z.mono (fun e w' hz=>⟨_,hz.1,hz.2⟩)
         have ho:=grown_only hg1
         obtain ⟨si,se,sc,hit⟩:=ranges_iter HRG.out
         have Y3:=zh (iterE Y3.out hit ho)
         have Y4:=zh (iterU Y4.out hit ho)
         have KgB:=zh (ho.blk KgB.out (iter_ne hit KgB.out))
         have HG:=zh (ho.below HG.out HG.out.size LgR.out)
         have HRG0:=HRG
         have HRG:=zh hrg1
         have HFD:=zh HFD
         clear hit ho hfd hkey hlk hv hat hrg1 hg1 hs1
         go_wp2_with (first
          | ((with_reducible refine gate_dst (N:=12) rfl ?_);go_must (refine zx HG (N:=12) (cs:=#[.string ⟨#[]⟩,.int .u64 0]) (t:=78) ?hr ?_;(case hr=>first | (go_simp;done) | (go_simp;rfl));intro g1 u1 Kg1 Lg1 HG hbelg1 hqg1;have Wg1:=zh (show gR < g1 by rw [hqg1];exact HRG.out.lt);have Xg1:=zh (show gM < g1 by rw [hqg1];exact HRG.out.owns.lt);have NgBg1:=zh (show gB < g1 by rw [hqg1];exact blk_lt KgB.out);have HRG:=zh (ranges_below HRG.out hbelg1);have HD:=zh hbelg1;have WD:=zh (show _ ≤ g1 by rw [hqg1];exact Nat.le_refl _);have KgB:=zk KgB hbelg1;clear hbelg1 hqg1))
          | ((with_reducible refine gate_dst (N:=13) rfl ?_);go_must (refine zx HG (N:=13) (cs:=#[.int .u64 0,.string ⟨#[]⟩,.bool false,.int .i64 0]) (t:=47) ?hr ?_;(case hr=>first | (go_simp;done) | (go_simp;rfl));intro g2 u2 Kg2 Lg2 HG hbelg2 hqg2;have Wg2:=zh (show gR < g2 by rw [hqg2];exact HRG.out.lt);have Xg2:=zh (show gM < g2 by rw [hqg2];exact HRG.out.owns.lt);have NgBg2:=zh (show gB < g2 by rw [hqg2];exact blk_lt KgB.out);have Ng1g2:=zh (show g1 < g2 by rw [hqg2];exact blk_lt Kg1.out);have WD2:=zh (show _ ≤ g2 from Nat.le_of_lt (Nat.lt_of_le_of_lt WD.out Ng1g2.out));have HRG:=zh (ranges_below HRG.out hbelg2);have HD:=keepB HD hbelg2;have KgB:=zk KgB hbelg2;have Kg1:=zk Kg1 hbelg2;clear hbelg2 hqg2))
          | ((with_reducible refine gate_store (t:=78) (p:=12) (v:=.tmp 86) rfl ?_);go_must (refine zs 78 (.tmp 12) (.tmp 86) g1 0 78 [.string x1,.int .u64 x2] Kg1 isz_where ?_;intro u3 hk ho;have HRG:=zh (ranges_only HRG.out ho.out (by have:=Xg1.out;omega) (by have:=Wg1.out;omega));have HD:=zo ho HD WD;have HG:=zo ho HG Lg1;have KgB:=zl ho KgB (by have:=NgBg1.out;omega);have Kg2:=zl ho Kg2 (by have:=Ng1g2.out;omega);have Kg1 : Hid (u3.heap[g1]? = some (.cells #[.string x1,.int .u64 x2] 78 (0,0))):=hk;clear hk ho))
          | ((with_reducible refine gate_store (t:=47) (p:=13) (v:=.tmp 87) rfl ?_);go_must (refine zs 47 (.tmp 13) (.tmp 87) g2 0 47 [.int .u64 v.f0,.string v.f1,.bool v.f2,.int .i64 v.f3] Kg2 (by kernel_rfl) ?_;intro u4 hk ho;have HRG:=zh (ranges_only HRG.out ho.out (by have:=Xg2.out;omega) (by have:=Wg2.out;omega));have HD:=zo ho HD WD2;have Y3:=zc Y3 HD.out;have Y4:=zc Y4 HD.out;clear HD WD WD2;have HG:=zo ho HG Lg2;have KgB:=zl ho KgB (by have:=NgBg2.out;omega);have Kg1:=zl ho Kg1 (by have:=Ng1g2.out;omega);have Kg2 : Hid (u4.heap[g2]? = some (.cells #[.int .u64 v.f0,.string v.f1,.bool v.f2,.int .i64 v.f3] 47 (0,0))):=hk;obtain ⟨m0,m1⟩:=zz2 Kg1.out;obtain ⟨a0,a1,a2,a3,a4⟩:=zz5 KgB.out;clear hk ho))
          | (go_at_call 29;go_must (refine (HFD.out A5 D5 c5 d5 _ Y3.out y1_ Y4.out y2_).mono ?_;rintro e u5 ⟨er2,rfl,hb⟩;have HG:=keepB HG hb;have HRG:=zh (ranges_below HRG.out hb);have Y3:=zc Y3 hb;have Y4:=zc Y4 hb;have KgB:=zk KgB hb;have Kg2:=zk Kg2 hb;clear hb m0 m1 a0 a1 a2 a3 a4))
          | ((with_reducible refine gate_dst (N:=14) rfl ?_);go_must (refine zx HG (N:=14) (cs:=#[.int .u64 0,.string ⟨#[]⟩,.bool false,.int .i64 0]) (t:=47) ?hr ?_;(case hr=>first | (go_simp;done) | (go_simp;rfl));intro g3 u6 Kg3 Lg3 HG hbelg3 hqg3;have Wg3:=zh (show gR < g3 by rw [hqg3];exact HRG.out.lt);have Xg3:=zh (show gM < g3 by rw [hqg3];exact HRG.out.owns.lt);have NgBg3:=zh (show gB < g3 by rw [hqg3];exact blk_lt KgB.out);have Ng2g3:=zh (show g2 < g3 by rw [hqg3];exact blk_lt Kg2.out);have HRG:=zh (ranges_below HRG.out hbelg3);have HD:=zh hbelg3;have WD:=zh (show _ ≤ g3 by rw [hqg3];exact Nat.le_refl _);have KgB:=zk KgB hbelg3;have Kg2:=zk Kg2 hbelg3;clear hbelg3 hqg3))
          | ((with_reducible refine gate_store (t:=47) (p:=14) (v:=.tmp 95) rfl ?_);go_must (refine zs 47 (.tmp 14) (.tmp 95) g3 0 47 [.int .u64 v.f0,.string v.f1,.bool v.f2,.int .i64 v.f3] Kg3 (by kernel_rfl) ?_;intro u7 hk ho;have HRG:=zh (ranges_only HRG.out ho.out (by have:=Xg3.out;omega) (by have:=Wg3.out;omega));have HD:=zo ho HD WD;have Y3:=zc Y3 HD.out;have Y4:=zc Y4 HD.out;clear HD WD;have HG:=zo ho HG Lg3;have KgB:=zl ho KgB (by have:=NgBg3.out;omega);have Kg2:=zl ho Kg2 (by have:=Ng2g3.out;omega);have Kg3 : Hid (u7.heap[g3]? = some (.cells #[.int .u64 v.f0,.string v.f1,.bool v.f2,.int .i64 v.f3] 47 (0,0))):=hk;obtain ⟨k0,k1,k2,k3⟩:=zz4 Kg2.out;obtain ⟨n0,n1,n2,n3⟩:=zz4 Kg3.out;clear hk ho)))
         go_roundw
         case rel=>exact ⟨_,cnt1,HRG,KgB,Y3,Y4,HG⟩
         case measure=>rw [HRG.out.left_eq,HRG0.out.left_eq];exact hltc
      ·have u2_ : (Int.tmod x.kd 9 == 2) = false:=beq_eq_false_iff_ne.2 k2
       rw [if_neg k2] at hn
       have HKJ:=zh (ki_put HKJ0.out hkl0 hn)
       have HON : Hid (∀ (W : World),Calls Tryz.prog 28 #[.agg #[.int .u64 rid,.string dt,.bool false,.int .i64 x.q]] W (fun e w'=>e = .returned (.agg #[.int .u64 rid,.string dt,.bool false,.int .i64 x.q]) ∧ Below W.heap.size W w')):=fun W=>by
        have z:=cellarerlaw05_One.calls _ _ _ _ _ _ _ _ W (one_v (⟨rid,dt,false,x.q⟩ : S47))
        rw [cutV_id (show dt.size ≤ 2001 from hdt)] at z
        exact z
       clear hn hid s4 s2 hkl0 hmx h4_ hkn k2 k3 hky hdt
       go_wp2_with (first
        | (go_at_call 22;go_must (refine (HCT.out _).mono ?_;rintro e w1 ⟨rfl,hb⟩;have HB:=keepB HB hb;clear hb))
        | ((with_reducible refine gate_dst (N:=8) rfl ?_);go_must (refine zx HB (N:=8) (cs:=#[.int .u8 0,.string ⟨#[]⟩,.string ⟨#[]⟩,.int .u64 0,.int .i64 0,.int .i64 0,.slice none 0 0]) (t:=59) ?hr ?_;(case hr=>first | (go_simp;done) | (go_simp;rfl));intro ga w2 Kga Lga HB hbelga hqga;clear hbelga hqga))
        | ((with_reducible refine gate_store (t:=59) (p:=8) (v:=.tmp 40) rfl ?_);go_must (refine zs 59 (.tmp 8) (.tmp 40) ga 0 59 [.int .u8 x.kd,.string ky,.string dt,.int .u64 x.id,.int .i64 x.n,.int .i64 x.q,.slice A6 pz.length c6] Kga (by kernel_rfl) ?_;intro w3 hk ho;have Kga : Hid (w3.heap[ga]? = some (.cells #[.int .u8 x.kd,.string ky,.string dt,.int .u64 x.id,.int .i64 x.n,.int .i64 x.q,.slice A6 pz.length c6] 59 (0,0))):=hk;have HB:=zo ho HB Lga;have KgB:=zk KgB HB.out;obtain ⟨a0,a1,a2,a3,a4⟩:=zz5 KgB.out;obtain ⟨b0,b1,b2,b3,b4,b5,b6⟩:=zz7 Kga.out;clear hk ho))
        | (go_at_call 23;go_must (refine (HDO.out _ HB.out).mono ?_;rintro e w5 ⟨A5,c5,D5,d5,rfl,y1_,y2_,y3,y4,hb⟩;have Y3:=zh y3;have Y4:=zh y4;have HB:=keepB HB hb;have Kga:=zk Kga hb;have KgB:=zk KgB hb;clear hb y3 y4 a0 a1 a2 a3 a4 b0 b1 b2 b3 b4 b5 b6))
        | ((with_reducible refine gate_dst (N:=10) rfl ?_);go_must (refine zx HB (N:=10) (cs:=#[.string ⟨#[]⟩,.int .i64 0,.slice none 0 0,.slice none 0 0,.int .u64 0,.int .u64 0,.string ⟨#[]⟩,.int .i64 0]) (t:=62) ?hr ?_;(case hr=>first | (go_simp;done) | (go_simp;rfl));intro go w6 Kgo Lgo HB hbelgo hqgo;have M1:=zh (show ga < go by rw [hqgo];exact blk_lt Kga.out);have M2:=zh (show gB < go by rw [hqgo];exact blk_lt KgB.out);have HD:=zh hbelgo;have WD:=zh (show _ ≤ go by rw [hqgo];exact Nat.le_refl _);have Kga:=zk Kga hbelgo;have KgB:=zk KgB hbelgo;clear hbelgo hqgo))
        | ((with_reducible refine gate_store (t:=62) (p:=10) (v:=.tmp 52) rfl ?_);go_must (refine zs 62 (.tmp 10) (.tmp 52) go 0 62 [.string rb.f0,.int .i64 rb.f1,.slice A5 rb.f2.length c5,.slice D5 rb.f3.length d5,.int .u64 rb.f4,.int .u64 rid,.string tg,.int .i64 0] Kgo (by kernel_rfl) ?_;intro w7 hk ho;have Y3:=zc Y3 (ho.out.below HD.out HD.out.size WD.out);have Y4:=zc Y4 (ho.out.below HD.out HD.out.size WD.out);clear HD WD;have HB:=zo ho HB Lgo;have Kga:=zl ho Kga (by have:=M1.out;omega);have KgB:=zl ho KgB (by have:=M2.out;omega);have Kgo : Hid (w7.heap[go]? = some (.cells #[.string rb.f0,.int .i64 rb.f1,.slice A5 rb.f2.length c5,.slice D5 rb.f3.length d5,.int .u64 rb.f4,.int .u64 rid,.string tg,.int .i64 0] 62 (0,0))):=hk;obtain ⟨f0,f1,f2,f3,f4,f5,f6,f7⟩:=zz8 Kgo.out;obtain ⟨b0,b1,b2,b3,b4,b5,b6⟩:=zz7 Kga.out;clear hk ho))
        | ((with_reducible refine gate_dst (N:=11) rfl ?_);go_must (refine zx HB (N:=11) (cs:=#[.int .u64 0,.string ⟨#[]⟩,.bool false,.int .i64 0]) (t:=47) ?hr ?_;(case hr=>first | (go_simp;done) | (go_simp;rfl));intro gv w8 Kgv Lgv HB hbelgv hqgv;have M3:=zh (show ga < gv by rw [hqgv];exact blk_lt Kga.out);have M4:=zh (show gB < gv by rw [hqgv];exact blk_lt KgB.out);have M5:=zh (show go < gv by rw [hqgv];exact blk_lt Kgo.out);have HD:=zh hbelgv;have WD:=zh (show _ ≤ gv by rw [hqgv];exact Nat.le_refl _);have Kga:=zk Kga hbelgv;have KgB:=zk KgB hbelgv;have Kgo:=zk Kgo hbelgv;clear hbelgv hqgv))
        | ((with_reducible refine gate_store (t:=47) (p:=11) (v:=.tmp 66) rfl ?_);go_must (refine zs 47 (.tmp 11) (.tmp 66) gv 0 47 [.int .u64 rid,.string dt,.bool false,.int .i64 x.q] Kgv (by kernel_rfl) ?_;intro w9 hk ho;have HB:=zo ho HB Lgv;have HD:=zo ho HD WD;have Kga:=zl ho Kga (by have:=M3.out;omega);have KgB:=zl ho KgB (by have:=M4.out;omega);have Kgo:=zl ho Kgo (by have:=M5.out;omega);have Kgv : Hid (w9.heap[gv]? = some (.cells #[.int .u64 rid,.string dt,.bool false,.int .i64 x.q] 47 (0,0))):=hk;clear f0 f1 f2 f3 f4 f5 f6 f7 b0 b1 b2 b3 b4 b5 b6;clear hk ho)))
       have hdr : Below w9.heap.size w9 w9.drew:=below_drew (Below.refl _ _)
       have Y3:=zc Y3 (HD.out.trans (hdr.mono HD.out.size))
       have Y4:=zc Y4 (HD.out.trans (hdr.mono HD.out.size))
       have HG:=keepB HG (HB.out.trans (hdr.mono HB.out.size))
       have HM:=zh (owns_below HM.out (HB.out.trans (hdr.mono HB.out.size)))
       have Kga:=zk Kga hdr
       have Kgo:=zk Kgo hdr
       have KgB:=zk KgB hdr
       have Kgv:=zk Kgv hdr
       refine wp_region_held_drew (S:=fun W=>W.cell? ⟨ga,1,none⟩ = some (.string ky) ∧ W.cell? ⟨go,5,none⟩ = some (.int .u64 rid) ∧ W.cell? ⟨gv,0,none⟩ = some (.int .u64 rid) ∧ W.cell? ⟨gv,1,none⟩ = some (.string dt) ∧ W.cell? ⟨gv,2,none⟩ = some (.bool false) ∧ W.cell? ⟨gv,3,none⟩ = some (.int .i64 x.q)) (by kernel_rfl) ⟨zj Kga 1,zj Kgo 5,zj Kgv 0,zj Kgv 1,zj Kgv 2,zj Kgv 3⟩ (fun hHeld=>?_)
       clear HD WD HB hdr
       generalize w9.drew = wd at *
       refine zt 0 (v:=?v0P) ?y0P ?r0P
       case y0P=>(intro w' h;obtain ⟨s0,s1,s2,s3,s4,s5⟩:=h;go_simp;try with_reducible rfl)
       try simp only [zA,zB,zC,Act.put,zD,zE,zF]
       refine zt 1 (v:=?v1P) ?y1P ?r1P
       case y1P=>(intro w' h;obtain ⟨s0,s1,s2,s3,s4,s5⟩:=h;go_simp;try with_reducible rfl)
       try simp only [zA,zB,zC,Act.put,zD,zE,zF]
       refine zt 2 (v:=?v2P) ?y2P ?r2P
       case y2P=>(intro w' h;obtain ⟨s0,s1,s2,s3,s4,s5⟩:=h;go_simp;try with_reducible rfl)
       try simp only [zA,zB,zC,Act.put,zD,zE,zF]
       refine zt 3 (v:=?v3P) ?y3P ?r3P
       case y3P=>(intro w' h;obtain ⟨s0,s1,s2,s3,s4,s5⟩:=h;go_simp;try with_reducible rfl)
       try simp only [zA,zB,zC,Act.put,zD,zE,zF]
       refine zt 4 (v:=?v4P) ?y4P ?r4P
       case y4P=>(intro w' h;obtain ⟨s0,s1,s2,s3,s4,s5⟩:=h;go_simp;try with_reducible rfl)
       try simp only [zA,zB,zC,Act.put,zD,zE,zF]
       refine zt 5 (v:=?v5P) ?y5P ?r5P
       case y5P=>(intro w' h;obtain ⟨s0,s1,s2,s3,s4,s5⟩:=h;go_simp;try with_reducible rfl)
       try simp only [zA,zB,zC,Act.put,zD,zE,zF]
       refine zt 6 (v:=?v6P) ?y6P ?r6P
       case y6P=>(intro w' h;obtain ⟨s0,s1,s2,s3,s4,s5⟩:=h;go_simp;try with_reducible rfl)
       try simp only [zA,zB,zC,Act.put,zD,zE,zF]
       refine wpAnyH_ready (rs:=[7]) (by kernel_rfl) (by simp) ?_
       refine AllReadyH.cons (o:=_) rfl (fun K hK=>?_) AllReadyH.nil
       rw [if_pos (by rfl)]
       go_simp
       obtain ⟨s0,s1,s2,s3,s4,s5⟩:=hHeld
       refine (HON.out _).mono ?_
       rintro e8 w10 ⟨rfl,hb⟩
       have Y3:=zc Y3 hb
       have Y4:=zc Y4 hb
       have HG:=keepB HG hb
       have HM:=zh (owns_below HM.out hb)
       have Kga:=zk Kga hb
       have Kgo:=zk Kgo hb
       have KgB:=zk KgB hb
       have Kgv:=zk Kgv hb
       refine hK.out _ _ ⟨keepc hb s0,keepc hb s1,keepc hb s2,keepc hb s3,keepc hb s4,keepc hb s5⟩ (fun hHeld=>?_)
       clear hK K hb s0 s1 s2 s3 s4 s5
       try simp only [zA,zB,zC,Act.put,zD,zE,zF]
       refine wpAnyH_ready (rs:=[8]) (by kernel_rfl) (by simp) ?_
       refine AllReadyH.cons (o:=_) rfl (fun K hK=>?_) AllReadyH.nil
       rw [if_pos (by rfl)]
       refine wp_mapUpdate_row rfl (.tmp 71) (.tmp 76) (.tmp 78) 75 rfl 78 47 wlaw Tryz.underlying75 verR gM k D rfl HM.out HKM.out (.agg #[.string ky,.int .u64 rid]) (.agg #[.int .u64 rid,.string dt,.bool false,.int .i64 x.q]) kl0 rfl rfl HKL.out (verD (⟨rid,dt,false,x.q⟩ : S47)) [] rfl ?_
       intro w11 hown htn
       have ho:=turned_only htn
       obtain ⟨es0,ck0,hes⟩:=owns_at HM.out
       have Y3:=zh (mapE Y3.out hes ho)
       have Y4:=zh (mapU Y4.out hes ho)
       have Kga:=zh (ho.blk Kga.out (Ne.symm (owns_ne HM.out Kga.out)))
       have Kgo:=zh (ho.blk Kgo.out (Ne.symm (owns_ne HM.out Kgo.out)))
       have Kgv:=zh (ho.blk Kgv.out (Ne.symm (owns_ne HM.out Kgv.out)))
       have KgB:=zh (ho.blk KgB.out (Ne.symm (owns_ne HM.out KgB.out)))
       have HG:=zh (ho.below HG.out HG.out.size LgM.out)
       have HM:=zh hown
       refine hK.out _ _ ⟨zj Kga 1,zj Kgo 5,zj Kgv 0,zj Kgv 1,zj Kgv 2,zj Kgv 3⟩ (fun hHeld=>?_)
       clear hK K hes htn ho hown hHeld
       try simp only [zA,zB,zC,Act.put,zD,zE,zF]
       refine wpAnyH_done (by kernel_rfl) ?_ _
       have f0:=zb Kgo.out 0 (.string rb.f0)
       have f1:=zb Kgo.out 1 (.int .i64 rb.f1)
       have f2:=zb Kgo.out 2 (.slice A5 rb.f2.length c5)
       have f3:=zb Kgo.out 3 (.slice D5 rb.f3.length d5)
       have f4:=zb Kgo.out 4 (.int .u64 rb.f4)
       have f5:=zb Kgo.out 5 (.int .u64 rid)
       have f6:=zb Kgo.out 6 (.string tg)
       have f7:=zb Kgo.out 7 (.int .i64 0)
       go_wp2_with (first
        | ((with_reducible refine gate_store (t:=26) (p:=2) (v:=.tmp 80) rfl ?_);go_must (refine zs 26 (.tmp 2) (.tmp 80) gB 0 26 [.string rb.f0,.int .i64 rb.f1,.slice A5 rb.f2.length c5,.slice D5 rb.f3.length d5,.int .u64 rb.f4] KgB isz_bucket ?_;intro w12 hk ho;have Y3:=zh (keepE Y3.out KgB.out (bk_like _ _ _ _ _ _ _ _ _) ho.out);have Y4:=zh (keepU Y4.out KgB.out (bk_like _ _ _ _ _ _ _ _ _) ho.out);have HM:=zh (owns_only HM.out ho.out (owns_ne HM.out KgB.out));have KgB : Hid (w12.heap[gB]? = some (.cells #[.string rb.f0,.int .i64 rb.f1,.slice A5 rb.f2.length c5,.slice D5 rb.f3.length d5,.int .u64 rb.f4] 26 (0,0))):=hk;have HG:=zo ho HG LgB;clear f0 f1 f2 f3 f4 f5 f6 f7;clear hk ho))
        | (at_range;go_must (refine wpList_range_own _ rfl _ 75 rfl 78 47 wlaw Tryz.underlying75 verR gM (k + 1) (D.put kl0 (verD (⟨rid,dt,false,x.q⟩ : S47))) rfl HM.out ?_;intro w13 hrg0 hg0 hs0;have HGS:=zh HG.out.size)))
       go_frame
       have hb0:=grown_below hg0
       have HG:=keepB HG hb0
       have KgB:=zk KgB hb0
       have Y3:=zc Y3 hb0
       have Y4:=zc Y4 hb0
       have HR0:=zh hrg0
       obtain ⟨gR,hgR⟩ : ∃ n,n = w12.heap.size:=⟨_,rfl⟩
       rw [← hgR] at HR0 ⊢
       have LgR : Hid (w.heap.size ≤ gR):=by unfold Hid;rw [hgR];exact HGS.out
       clear hb0 hg0 hs0 hrg0 hgR HM
       go_loopw [14] (fun _ wi=>∃ (left : Lit → Bool) (cnt : Nat),Hid (wi.ranges Tryz.prog 78 verR gM gR (k + 1) (D.put kl0 (verD (⟨rid,dt,false,x.q⟩ : S47))) left cnt) ∧ Hid (wi.heap[gB]? = some (.cells #[.string rb.f0,.int .i64 rb.f1,.slice A5 rb.f2.length c5,.slice D5 rb.f3.length d5,.int .u64 rb.f4] 26 (0,0))) ∧ Hid (Kd.C k56 wi A5 rb.f2.length rb.f2) ∧ Hid (Kd.C k101 wi D5 rb.f3.length rb.f3) ∧ Hid (Below w.heap.size w wi)) (fun _ wi=>wi.rangeLeft gM gR)
       case atStart=>exact ⟨_,_,HR0,KgB,Y3,Y4,HG⟩
       case round =>
        clear HR0 KgB Y3 Y4 HG
        obtain ⟨left,cnt,HRG,KgB,Y3,Y4,HG⟩:=hrel
        go_wp2_with (at_next;refine wpList_next_ranges _ rfl (.tmp 82) rfl 78 wlaw verR (fun x : ByteArray × Int=>Value.agg #[.string x.1,.int .u64 x.2]) (fun v : S47=>Value.agg #[.int .u64 v.f0,.string v.f1,.bool v.f2,.int .i64 v.f3]) where_inv ver_inv gM gR (k + 1) (D.put kl0 (verD (⟨rid,dt,false,x.q⟩ : S47))) left cnt rfl HRG.out ?_ ?_)
        ·intro hc0 hl0
         go_wp2
         go_roundw
         case rel=>exact ⟨k + 1,(D.put kl0 (verD (⟨rid,dt,false,x.q⟩ : S47))),rb,A5,D5,c5,d5,by go_num,hlt,h30,HKJ,HBR,KgB,zh HRG.out.owns,y1_,y2_,Y3,Y4,HG⟩
         case measure=>simp [intOf];omega
        ·intro x1 x2 v kl2 ya yb w14 cnt1 hkey hlk hv hat hrg1 hltc hg1 hs1 hen
         obtain ⟨rfl,rfl⟩ : ya = verD v ∧ yb = []:=Prod.mk.inj (Option.some.inj (hv.symm.trans (verR_mk v)))
         have hfd:=kept_find HBR.out.1 (HKJ.out.kept x1 x2 kl2 v hkey hat)
         have HFD:=fun (A5 D5 : Option Addr) (c5 d5 : Nat) (W : World) (h2 : Kd.C k56 W A5 rb.f2.length rb.f2) (g2 : rb.f2.length ≤ c5) (h3 : Kd.C k101 W D5 rb.f3.length rb.f3) (g3 : rb.f3.length ≤ d5)=>show Calls Tryz.prog 29 #[.agg #[.string rb.f0,.int .i64 rb.f1,.slice A5 rb.f2.length c5,.slice D5 rb.f3.length d5,.int .u64 rb.f4],.string x1,.int .u64 x2] W (fun e w'=>∃ er2 : Int,e = .returned (.tuple #[.agg #[.int .u64 v.f0,.string v.f1,.bool v.f2,.int .i64 v.f3],.int .i64 er2]) ∧ Below W.heap.size W w') from by
          have z:=findB.walk rb A5 D5 c5 d5 x1 x2 W h2 g2 h3 g3
          rw [hfd] at z
          exact z.mono (fun e w' hz=>⟨_,hz.1,hz.2⟩)
         have ho:=grown_only hg1
         obtain ⟨si,se,sc,hit⟩:=ranges_iter HRG.out
         have Y3:=zh (iterE Y3.out hit ho)
         have Y4:=zh (iterU Y4.out hit ho)
         have KgB:=zh (ho.blk KgB.out (iter_ne hit KgB.out))
         have HG:=zh (ho.below HG.out HG.out.size LgR.out)
         have HRG0:=HRG
         have HRG:=zh hrg1
         have HFD:=zh HFD
         clear hit ho hfd hkey hlk hv hat hrg1 hg1 hs1
         go_wp2_with (first
          | ((with_reducible refine gate_dst (N:=12) rfl ?_);go_must (refine zx HG (N:=12) (cs:=#[.string ⟨#[]⟩,.int .u64 0]) (t:=78) ?hr ?_;(case hr=>first | (go_simp;done) | (go_simp;rfl));intro g1 u1 Kg1 Lg1 HG hbelg1 hqg1;have Wg1:=zh (show gR < g1 by rw [hqg1];exact HRG.out.lt);have Xg1:=zh (show gM < g1 by rw [hqg1];exact HRG.out.owns.lt);have NgBg1:=zh (show gB < g1 by rw [hqg1];exact blk_lt KgB.out);have HRG:=zh (ranges_below HRG.out hbelg1);have HD:=zh hbelg1;have WD:=zh (show _ ≤ g1 by rw [hqg1];exact Nat.le_refl _);have KgB:=zk KgB hbelg1;clear hbelg1 hqg1))
          | ((with_reducible refine gate_dst (N:=13) rfl ?_);go_must (refine zx HG (N:=13) (cs:=#[.int .u64 0,.string ⟨#[]⟩,.bool false,.int .i64 0]) (t:=47) ?hr ?_;(case hr=>first | (go_simp;done) | (go_simp;rfl));intro g2 u2 Kg2 Lg2 HG hbelg2 hqg2;have Wg2:=zh (show gR < g2 by rw [hqg2];exact HRG.out.lt);have Xg2:=zh (show gM < g2 by rw [hqg2];exact HRG.out.owns.lt);have NgBg2:=zh (show gB < g2 by rw [hqg2];exact blk_lt KgB.out);have Ng1g2:=zh (show g1 < g2 by rw [hqg2];exact blk_lt Kg1.out);have WD2:=zh (show _ ≤ g2 from Nat.le_of_lt (Nat.lt_of_le_of_lt WD.out Ng1g2.out));have HRG:=zh (ranges_below HRG.out hbelg2);have HD:=keepB HD hbelg2;have KgB:=zk KgB hbelg2;have Kg1:=zk Kg1 hbelg2;clear hbelg2 hqg2))
          | ((with_reducible refine gate_store (t:=78) (p:=12) (v:=.tmp 86) rfl ?_);go_must (refine zs 78 (.tmp 12) (.tmp 86) g1 0 78 [.string x1,.int .u64 x2] Kg1 isz_where ?_;intro u3 hk ho;have HRG:=zh (ranges_only HRG.out ho.out (by have:=Xg1.out;omega) (by have:=Wg1.out;omega));have HD:=zo ho HD WD;have HG:=zo ho HG Lg1;have KgB:=zl ho KgB (by have:=NgBg1.out;omega);have Kg2:=zl ho Kg2 (by have:=Ng1g2.out;omega);have Kg1 : Hid (u3.heap[g1]? = some (.cells #[.string x1,.int .u64 x2] 78 (0,0))):=hk;clear hk ho))
          | ((with_reducible refine gate_store (t:=47) (p:=13) (v:=.tmp 87) rfl ?_);go_must (refine zs 47 (.tmp 13) (.tmp 87) g2 0 47 [.int .u64 v.f0,.string v.f1,.bool v.f2,.int .i64 v.f3] Kg2 (by kernel_rfl) ?_;intro u4 hk ho;have HRG:=zh (ranges_only HRG.out ho.out (by have:=Xg2.out;omega) (by have:=Wg2.out;omega));have HD:=zo ho HD WD2;have Y3:=zc Y3 HD.out;have Y4:=zc Y4 HD.out;clear HD WD WD2;have HG:=zo ho HG Lg2;have KgB:=zl ho KgB (by have:=NgBg2.out;omega);have Kg1:=zl ho Kg1 (by have:=Ng1g2.out;omega);have Kg2 : Hid (u4.heap[g2]? = some (.cells #[.int .u64 v.f0,.string v.f1,.bool v.f2,.int .i64 v.f3] 47 (0,0))):=hk;obtain ⟨m0,m1⟩:=zz2 Kg1.out;obtain ⟨a0,a1,a2,a3,a4⟩:=zz5 KgB.out;clear hk ho))
          | (go_at_call 29;go_must (refine (HFD.out A5 D5 c5 d5 _ Y3.out y1_ Y4.out y2_).mono ?_;rintro e u5 ⟨er2,rfl,hb⟩;have HG:=keepB HG hb;have HRG:=zh (ranges_below HRG.out hb);have Y3:=zc Y3 hb;have Y4:=zc Y4 hb;have KgB:=zk KgB hb;have Kg2:=zk Kg2 hb;clear hb m0 m1 a0 a1 a2 a3 a4))
          | ((with_reducible refine gate_dst (N:=14) rfl ?_);go_must (refine zx HG (N:=14) (cs:=#[.int .u64 0,.string ⟨#[]⟩,.bool false,.int .i64 0]) (t:=47) ?hr ?_;(case hr=>first | (go_simp;done) | (go_simp;rfl));intro g3 u6 Kg3 Lg3 HG hbelg3 hqg3;have Wg3:=zh (show gR < g3 by rw [hqg3];exact HRG.out.lt);have Xg3:=zh (show gM < g3 by rw [hqg3];exact HRG.out.owns.lt);have NgBg3:=zh (show gB < g3 by rw [hqg3];exact blk_lt KgB.out);have Ng2g3:=zh (show g2 < g3 by rw [hqg3];exact blk_lt Kg2.out);have HRG:=zh (ranges_below HRG.out hbelg3);have HD:=zh hbelg3;have WD:=zh (show _ ≤ g3 by rw [hqg3];exact Nat.le_refl _);have KgB:=zk KgB hbelg3;have Kg2:=zk Kg2 hbelg3;clear hbelg3 hqg3))
          | ((with_reducible refine gate_store (t:=47) (p:=14) (v:=.tmp 95) rfl ?_);go_must (refine zs 47 (.tmp 14) (.tmp 95) g3 0 47 [.int .u64 v.f0,.string v.f1,.bool v.f2,.int .i64 v.f3] Kg3 (by kernel_rfl) ?_;intro u7 hk ho;have HRG:=zh (ranges_only HRG.out ho.out (by have:=Xg3.out;omega) (by have:=Wg3.out;omega));have HD:=zo ho HD WD;have Y3:=zc Y3 HD.out;have Y4:=zc Y4 HD.out;clear HD WD;have HG:=zo ho HG Lg3;have KgB:=zl ho KgB (by have:=NgBg3.out;omega);have Kg2:=zl ho Kg2 (by have:=Ng2g3.out;omega);have Kg3 : Hid (u7.heap[g3]? = some (.cells #[.int .u64 v.f0,.string v.f1,.bool v.f2,.int .i64 v.f3] 47 (0,0))):=hk;obtain ⟨k0,k1,k2,k3⟩:=zz4 Kg2.out;obtain ⟨n0,n1,n2,n3⟩:=zz4 Kg3.out;clear hk ho)))
         go_roundw
         case rel=>exact ⟨_,cnt1,HRG,KgB,Y3,Y4,HG⟩
         case measure=>rw [HRG.out.left_eq,HRG0.out.left_eq];exact hltc
     ·have v0 : decide (Int.tmod x.kd 9 < 3) = false:=decide_eq_false k3
      have HKJ:=HKJ0
      clear s4 s2 hmx h4_ hkn k3 hky hdt
      go_wp2_with (first
       | (go_at_call 22;go_must (refine (HCT.out _).mono ?_;rintro e w1 ⟨rfl,hb⟩;have HB:=keepB HB hb;clear hb))
       | ((with_reducible refine gate_dst (N:=8) rfl ?_);go_must (refine zx HB (N:=8) (cs:=#[.int .u8 0,.string ⟨#[]⟩,.string ⟨#[]⟩,.int .u64 0,.int .i64 0,.int .i64 0,.slice none 0 0]) (t:=59) ?hr ?_;(case hr=>first | (go_simp;done) | (go_simp;rfl));intro ga w2 Kga Lga HB hbelga hqga;clear hbelga hqga))
       | ((with_reducible refine gate_store (t:=59) (p:=8) (v:=.tmp 40) rfl ?_);go_must (refine zs 59 (.tmp 8) (.tmp 40) ga 0 59 [.int .u8 x.kd,.string ky,.string dt,.int .u64 x.id,.int .i64 x.n,.int .i64 x.q,.slice A6 pz.length c6] Kga (by kernel_rfl) ?_;intro w3 hk ho;have Kga : Hid (w3.heap[ga]? = some (.cells #[.int .u8 x.kd,.string ky,.string dt,.int .u64 x.id,.int .i64 x.n,.int .i64 x.q,.slice A6 pz.length c6] 59 (0,0))):=hk;have HB:=zo ho HB Lga;have KgB:=zk KgB HB.out;obtain ⟨a0,a1,a2,a3,a4⟩:=zz5 KgB.out;obtain ⟨b0,b1,b2,b3,b4,b5,b6⟩:=zz7 Kga.out;clear hk ho))
       | (go_at_call 23;go_must (refine (HDO.out _ HB.out).mono ?_;rintro e w5 ⟨A5,c5,D5,d5,rfl,y1_,y2_,y3,y4,hb⟩;have Y3:=zh y3;have Y4:=zh y4;have HB:=keepB HB hb;have Kga:=zk Kga hb;have KgB:=zk KgB hb;clear hb y3 y4 a0 a1 a2 a3 a4 b0 b1 b2 b3 b4 b5 b6))
       | ((with_reducible refine gate_dst (N:=10) rfl ?_);go_must (refine zx HB (N:=10) (cs:=#[.string ⟨#[]⟩,.int .i64 0,.slice none 0 0,.slice none 0 0,.int .u64 0,.int .u64 0,.string ⟨#[]⟩,.int .i64 0]) (t:=62) ?hr ?_;(case hr=>first | (go_simp;done) | (go_simp;rfl));intro go w6 Kgo Lgo HB hbelgo hqgo;have M1:=zh (show ga < go by rw [hqgo];exact blk_lt Kga.out);have M2:=zh (show gB < go by rw [hqgo];exact blk_lt KgB.out);have HD:=zh hbelgo;have WD:=zh (show _ ≤ go by rw [hqgo];exact Nat.le_refl _);have Kga:=zk Kga hbelgo;have KgB:=zk KgB hbelgo;clear hbelgo hqgo))
       | ((with_reducible refine gate_store (t:=62) (p:=10) (v:=.tmp 52) rfl ?_);go_must (refine zs 62 (.tmp 10) (.tmp 52) go 0 62 [.string rb.f0,.int .i64 rb.f1,.slice A5 rb.f2.length c5,.slice D5 rb.f3.length d5,.int .u64 rb.f4,.int .u64 rid,.string tg,.int .i64 0] Kgo (by kernel_rfl) ?_;intro w7 hk ho;have Y3:=zc Y3 (ho.out.below HD.out HD.out.size WD.out);have Y4:=zc Y4 (ho.out.below HD.out HD.out.size WD.out);clear HD WD;have HB:=zo ho HB Lgo;have Kga:=zl ho Kga (by have:=M1.out;omega);have KgB:=zl ho KgB (by have:=M2.out;omega);have Kgo : Hid (w7.heap[go]? = some (.cells #[.string rb.f0,.int .i64 rb.f1,.slice A5 rb.f2.length c5,.slice D5 rb.f3.length d5,.int .u64 rb.f4,.int .u64 rid,.string tg,.int .i64 0] 62 (0,0))):=hk;have HG:=keepB HG HB.out;have HM:=zh (owns_below HM.out HB.out);obtain ⟨f0,f1,f2,f3,f4,f5,f6,f7⟩:=zz8 Kgo.out;clear hk ho))
       | ((with_reducible refine gate_store (t:=26) (p:=2) (v:=.tmp 80) rfl ?_);go_must (refine zs 26 (.tmp 2) (.tmp 80) gB 0 26 [.string rb.f0,.int .i64 rb.f1,.slice A5 rb.f2.length c5,.slice D5 rb.f3.length d5,.int .u64 rb.f4] KgB isz_bucket ?_;intro w12 hk ho;have Y3:=zh (keepE Y3.out KgB.out (bk_like _ _ _ _ _ _ _ _ _) ho.out);have Y4:=zh (keepU Y4.out KgB.out (bk_like _ _ _ _ _ _ _ _ _) ho.out);have HM:=zh (owns_only HM.out ho.out (owns_ne HM.out KgB.out));have KgB : Hid (w12.heap[gB]? = some (.cells #[.string rb.f0,.int .i64 rb.f1,.slice A5 rb.f2.length c5,.slice D5 rb.f3.length d5,.int .u64 rb.f4] 26 (0,0))):=hk;have HG:=zo ho HG LgB;clear f0 f1 f2 f3 f4 f5 f6 f7;clear hk ho))
       | (at_range;go_must (refine wpList_range_own _ rfl _ 75 rfl 78 47 wlaw Tryz.underlying75 verR gM k D rfl HM.out ?_;intro w13 hrg0 hg0 hs0;have HGS:=zh HG.out.size)))
      go_frame
      have hb0:=grown_below hg0
      have HG:=keepB HG hb0
      have KgB:=zk KgB hb0
      have Y3:=zc Y3 hb0
      have Y4:=zc Y4 hb0
      have HR0:=zh hrg0
      obtain ⟨gR,hgR⟩ : ∃ n,n = w12.heap.size:=⟨_,rfl⟩
      rw [← hgR] at HR0 ⊢
      have LgR : Hid (w.heap.size ≤ gR):=by unfold Hid;rw [hgR];exact HGS.out
      clear hb0 hg0 hs0 hrg0 hgR HM
      go_loopw [14] (fun _ wi=>∃ (left : Lit → Bool) (cnt : Nat),Hid (wi.ranges Tryz.prog 78 verR gM gR k D left cnt) ∧ Hid (wi.heap[gB]? = some (.cells #[.string rb.f0,.int .i64 rb.f1,.slice A5 rb.f2.length c5,.slice D5 rb.f3.length d5,.int .u64 rb.f4] 26 (0,0))) ∧ Hid (Kd.C k56 wi A5 rb.f2.length rb.f2) ∧ Hid (Kd.C k101 wi D5 rb.f3.length rb.f3) ∧ Hid (Below w.heap.size w wi)) (fun _ wi=>wi.rangeLeft gM gR)
      case atStart=>exact ⟨_,_,HR0,KgB,Y3,Y4,HG⟩
      case round =>
       clear HR0 KgB Y3 Y4 HG
       obtain ⟨left,cnt,HRG,KgB,Y3,Y4,HG⟩:=hrel
       go_wp2_with (at_next;refine wpList_next_ranges _ rfl (.tmp 82) rfl 78 wlaw verR (fun x : ByteArray × Int=>Value.agg #[.string x.1,.int .u64 x.2]) (fun v : S47=>Value.agg #[.int .u64 v.f0,.string v.f1,.bool v.f2,.int .i64 v.f3]) where_inv ver_inv gM gR k D left cnt rfl HRG.out ?_ ?_)
       ·intro hc0 hl0
        go_wp2
        go_roundw
        case rel=>exact ⟨k + 1,D,rb,A5,D5,c5,d5,by go_num,hlt,h30,HKJ,HBR,KgB,zh (HRG.out.owns.mono (Nat.le_succ _)),y1_,y2_,Y3,Y4,HG⟩
        case measure=>simp [intOf];omega
       ·intro x1 x2 v kl2 ya yb w14 cnt1 hkey hlk hv hat hrg1 hltc hg1 hs1 hen
        obtain ⟨rfl,rfl⟩ : ya = verD v ∧ yb = []:=Prod.mk.inj (Option.some.inj (hv.symm.trans (verR_mk v)))
        have hfd:=kept_find HBR.out.1 (HKJ.out.kept x1 x2 kl2 v hkey hat)
        have HFD:=fun (A5 D5 : Option Addr) (c5 d5 : Nat) (W : World) (h2 : Kd.C k56 W A5 rb.f2.length rb.f2) (g2 : rb.f2.length ≤ c5) (h3 : Kd.C k101 W D5 rb.f3.length rb.f3) (g3 : rb.f3.length ≤ d5)=>show Calls Tryz.prog 29 #[.agg #[.string rb.f0,.int .i64 rb.f1,.slice A5 rb.f2.length c5,.slice D5 rb.f3.length d5,.int .u64 rb.f4],.string x1,.int .u64 x2] W (fun e w'=>∃ er2 : Int,e = .returned (.tuple #[.agg #[.int .u64 v.f0,.string v.f1,.bool v.f2,.int .i64 v.f3],.int .i64 er2]) ∧ Below W.heap.size W w') from by
         have z:=findB.walk rb A5 D5 c5 d5 x1 x2 W h2 g2 h3 g3
         rw [hfd] at z
         exact z.mono (fun e w' hz=>⟨_,hz.1,hz.2⟩)
        have ho:=grown_only hg1
        obtain ⟨si,se,sc,hit⟩:=ranges_iter HRG.out
        have Y3:=zh (iterE Y3.out hit ho)
        have Y4:=zh (iterU Y4.out hit ho)
        have KgB:=zh (ho.blk KgB.out (iter_ne hit KgB.out))
        have HG:=zh (ho.below HG.out HG.out.size LgR.out)
        have HRG0:=HRG
        have HRG:=zh hrg1
        have HFD:=zh HFD
        clear hit ho hfd hkey hlk hv hat hrg1 hg1 hs1
        go_wp2_with (first
         | ((with_reducible refine gate_dst (N:=12) rfl ?_);go_must (refine zx HG (N:=12) (cs:=#[.string ⟨#[]⟩,.int .u64 0]) (t:=78) ?hr ?_;(case hr=>first | (go_simp;done) | (go_simp;rfl));intro g1 u1 Kg1 Lg1 HG hbelg1 hqg1;have Wg1:=zh (show gR < g1 by rw [hqg1];exact HRG.out.lt);have Xg1:=zh (show gM < g1 by rw [hqg1];exact HRG.out.owns.lt);have NgBg1:=zh (show gB < g1 by rw [hqg1];exact blk_lt KgB.out);have HRG:=zh (ranges_below HRG.out hbelg1);have HD:=zh hbelg1;have WD:=zh (show _ ≤ g1 by rw [hqg1];exact Nat.le_refl _);have KgB:=zk KgB hbelg1;clear hbelg1 hqg1))
         | ((with_reducible refine gate_dst (N:=13) rfl ?_);go_must (refine zx HG (N:=13) (cs:=#[.int .u64 0,.string ⟨#[]⟩,.bool false,.int .i64 0]) (t:=47) ?hr ?_;(case hr=>first | (go_simp;done) | (go_simp;rfl));intro g2 u2 Kg2 Lg2 HG hbelg2 hqg2;have Wg2:=zh (show gR < g2 by rw [hqg2];exact HRG.out.lt);have Xg2:=zh (show gM < g2 by rw [hqg2];exact HRG.out.owns.lt);have NgBg2:=zh (show gB < g2 by rw [hqg2];exact blk_lt KgB.out);have Ng1g2:=zh (show g1 < g2 by rw [hqg2];exact blk_lt Kg1.out);have WD2:=zh (show _ ≤ g2 from Nat.le_of_lt (Nat.lt_of_le_of_lt WD.out Ng1g2.out));have HRG:=zh (ranges_below HRG.out hbelg2);have HD:=keepB HD hbelg2;have KgB:=zk KgB hbelg2;have Kg1:=zk Kg1 hbelg2;clear hbelg2 hqg2))
         | ((with_reducible refine gate_store (t:=78) (p:=12) (v:=.tmp 86) rfl ?_);go_must (refine zs 78 (.tmp 12) (.tmp 86) g1 0 78 [.string x1,.int .u64 x2] Kg1 isz_where ?_;intro u3 hk ho;have HRG:=zh (ranges_only HRG.out ho.out (by have:=Xg1.out;omega) (by have:=Wg1.out;omega));have HD:=zo ho HD WD;have HG:=zo ho HG Lg1;have KgB:=zl ho KgB (by have:=NgBg1.out;omega);have Kg2:=zl ho Kg2 (by have:=Ng1g2.out;omega);have Kg1 : Hid (u3.heap[g1]? = some (.cells #[.string x1,.int .u64 x2] 78 (0,0))):=hk;clear hk ho))
         | ((with_reducible refine gate_store (t:=47) (p:=13) (v:=.tmp 87) rfl ?_);go_must (refine zs 47 (.tmp 13) (.tmp 87) g2 0 47 [.int .u64 v.f0,.string v.f1,.bool v.f2,.int .i64 v.f3] Kg2 (by kernel_rfl) ?_;intro u4 hk ho;have HRG:=zh (ranges_only HRG.out ho.out (by have:=Xg2.out;omega) (by have:=Wg2.out;omega));have HD:=zo ho HD WD2;have Y3:=zc Y3 HD.out;have Y4:=zc Y4 HD.out;clear HD WD WD2;have HG:=zo ho HG Lg2;have KgB:=zl ho KgB (by have:=NgBg2.out;omega);have Kg1:=zl ho Kg1 (by have:=Ng1g2.out;omega);have Kg2 : Hid (u4.heap[g2]? = some (.cells #[.int .u64 v.f0,.string v.f1,.bool v.f2,.int .i64 v.f3] 47 (0,0))):=hk;obtain ⟨m0,m1⟩:=zz2 Kg1.out;obtain ⟨a0,a1,a2,a3,a4⟩:=zz5 KgB.out;clear hk ho))
         | (go_at_call 29;go_must (refine (HFD.out A5 D5 c5 d5 _ Y3.out y1_ Y4.out y2_).mono ?_;rintro e u5 ⟨er2,rfl,hb⟩;have HG:=keepB HG hb;have HRG:=zh (ranges_below HRG.out hb);have Y3:=zc Y3 hb;have Y4:=zc Y4 hb;have KgB:=zk KgB hb;have Kg2:=zk Kg2 hb;clear hb m0 m1 a0 a1 a2 a3 a4))
         | ((with_reducible refine gate_dst (N:=14) rfl ?_);go_must (refine zx HG (N:=14) (cs:=#[.int .u64 0,.string ⟨#[]⟩,.bool false,.int .i64 0]) (t:=47) ?hr ?_;(case hr=>first | (go_simp;done) | (go_simp;rfl));intro g3 u6 Kg3 Lg3 HG hbelg3 hqg3;have Wg3:=zh (show gR < g3 by rw [hqg3];exact HRG.out.lt);have Xg3:=zh (show gM < g3 by rw [hqg3];exact HRG.out.owns.lt);have NgBg3:=zh (show gB < g3 by rw [hqg3];exact blk_lt KgB.out);have Ng2g3:=zh (show g2 < g3 by rw [hqg3];exact blk_lt Kg2.out);have HRG:=zh (ranges_below HRG.out hbelg3);have HD:=zh hbelg3;have WD:=zh (show _ ≤ g3 by rw [hqg3];exact Nat.le_refl _);have KgB:=zk KgB hbelg3;have Kg2:=zk Kg2 hbelg3;clear hbelg3 hqg3))
         | ((with_reducible refine gate_store (t:=47) (p:=14) (v:=.tmp 95) rfl ?_);go_must (refine zs 47 (.tmp 14) (.tmp 95) g3 0 47 [.int .u64 v.f0,.string v.f1,.bool v.f2,.int .i64 v.f3] Kg3 (by kernel_rfl) ?_;intro u7 hk ho;have HRG:=zh (ranges_only HRG.out ho.out (by have:=Xg3.out;omega) (by have:=Wg3.out;omega));have HD:=zo ho HD WD;have Y3:=zc Y3 HD.out;have Y4:=zc Y4 HD.out;clear HD WD;have HG:=zo ho HG Lg3;have KgB:=zl ho KgB (by have:=NgBg3.out;omega);have Kg2:=zl ho Kg2 (by have:=Ng2g3.out;omega);have Kg3 : Hid (u7.heap[g3]? = some (.cells #[.int .u64 v.f0,.string v.f1,.bool v.f2,.int .i64 v.f3] 47 (0,0))):=hk;obtain ⟨k0,k1,k2,k3⟩:=zz4 Kg2.out;obtain ⟨n0,n1,n2,n3⟩:=zz4 Kg3.out;clear hk ho)))
        go_roundw
        case rel=>exact ⟨_,cnt1,HRG,KgB,Y3,Y4,HG⟩
        case measure=>rw [HRG.out.left_eq,HRG0.out.left_eq];exact hltc
    ·have he0 : (er == 0) = false:=beq_eq_false_iff_ne.2 he
     have HKJ:=HKJ0
     clear s4 s2 hmx h4_ hkn hky hdt
     go_wp2_with (first
      | (go_at_call 22;go_must (refine (HCT.out _).mono ?_;rintro e w1 ⟨rfl,hb⟩;have HB:=keepB HB hb;clear hb))
      | ((with_reducible refine gate_dst (N:=8) rfl ?_);go_must (refine zx HB (N:=8) (cs:=#[.int .u8 0,.string ⟨#[]⟩,.string ⟨#[]⟩,.int .u64 0,.int .i64 0,.int .i64 0,.slice none 0 0]) (t:=59) ?hr ?_;(case hr=>first | (go_simp;done) | (go_simp;rfl));intro ga w2 Kga Lga HB hbelga hqga;clear hbelga hqga))
      | ((with_reducible refine gate_store (t:=59) (p:=8) (v:=.tmp 40) rfl ?_);go_must (refine zs 59 (.tmp 8) (.tmp 40) ga 0 59 [.int .u8 x.kd,.string ky,.string dt,.int .u64 x.id,.int .i64 x.n,.int .i64 x.q,.slice A6 pz.length c6] Kga (by kernel_rfl) ?_;intro w3 hk ho;have Kga : Hid (w3.heap[ga]? = some (.cells #[.int .u8 x.kd,.string ky,.string dt,.int .u64 x.id,.int .i64 x.n,.int .i64 x.q,.slice A6 pz.length c6] 59 (0,0))):=hk;have HB:=zo ho HB Lga;have KgB:=zk KgB HB.out;obtain ⟨a0,a1,a2,a3,a4⟩:=zz5 KgB.out;obtain ⟨b0,b1,b2,b3,b4,b5,b6⟩:=zz7 Kga.out;clear hk ho))
      | (go_at_call 23;go_must (refine (HDO.out _ HB.out).mono ?_;rintro e w5 ⟨A5,c5,D5,d5,rfl,y1_,y2_,y3,y4,hb⟩;have Y3:=zh y3;have Y4:=zh y4;have HB:=keepB HB hb;have Kga:=zk Kga hb;have KgB:=zk KgB hb;clear hb y3 y4 a0 a1 a2 a3 a4 b0 b1 b2 b3 b4 b5 b6))
      | ((with_reducible refine gate_dst (N:=10) rfl ?_);go_must (refine zx HB (N:=10) (cs:=#[.string ⟨#[]⟩,.int .i64 0,.slice none 0 0,.slice none 0 0,.int .u64 0,.int .u64 0,.string ⟨#[]⟩,.int .i64 0]) (t:=62) ?hr ?_;(case hr=>first | (go_simp;done) | (go_simp;rfl));intro go w6 Kgo Lgo HB hbelgo hqgo;have M1:=zh (show ga < go by rw [hqgo];exact blk_lt Kga.out);have M2:=zh (show gB < go by rw [hqgo];exact blk_lt KgB.out);have HD:=zh hbelgo;have WD:=zh (show _ ≤ go by rw [hqgo];exact Nat.le_refl _);have Kga:=zk Kga hbelgo;have KgB:=zk KgB hbelgo;clear hbelgo hqgo))
      | ((with_reducible refine gate_store (t:=62) (p:=10) (v:=.tmp 52) rfl ?_);go_must (refine zs 62 (.tmp 10) (.tmp 52) go 0 62 [.string rb.f0,.int .i64 rb.f1,.slice A5 rb.f2.length c5,.slice D5 rb.f3.length d5,.int .u64 rb.f4,.int .u64 rid,.string tg,.int .i64 er] Kgo (by kernel_rfl) ?_;intro w7 hk ho;have Y3:=zc Y3 (ho.out.below HD.out HD.out.size WD.out);have Y4:=zc Y4 (ho.out.below HD.out HD.out.size WD.out);clear HD WD;have HB:=zo ho HB Lgo;have Kga:=zl ho Kga (by have:=M1.out;omega);have KgB:=zl ho KgB (by have:=M2.out;omega);have Kgo : Hid (w7.heap[go]? = some (.cells #[.string rb.f0,.int .i64 rb.f1,.slice A5 rb.f2.length c5,.slice D5 rb.f3.length d5,.int .u64 rb.f4,.int .u64 rid,.string tg,.int .i64 er] 62 (0,0))):=hk;have HG:=keepB HG HB.out;have HM:=zh (owns_below HM.out HB.out);obtain ⟨f0,f1,f2,f3,f4,f5,f6,f7⟩:=zz8 Kgo.out;clear hk ho))
      | ((with_reducible refine gate_store (t:=26) (p:=2) (v:=.tmp 80) rfl ?_);go_must (refine zs 26 (.tmp 2) (.tmp 80) gB 0 26 [.string rb.f0,.int .i64 rb.f1,.slice A5 rb.f2.length c5,.slice D5 rb.f3.length d5,.int .u64 rb.f4] KgB isz_bucket ?_;intro w12 hk ho;have Y3:=zh (keepE Y3.out KgB.out (bk_like _ _ _ _ _ _ _ _ _) ho.out);have Y4:=zh (keepU Y4.out KgB.out (bk_like _ _ _ _ _ _ _ _ _) ho.out);have HM:=zh (owns_only HM.out ho.out (owns_ne HM.out KgB.out));have KgB : Hid (w12.heap[gB]? = some (.cells #[.string rb.f0,.int .i64 rb.f1,.slice A5 rb.f2.length c5,.slice D5 rb.f3.length d5,.int .u64 rb.f4] 26 (0,0))):=hk;have HG:=zo ho HG LgB;clear f0 f1 f2 f3 f4 f5 f6 f7;clear hk ho))
      | (at_range;go_must (refine wpList_range_own _ rfl _ 75 rfl 78 47 wlaw Tryz.underlying75 verR gM k D rfl HM.out ?_;intro w13 hrg0 hg0 hs0;have HGS:=zh HG.out.size)))
     go_frame
     have hb0:=grown_below hg0
     have HG:=keepB HG hb0
     have KgB:=zk KgB hb0
     have Y3:=zc Y3 hb0
     have Y4:=zc Y4 hb0
     have HR0:=zh hrg0
     obtain ⟨gR,hgR⟩ : ∃ n,n = w12.heap.size:=⟨_,rfl⟩
     rw [← hgR] at HR0 ⊢
     have LgR : Hid (w.heap.size ≤ gR):=by unfold Hid;rw [hgR];exact HGS.out
     clear hb0 hg0 hs0 hrg0 hgR HM
     go_loopw [14] (fun _ wi=>∃ (left : Lit → Bool) (cnt : Nat),Hid (wi.ranges Tryz.prog 78 verR gM gR k D left cnt) ∧ Hid (wi.heap[gB]? = some (.cells #[.string rb.f0,.int .i64 rb.f1,.slice A5 rb.f2.length c5,.slice D5 rb.f3.length d5,.int .u64 rb.f4] 26 (0,0))) ∧ Hid (Kd.C k56 wi A5 rb.f2.length rb.f2) ∧ Hid (Kd.C k101 wi D5 rb.f3.length rb.f3) ∧ Hid (Below w.heap.size w wi)) (fun _ wi=>wi.rangeLeft gM gR)
     case atStart=>exact ⟨_,_,HR0,KgB,Y3,Y4,HG⟩
     case round =>
      clear HR0 KgB Y3 Y4 HG
      obtain ⟨left,cnt,HRG,KgB,Y3,Y4,HG⟩:=hrel
      go_wp2_with (at_next;refine wpList_next_ranges _ rfl (.tmp 82) rfl 78 wlaw verR (fun x : ByteArray × Int=>Value.agg #[.string x.1,.int .u64 x.2]) (fun v : S47=>Value.agg #[.int .u64 v.f0,.string v.f1,.bool v.f2,.int .i64 v.f3]) where_inv ver_inv gM gR k D left cnt rfl HRG.out ?_ ?_)
      ·intro hc0 hl0
       go_wp2
       go_roundw
       case rel=>exact ⟨k + 1,D,rb,A5,D5,c5,d5,by go_num,hlt,h30,HKJ,HBR,KgB,zh (HRG.out.owns.mono (Nat.le_succ _)),y1_,y2_,Y3,Y4,HG⟩
       case measure=>simp [intOf];omega
      ·intro x1 x2 v kl2 ya yb w14 cnt1 hkey hlk hv hat hrg1 hltc hg1 hs1 hen
       obtain ⟨rfl,rfl⟩ : ya = verD v ∧ yb = []:=Prod.mk.inj (Option.some.inj (hv.symm.trans (verR_mk v)))
       have hfd:=kept_find HBR.out.1 (HKJ.out.kept x1 x2 kl2 v hkey hat)
       have HFD:=fun (A5 D5 : Option Addr) (c5 d5 : Nat) (W : World) (h2 : Kd.C k56 W A5 rb.f2.length rb.f2) (g2 : rb.f2.length ≤ c5) (h3 : Kd.C k101 W D5 rb.f3.length rb.f3) (g3 : rb.f3.length ≤ d5)=>show Calls Tryz.prog 29 #[.agg #[.string rb.f0,.int .i64 rb.f1,.slice A5 rb.f2.length c5,.slice D5 rb.f3.length d5,.int .u64 rb.f4],.string x1,.int .u64 x2] W (fun e w'=>∃ er2 : Int,e = .returned (.tuple #[.agg #[.int .u64 v.f0,.string v.f1,.bool v.f2,.int .i64 v.f3],.int .i64 er2]) ∧ Below W.heap.size W w') from by
        have z:=findB.walk rb A5 D5 c5 d5 x1 x2 W h2 g2 h3 g3
        rw [hfd] at z
        exact z.mono (fun e w' hz=>⟨_,hz.1,hz.2⟩)
       have ho:=grown_only hg1
       obtain ⟨si,se,sc,hit⟩:=ranges_iter HRG.out
       have Y3:=zh (iterE Y3.out hit ho)
       have Y4:=zh (iterU Y4.out hit ho)
       have KgB:=zh (ho.blk KgB.out (iter_ne hit KgB.out))
       have HG:=zh (ho.below HG.out HG.out.size LgR.out)
       have HRG0:=HRG
       have HRG:=zh hrg1
       have HFD:=zh HFD
       clear hit ho hfd hkey hlk hv hat hrg1 hg1 hs1
       go_wp2_with (first
        | ((with_reducible refine gate_dst (N:=12) rfl ?_);go_must (refine zx HG (N:=12) (cs:=#[.string ⟨#[]⟩,.int .u64 0]) (t:=78) ?hr ?_;(case hr=>first | (go_simp;done) | (go_simp;rfl));intro g1 u1 Kg1 Lg1 HG hbelg1 hqg1;have Wg1:=zh (show gR < g1 by rw [hqg1];exact HRG.out.lt);have Xg1:=zh (show gM < g1 by rw [hqg1];exact HRG.out.owns.lt);have NgBg1:=zh (show gB < g1 by rw [hqg1];exact blk_lt KgB.out);have HRG:=zh (ranges_below HRG.out hbelg1);have HD:=zh hbelg1;have WD:=zh (show _ ≤ g1 by rw [hqg1];exact Nat.le_refl _);have KgB:=zk KgB hbelg1;clear hbelg1 hqg1))
        | ((with_reducible refine gate_dst (N:=13) rfl ?_);go_must (refine zx HG (N:=13) (cs:=#[.int .u64 0,.string ⟨#[]⟩,.bool false,.int .i64 0]) (t:=47) ?hr ?_;(case hr=>first | (go_simp;done) | (go_simp;rfl));intro g2 u2 Kg2 Lg2 HG hbelg2 hqg2;have Wg2:=zh (show gR < g2 by rw [hqg2];exact HRG.out.lt);have Xg2:=zh (show gM < g2 by rw [hqg2];exact HRG.out.owns.lt);have NgBg2:=zh (show gB < g2 by rw [hqg2];exact blk_lt KgB.out);have Ng1g2:=zh (show g1 < g2 by rw [hqg2];exact blk_lt Kg1.out);have WD2:=zh (show _ ≤ g2 from Nat.le_of_lt (Nat.lt_of_le_of_lt WD.out Ng1g2.out));have HRG:=zh (ranges_below HRG.out hbelg2);have HD:=keepB HD hbelg2;have KgB:=zk KgB hbelg2;have Kg1:=zk Kg1 hbelg2;clear hbelg2 hqg2))
        | ((with_reducible refine gate_store (t:=78) (p:=12) (v:=.tmp 86) rfl ?_);go_must (refine zs 78 (.tmp 12) (.tmp 86) g1 0 78 [.string x1,.int .u64 x2] Kg1 isz_where ?_;intro u3 hk ho;have HRG:=zh (ranges_only HRG.out ho.out (by have:=Xg1.out;omega) (by have:=Wg1.out;omega));have HD:=zo ho HD WD;have HG:=zo ho HG Lg1;have KgB:=zl ho KgB (by have:=NgBg1.out;omega);have Kg2:=zl ho Kg2 (by have:=Ng1g2.out;omega);have Kg1 : Hid (u3.heap[g1]? = some (.cells #[.string x1,.int .u64 x2] 78 (0,0))):=hk;clear hk ho))
        | ((with_reducible refine gate_store (t:=47) (p:=13) (v:=.tmp 87) rfl ?_);go_must (refine zs 47 (.tmp 13) (.tmp 87) g2 0 47 [.int .u64 v.f0,.string v.f1,.bool v.f2,.int .i64 v.f3] Kg2 (by kernel_rfl) ?_;intro u4 hk ho;have HRG:=zh (ranges_only HRG.out ho.out (by have:=Xg2.out;omega) (by have:=Wg2.out;omega));have HD:=zo ho HD WD2;have Y3:=zc Y3 HD.out;have Y4:=zc Y4 HD.out;clear HD WD WD2;have HG:=zo ho HG Lg2;have KgB:=zl ho KgB (by have:=NgBg2.out;omega);have Kg1:=zl ho Kg1 (by have:=Ng1g2.out;omega);have Kg2 : Hid (u4.heap[g2]? = some (.cells #[.int .u64 v.f0,.string v.f1,.bool v.f2,.int .i64 v.f3] 47 (0,0))):=hk;obtain ⟨m0,m1⟩:=zz2 Kg1.out;obtain ⟨a0,a1,a2,a3,a4⟩:=zz5 KgB.out;clear hk ho))
        | (go_at_call 29;go_must (refine (HFD.out A5 D5 c5 d5 _ Y3.out y1_ Y4.out y2_).mono ?_;rintro e u5 ⟨er2,rfl,hb⟩;have HG:=keepB HG hb;have HRG:=zh (ranges_below HRG.out hb);have Y3:=zc Y3 hb;have Y4:=zc Y4 hb;have KgB:=zk KgB hb;have Kg2:=zk Kg2 hb;clear hb m0 m1 a0 a1 a2 a3 a4))
        | ((with_reducible refine gate_dst (N:=14) rfl ?_);go_must (refine zx HG (N:=14) (cs:=#[.int .u64 0,.string ⟨#[]⟩,.bool false,.int .i64 0]) (t:=47) ?hr ?_;(case hr=>first | (go_simp;done) | (go_simp;rfl));intro g3 u6 Kg3 Lg3 HG hbelg3 hqg3;have Wg3:=zh (show gR < g3 by rw [hqg3];exact HRG.out.lt);have Xg3:=zh (show gM < g3 by rw [hqg3];exact HRG.out.owns.lt);have NgBg3:=zh (show gB < g3 by rw [hqg3];exact blk_lt KgB.out);have Ng2g3:=zh (show g2 < g3 by rw [hqg3];exact blk_lt Kg2.out);have HRG:=zh (ranges_below HRG.out hbelg3);have HD:=zh hbelg3;have WD:=zh (show _ ≤ g3 by rw [hqg3];exact Nat.le_refl _);have KgB:=zk KgB hbelg3;have Kg2:=zk Kg2 hbelg3;clear hbelg3 hqg3))
        | ((with_reducible refine gate_store (t:=47) (p:=14) (v:=.tmp 95) rfl ?_);go_must (refine zs 47 (.tmp 14) (.tmp 95) g3 0 47 [.int .u64 v.f0,.string v.f1,.bool v.f2,.int .i64 v.f3] Kg3 (by kernel_rfl) ?_;intro u7 hk ho;have HRG:=zh (ranges_only HRG.out ho.out (by have:=Xg3.out;omega) (by have:=Wg3.out;omega));have HD:=zo ho HD WD;have Y3:=zc Y3 HD.out;have Y4:=zc Y4 HD.out;clear HD WD;have HG:=zo ho HG Lg3;have KgB:=zl ho KgB (by have:=NgBg3.out;omega);have Kg2:=zl ho Kg2 (by have:=Ng2g3.out;omega);have Kg3 : Hid (u7.heap[g3]? = some (.cells #[.int .u64 v.f0,.string v.f1,.bool v.f2,.int .i64 v.f3] 47 (0,0))):=hk;obtain ⟨k0,k1,k2,k3⟩:=zz4 Kg2.out;obtain ⟨n0,n1,n2,n3⟩:=zz4 Kg3.out;clear hk ho)))
       go_roundw
       case rel=>exact ⟨_,cnt1,HRG,KgB,Y3,Y4,HG⟩
       case measure=>rw [HRG.out.left_eq,HRG0.out.left_eq];exact hltc
   ·obtain rfl : k = 30:=by omega
    have p1 : (30 : Int) < (l.length : Int):=by omega
    go_wp2_with (go_at_call 14;go_must (refine (HZ.out _).mono ?_;rintro e w20 ⟨rfl,hb⟩;have HG:=keepB HG hb;clear hb))
    go_ret
    exact ⟨rfl,HG.out⟩
  ·obtain rfl : k = l.length:=by omega
   go_wp2_with (go_at_call 14;go_must (refine (HZ.out _).mono ?_;rintro e w20 ⟨rfl,hb⟩;have HG:=keepB HG hb;clear hb))
   go_ret
   exact ⟨rfl,HG.out⟩
end
end Go.Proofs.YtekooapbdgippaaGreatDoor.Q
namespace Go.Proofs.YtekooapbdgippaaGreatDoor.Q
open Go.ChangeShapes Go.WideShapes Go.ChangeAt Go.WideMaps Go.WideElems Go.RowKit
set_option linter.unusedVariables false

theorem own : ownKnob Tryz.prog.godebug = none := by kernel_rfl
theorem laidOut : laidOutB Tryz.prog = true := by kernel_rfl
noncomputable abbrev laid3 := Rows.bucketOffRow.laid
/-- The door's own heap meets the condition. -/
theorem door_met (os : Os) (args : Array Value) : laidMetH Tryz.prog laid3 ((World.doorLaid Tryz.prog 400 os).forCall (fun _ _ => 0) ⟨#[], args, []⟩).memory :=
 laidMetH_of_parts3 (fuel := 8) (laidMet_of_run' 8 (by kernel_rfl) (by kernel_rfl)) (by kernel_rfl) (by kernel_rfl)
end Go.Proofs.YtekooapbdgippaaGreatDoor.Q
