/- What comes in parts is in the end what a Put of it would be: the latest version of the key has those octets, and the upload is gone; whatever the input, as the row says. Part 26 of 26. -/
import Derived.Test.YtekooapbdgippaaGreatDoorBp4
import Derived.Test.YtekooapbdgippaaGreatDoorBp2
import Derived.Test.YtekooapbdgippaaGreatDoorBp1
import Derived.Test.YtekooapbdgippaaGreatDoorBp3
import Derived.ProofKit
import Derived.Deep.Strs
import Derived.Lib.SmallJoins
import Derived.SizedLaws
import Derived.Test.YtekooapbdgippaaGreatDoorRows
import Derived.LaidMore
import Derived.OpenShut
import Derived.Stop.Joined
namespace Go.Proofs.YtekooapbdgippaaGreatDoor.Q
open Go.RowKit Go.Proofs.YtekooapbdgippaaGreatDoorW.PrintWords Go.Proofs.YtekooapbdgippaaGreatDoorW.PrintLast Go.Proofs.YtekooapbdgippaaGreatDoorW.PrintMore
open List renaming getElem_toArray → zA, getElem_cons_zero → zB, getElem_cons_succ → zC, setIfInBounds_toArray → zD, set_cons_zero → zE, set_cons_succ → zF
set_option linter.unusedVariables false
set_option linter.unusedSimpArgs false
set_option maxHeartbeats 8000000
set_option maxRecDepth 100000
section
open Go.WideMaps Go.Maps
attribute [local go_sem] Oper.semAt_some
section
variable {P : Program} {o : Oper} {a : Act} {Q : Exit → Act → World → Prop} {K : Act → World → Prop}
/-- a box made in a drawn region: its block and the world letters -/
theorem wp_box_row {W : World} {N : Tmp} (hd : o.dst = some N) {cs : Array Value} {t : TypeId}
  (hrun : (execOp a.eval o).run P W = .ok (.value (.pointer (some ⟨W.heap.size,0,none⟩))) (W.alloc (.cells cs t (0,0))))
  (h : ∀ g,g = W.heap.size → ∀ w1,w1.heap[g]? = some (.cells cs t (0,0)) → Below W.heap.size W w1 → K (a.put o.dst (.pointer (some ⟨g,0,none⟩))) w1) : Oper.wp P o a W K Q:=by
 unfold Oper.wp
 rw [hrun]
 exact h _ rfl _ (blk_new W _) (below_alloc (Below.refl _ _) _)
end
theorem whole_gg (b : S26) (A2 A3 : Option Addr) (c2 c3 : Nat) (id : Int) (ps : List S43) (A : Option Addr) (c : Nat) (q : Int) (w : World) (h2 : Kd.C k56 w A2 b.f2.length b.f2) (g2 : b.f2.length ≤ c2) (h3 : Kd.C k101 w A3 b.f3.length b.f3) (g3 : b.f3.length ≤ c3) (hl : ps.length < 100) (h4 : Kd.C k43 w A ps.length ps) (he0 : openR b anyK = 0) (u : S101) (hf : findR b.f3 id = (u,0)) (data tx : ByteArray) (hw : wholeR u ps = (data,tx,0)) (r3 : List S101) (hr : abortR b.f3 id = (r3,0)) (pb : S26) (pl : Int) (hp : laidR (⟨b.f0,b.f1,b.f2,r3,b.f4⟩ : S26) u.f1 (fun l id=>putV l b.f1 ⟨id,data,false,q⟩) = (pb,pl,0)) :
  Calls Tryz.prog 17 #[.agg #[.string b.f0,.int .i64 b.f1,.slice A2 b.f2.length c2,.slice A3 b.f3.length c3,.int .u64 b.f4],.int .u64 id,.slice A ps.length c,.int .i64 q] w (BkPost pb [.int .u64 pl,.string tx,.int .i64 0] w):=by
 have H2:=zh (fun (W : World) (h : Below w.heap.size w W)=>Kd.C_below h2 h)
 have H3:=zh (fun (W : World) (h : Below w.heap.size w W)=>Kd.C_below h3 h)
 have HOP:=zh (fun (W : World) (h : Below w.heap.size w W)=>open.walk b A2 A3 c2 c3 anyK W (Kd.C_below h2 h) g2 (Kd.C_below h3 h) g3)
 rw [he0] at HOP
 have HFD:=zh (fun (W : World) (h : Below w.heap.size w W)=>find.walk A3 c3 b.f3 id W (Kd.C_below h3 h) g3)
 unfold FindPost at HFD
 rw [hf] at HFD
 dsimp only at HFD
 have HWH:=zh (fun (A7 : Option Addr) (c7 : Nat) (W : World) (hW : Below w.heap.size w W) (hC : Kd.C k40 W A7 u.f2.length u.f2) (hc : u.f2.length ≤ c7)=>whole.walk u A7 c7 A c ps W hl hC hc (Kd.C_below h4 hW))
 rw [hw] at HWH
 unfold wholeV at HWH
 dsimp only at HWH
 have n00 : noR false 0 0 = 0:=by unfold noR;rw [if_neg (by decide)]
 have n01 : noR (!((0 : Int) == 0)) 0 0 = 0:=n00
 have HN1:=zh (fun (g : Nat) (W : World) hW=>no.walk g (.string b.f0) (.int .i64 b.f1) (.slice A2 b.f2.length c2) (.slice A3 b.f3.length c3) (.int .u64 b.f4) 0 0 false W hW)
 rw [n00] at HN1
 have HN2:=HN1
 have HAB:=zh (fun (W : World) (h : Below w.heap.size w W)=>abort.walk A3 c3 b.f3 id W (Kd.C_below h3 h) g3)
 rw [hr] at HAB
 have HUP:=zh (fun (g : Nat) (A4 : Option Addr) (c4 : Nat) (W : World) hW=>uploadsW.walk g (.string b.f0) (.int .i64 b.f1) (.slice A2 b.f2.length c2) (.slice A3 b.f3.length c3) (.int .u64 b.f4) A4 r3.length c4 0 0 W hW)
 rw [n01] at HUP
 have HPT:=zh (fun (A4 : Option Addr) (c4 : Nat) (W : World) (hW : Below w.heap.size w W) (hC : Kd.C k101 W A4 r3.length r3) (hc : r3.length ≤ c4)=>putB.walk (⟨b.f0,b.f1,b.f2,r3,b.f4⟩ : S26) A2 A4 c2 c4 u.f1 data q W (Kd.C_below h2 hW) g2 hC hc)
 dsimp only at HPT
 rw [hp] at HPT
 have G2:=zh g2
 have G3:=zh g3
 have HB:=zh (Below.refl w.heap.size w)
 clear h2 h3 g2 g3 h4 hl he0 hf hw hr hp n00 n01
 go_enter Tryz.func17,Tryz.ntmps17
 go_wp2_with (first
  | ((with_reducible refine gate_dst (N:=4) rfl ?_);go_must (refine zx HB (N:=4) (cs:=#[.string b.f0,.int .i64 b.f1,.slice A2 b.f2.length c2,.slice A3 b.f3.length c3,.int .u64 b.f4]) (t:=26) ?hr ?_;(case hr=>first | (go_simp;done) | (go_simp;rfl));intro gb w1 Kgb Lgb HB hbelgb hqgb;clear hbelgb hqgb))
  | ((with_reducible refine gate_dst (N:=8) rfl ?_);go_must (refine zx HB (N:=8) (cs:=#[.string ⟨#[]⟩,.int .i64 0,.slice none 0 0,.slice none 0 0,.int .u64 0]) (t:=26) ?hr ?_;(case hr=>first | (go_simp;done) | (go_simp;rfl));intro go w3 Kgo Lgo HB hbelgo hqgo;have M2:=zh (show gb < go by rw [hqgo];exact blk_lt Kgb.out);have Kgb:=zk Kgb hbelgo;obtain ⟨a0,a1,a2,a3,a4⟩:=zz5 Kgb.out;clear hbelgo hqgo))
  | (go_at_call 32;go_must (refine (HOP.out _ HB.out).mono ?_;rintro e w4 ⟨g,rfl,hgl,hk,hb⟩;have Kg:=hk;have M3:=zh (show go < g from Nat.lt_of_lt_of_le (blk_lt Kgo.out) hgl);have HB:=keepB HB hb.out;have Kgb:=zk Kgb hb.out;have Kgo:=zk Kgo hb.out;have k3:=zb Kg.out 3 (.slice A3 b.f3.length c3);clear hk hb hgl a0 a1 a2 a3 a4))
  | (go_at_call 44;go_must (refine (HFD.out _ HB.out).mono ?_;rintro e w5 ⟨A7,c7,rfl,hc7,hC5,hb⟩;have HC5:=zh hC5;have HG5:=zh hc7;have HB:=keepB HB hb;have Kgb:=zk Kgb hb;have Kgo:=zk Kgo hb;have Kg:=zk Kg hb;clear hb hC5 hc7 k3))
  | ((with_reducible refine gate_dst (N:=13) rfl ?_);go_must (refine zx HB (N:=13) (cs:=#[.int .u64 0,.string ⟨#[]⟩,.slice none 0 0]) (t:=101) ?hr ?_;(case hr=>first | (go_simp;done) | (go_simp;rfl));intro gu w6 Kgu Lgu HB hbelgu hqgu;have M4:=zh (show g < gu by rw [hqgu];exact blk_lt Kg.out);have HD:=zh hbelgu;have LD5:=zh (show w5.heap.size ≤ gu by rw [hqgu];exact Nat.le_refl _);have Kgb:=zk Kgb hbelgu;have Kgo:=zk Kgo hbelgu;have Kg:=zk Kg hbelgu;clear hbelgu hqgu))
  | ((with_reducible refine gate_store (t:=101) (p:=13) (v:=.tmp 29) rfl ?_);go_must (refine zs 101 (.tmp 13) (.tmp 29) gu 0 101 [.int .u64 u.f0,.string u.f1,.slice A7 u.f2.length c7] Kgu (by kernel_rfl) ?_;intro w7 hk ho;have HC5:=zc HC5 (ho.out.below HD.out HD.out.size LD5.out);have Kgu : Hid (w7.heap[gu]? = some (.cells #[.int .u64 u.f0,.string u.f1,.slice A7 u.f2.length c7] 101 (0,0))):=hk;have HB:=zo ho HB Lgu;have Kgb:=zl ho Kgb (by have:=M2.out;have:=M3.out;have:=M4.out;omega);have Kgo:=zl ho Kgo (by have:=M2.out;have:=M3.out;have:=M4.out;omega);have Kg:=zl ho Kg (by have:=M2.out;have:=M3.out;have:=M4.out;omega);have MK1:=zh True.intro;clear HD LD5;clear hk ho))
  | (go_at_call 45;go_must (first
   | (clear MK1;refine (HN1.out g _ Kg.out).mono ?_;rintro e w8 ⟨rfl,hk,ho⟩;have HC5:=zh (keepPt HC5.out Kg.out (work_like b.f0 b.f1 A2 b.f2.length c2 A3 b.f3.length c3 b.f4 0) ho.out);have Kg:=hk;have HB:=zh (ho.out.below HB.out HB.out.size (by have:=Lgo.out;have:=M3.out;omega));have Kgb:=zl ho Kgb (by have:=M2.out;have:=M3.out;have:=M4.out;omega);have Kgo:=zl ho Kgo (by have:=M2.out;have:=M3.out;have:=M4.out;omega);have Kgu:=zl ho Kgu (by have:=M2.out;have:=M3.out;have:=M4.out;omega);obtain ⟨u0,u1,u2⟩:=zz3 Kgu.out;have MK2:=zh True.intro;clear hk ho)
   | (clear MK2;refine (HN2.out g _ Kg.out).mono ?_;rintro e w8 ⟨rfl,hk,ho⟩;have HC5:=zh (keepPt HC5.out Kg.out (work_like b.f0 b.f1 A2 b.f2.length c2 A3 b.f3.length c3 b.f4 0) ho.out);have Kg:=hk;have HB:=zh (ho.out.below HB.out HB.out.size (by have:=Lgo.out;have:=M3.out;omega));have Kgb:=zl ho Kgb (by have:=M2.out;have:=M3.out;have:=M4.out;omega);have Kgo:=zl ho Kgo (by have:=M2.out;have:=M3.out;have:=M4.out;omega);have Kgu:=zl ho Kgu (by have:=M2.out;have:=M3.out;have:=M4.out;omega);have k3:=zb Kg.out 3 (.slice A3 b.f3.length c3);have k5:=zb Kg.out 5 (.int .i64 0);clear hk ho)))
  | (go_at_call 46;go_must (refine (HWH.out A7 c7 _ HB.out HC5.out HG5.out).mono ?_;rintro e w9 ⟨rfl,hb⟩;have HC5:=zc HC5 hb;have HB:=keepB HB hb;have Kgb:=zk Kgb hb;have Kgo:=zk Kgo hb;have Kg:=zk Kg hb;have Kgu:=zk Kgu hb;clear hb u0 u1 u2))
  | (go_at_call 47;go_must (refine (HAB.out _ HB.out).mono ?_;rintro e w10 ⟨A4,c4,rfl,hc4,hC4,hb⟩;have HC4:=zh hC4;have HB:=keepB HB hb;have Kgb:=zk Kgb hb;have Kgo:=zk Kgo hb;have Kg:=zk Kg hb;have Kgu:=zk Kgu hb;clear hb hC4 k3 k5))
  | (go_at_call 34;go_must (refine (HUP.out g A4 c4 _ Kg.out).mono ?_;rintro e w11 ⟨rfl,hk,ho⟩;have HC4:=zh (keepU HC4.out Kg.out (work_like b.f0 b.f1 A2 b.f2.length c2 A3 b.f3.length c3 b.f4 0) ho.out);have Kg:=hk;have HB:=zh (ho.out.below HB.out HB.out.size (by have:=Lgo.out;have:=M3.out;omega));have Kgb:=zl ho Kgb (by have:=M2.out;have:=M3.out;have:=M4.out;omega);have Kgo:=zl ho Kgo (by have:=M2.out;have:=M3.out;have:=M4.out;omega);have Kgu:=zl ho Kgu (by have:=M2.out;have:=M3.out;have:=M4.out;omega);have k5:=zb Kg.out 5 (.int .i64 0);clear hk ho)))
 refine wp_region_held_drew (S:=fun W=>W.heap[g]? = some (.cells #[.string b.f0,.int .i64 b.f1,.slice A2 b.f2.length c2,.slice A4 r3.length c4,.int .u64 b.f4,.int .i64 0] 87 (0,0)) ∧ W.cell? ⟨g,0,none⟩ = some (.string b.f0) ∧ W.cell? ⟨g,1,none⟩ = some (.int .i64 b.f1) ∧ W.cell? ⟨g,2,none⟩ = some (.slice A2 b.f2.length c2) ∧ W.cell? ⟨g,3,none⟩ = some (.slice A4 r3.length c4) ∧ W.cell? ⟨g,4,none⟩ = some (.int .u64 b.f4) ∧ W.heap[gu]? = some (.cells #[.int .u64 u.f0,.string u.f1,.slice A7 u.f2.length c7] 101 (0,0)) ∧ W.cell? ⟨gu,1,none⟩ = some (.string u.f1) ∧ W.heap[gb]? = some (.cells #[.string b.f0,.int .i64 b.f1,.slice A2 b.f2.length c2,.slice A3 b.f3.length c3,.int .u64 b.f4] 26 (0,0)) ∧ W.heap[go]? = some (.cells #[.string ⟨#[]⟩,.int .i64 0,.slice none 0 0,.slice none 0 0,.int .u64 0] 26 (0,0)) ∧ Kd.C k101 W A4 r3.length r3 ∧ Below w.heap.size w W) (by kernel_rfl) ?_ (fun hHeld=>?_)
 ·exact ⟨blk_drew Kg.out,(blk_cell (blk_drew Kg.out) 0).trans rfl,(blk_cell (blk_drew Kg.out) 1).trans rfl,(blk_cell (blk_drew Kg.out) 2).trans rfl,(blk_cell (blk_drew Kg.out) 3).trans rfl,(blk_cell (blk_drew Kg.out) 4).trans rfl,blk_drew Kgu.out,(blk_cell (blk_drew Kgu.out) 1).trans rfl,blk_drew Kgb.out,blk_drew Kgo.out,Kd.C_below HC4.out (below_drew (Below.refl _ _)),HB.out.drew⟩
 clear Kg Kgo Kgb Kgu HB k5 HC4 HC5
 refine zt 0 (v:=?v0g1) ?y0g1 ?r0g1
 case y0g1=>(rintro w ⟨s0,s1,s2,s3,s4,s5,s6,s7,s8,s9,s10,s11⟩;go_simp;try with_reducible rfl)
 try simp only [zA,zB,zC,Act.put,zD,zE,zF]
 refine zt 1 (v:=?v1g1) ?y1g1 ?r1g1
 case y1g1=>(rintro w ⟨s0,s1,s2,s3,s4,s5,s6,s7,s8,s9,s10,s11⟩;go_simp;try with_reducible rfl)
 try simp only [zA,zB,zC,Act.put,zD,zE,zF]
 refine zt 2 (v:=?v2g1) ?y2g1 ?r2g1
 case y2g1=>(rintro w ⟨s0,s1,s2,s3,s4,s5,s6,s7,s8,s9,s10,s11⟩;go_simp;try with_reducible rfl)
 try simp only [zA,zB,zC,Act.put,zD,zE,zF]
 refine zt 3 (v:=?v3g1) ?y3g1 ?r3g1
 case y3g1=>(rintro w ⟨s0,s1,s2,s3,s4,s5,s6,s7,s8,s9,s10,s11⟩;go_simp;try with_reducible rfl)
 try simp only [zA,zB,zC,Act.put,zD,zE,zF]
 refine zt 4 (v:=?v4g1) ?y4g1 ?r4g1
 case y4g1=>(rintro w ⟨s0,s1,s2,s3,s4,s5,s6,s7,s8,s9,s10,s11⟩;go_simp;try with_reducible rfl)
 try simp only [zA,zB,zC,Act.put,zD,zE,zF]
 refine zt 5 (v:=?v5g1) ?y5g1 ?r5g1
 case y5g1=>(rintro w ⟨s0,s1,s2,s3,s4,s5,s6,s7,s8,s9,s10,s11⟩;go_simp;try with_reducible rfl)
 try simp only [zA,zB,zC,Act.put,zD,zE,zF]
 refine zt 6 (v:=?v6g1) ?y6g1 ?r6g1
 case y6g1=>(rintro w ⟨s0,s1,s2,s3,s4,s5,s6,s7,s8,s9,s10,s11⟩;go_simp;try with_reducible rfl)
 try simp only [zA,zB,zC,Act.put,zD,zE,zF]
 refine zt 7 (v:=?v7g1) ?y7g1 ?r7g1
 case y7g1=>(rintro w ⟨s0,s1,s2,s3,s4,s5,s6,s7,s8,s9,s10,s11⟩;go_simp;try with_reducible rfl)
 try simp only [zA,zB,zC,Act.put,zD,zE,zF]
 refine wpAnyH_ready (rs:=[8,13]) (by kernel_rfl) (by simp) ?_
 refine AllReadyH.cons (o:=_) rfl (fun K hK=>?_) (AllReadyH.cons (o:=_) rfl (fun K hK=>?_) AllReadyH.nil)
 ·skip
  rw [if_pos (by rfl)]
  go_simp
  obtain ⟨s0,s1,s2,s3,s4,s5,s6,s7,s8,s9,s10,s11⟩:=hHeld
  refine (HPT.out A4 c4 _ s11 s10 hc4).mono ?_
  rintro e8 w8 ⟨v8,rfl,⟨A5,c5,A6,c6,rfl,y1,y2,y3,y4⟩,hb8⟩
  have Y3:=zh y3
  have Y4:=zh y4
  clear y3 y4
  refine hK.out _ _ ⟨blk_below s0 hb8,keepc hb8 s1,keepc hb8 s2,keepc hb8 s3,keepc hb8 s4,keepc hb8 s5,blk_below s6 hb8,keepc hb8 s7,blk_below s8 hb8,blk_below s9 hb8,Kd.C_below s10 hb8,s11.trans (hb8.mono s11.size)⟩ (fun hHeld=>?_)
  clear hK K hb8 s0 s1 s2 s3 s4 s5 s6 s7 s8 s9 s10 s11
  try simp only [zA,zB,zC,Act.put,zD,zE,zF]
  refine zt 9 (v:=?v9g1a) ?y9g1a ?r9g1a
  case y9g1a=>(rintro w ⟨s0,s1,s2,s3,s4,s5,s6,s7,s8,s9,s10,s11⟩;go_simp;try with_reducible rfl)
  try simp only [zA,zB,zC,Act.put,zD,zE,zF]
  refine zt 10 (v:=?v10g1a) ?y10g1a ?r10g1a
  case y10g1a=>(rintro w ⟨s0,s1,s2,s3,s4,s5,s6,s7,s8,s9,s10,s11⟩;go_simp;try with_reducible rfl)
  try simp only [zA,zB,zC,Act.put,zD,zE,zF]
  refine zt 11 (v:=?v11g1a) ?y11g1a ?r11g1a
  case y11g1a=>(rintro w ⟨s0,s1,s2,s3,s4,s5,s6,s7,s8,s9,s10,s11⟩;go_simp;try with_reducible rfl)
  try simp only [zA,zB,zC,Act.put,zD,zE,zF]
  refine zt 12 (v:=?v12g1a) ?y12g1a ?r12g1a
  case y12g1a=>(rintro w ⟨s0,s1,s2,s3,s4,s5,s6,s7,s8,s9,s10,s11⟩;go_simp;try with_reducible rfl)
  try simp only [zA,zB,zC,Act.put,zD,zE,zF]
  refine wpAnyH_ready (rs:=[13]) (by kernel_rfl) (by simp) ?_
  refine AllReadyH.cons (o:=_) rfl (fun K hK=>?_) AllReadyH.nil
  rw [if_pos (by rfl)]
  obtain ⟨s0,s1,s2,s3,s4,s5,s6,s7,s8,s9,s10,s11⟩:=hHeld
  refine wp_box_row (N:=17) rfl (cs:=#[.string ⟨#[]⟩,.int .i64 0,.slice none 0 0,.slice none 0 0,.int .u64 0]) (t:=26) (by first | (go_simp;done) | (go_simp;rfl)) ?_
  intro gx hgx w12 hkx hbx
  have Kgx:=zh hkx
  have M5:=zh (show go < gx by rw [hgx];exact blk_lt s9)
  have M6:=zh (show g < gx by rw [hgx];exact blk_lt s0)
  have M7:=zh (show gu < gx by rw [hgx];exact blk_lt s6)
  have Lgx:=zh (show w.heap.size ≤ gx by rw [hgx];exact s11.size)
  have Y3:=zc Y3 hbx
  have Y4:=zc Y4 hbx
  refine hK.out _ _ ⟨blk_below s0 hbx,keepc hbx s1,keepc hbx s2,keepc hbx s3,keepc hbx s4,keepc hbx s5,blk_below s6 hbx,keepc hbx s7,blk_below s8 hbx,blk_below s9 hbx,Kd.C_below s10 hbx,s11.trans (hbx.mono s11.size)⟩ (fun hHeld=>?_)
  clear hK K hkx hbx hgx s0 s1 s2 s3 s4 s5 s6 s7 s8 s9 s10 s11
  try simp only [zA,zB,zC,Act.put,zD,zE,zF]
  refine wpAnyH_ready (rs:=[14]) (by kernel_rfl) (by simp) ?_
  refine AllReadyH.cons (o:=_) rfl (fun K hK=>?_) AllReadyH.nil
  rw [if_pos (by rfl)]
  obtain ⟨s0,s1,s2,s3,s4,s5,s6,s7,s8,s9,s10,s11⟩:=hHeld
  refine wp_store_row rfl 26 (.tmp 17) (.tmp 84) rfl gx 0 _ 26 (.agg #[.string pb.f0,.int .i64 pb.f1,.slice A5 pb.f2.length c5,.slice A6 pb.f3.length c6,.int .u64 pb.f4]) [.string pb.f0,.int .i64 pb.f1,.slice A5 pb.f2.length c5,.slice A6 pb.f3.length c6,.int .u64 pb.f4] rfl rfl Kgx.out rfl isz_bucket (by show 0 + 5 ≤ 5;decide) (by simp [Value.oneCell']) ?_
  intro w14 hk ho
  have Y3:=zh (keepE Y3.out Kgx.out (bk_like _ _ _ _ _ _ _ _ _) ho.out)
  have Y4:=zh (keepU Y4.out Kgx.out (bk_like _ _ _ _ _ _ _ _ _) ho.out)
  have C4:=zh (keepU s10 Kgx.out (bk_like _ _ _ _ _ _ _ _ _) ho.out)
  have Kgx : Hid (w14.heap[gx]? = some (.cells #[.string pb.f0,.int .i64 pb.f1,.slice A5 pb.f2.length c5,.slice A6 pb.f3.length c6,.int .u64 pb.f4] 26 (0,0))):=hk
  have HB:=zh (ho.out.below s11 s11.size Lgx.out)
  have Kg:=zh (ho.out.blk s0 (by have:=M6.out;omega))
  have Kgu:=zh (ho.out.blk s6 (by have:=M7.out;omega))
  have Kgb:=zh (ho.out.blk s8 (by have:=M2.out;have:=M5.out;omega))
  have Kgo:=zh (ho.out.blk s9 (by have:=M5.out;omega))
  refine hK.out _ _ ⟨Kg.out,zj Kg 0,zj Kg 1,zj Kg 2,zj Kg 3,zj Kg 4,Kgu.out,zj Kgu 1,Kgb.out,Kgo.out,C4.out,HB.out⟩ (fun hHeld=>?_)
  clear hK K hk ho C4 s0 s1 s2 s3 s4 s5 s6 s7 s8 s9 s10 s11
  try simp only [zA,zB,zC,Act.put,zD,zE,zF]
  refine zt 15 (v:=?v15g1a) ?y15g1a ?r15g1a
  case y15g1a=>(rintro w ⟨s0,s1,s2,s3,s4,s5,s6,s7,s8,s9,s10,s11⟩;go_simp;try with_reducible rfl)
  try simp only [zA,zB,zC,Act.put,zD,zE,zF]
  refine zt 16 (v:=?v16g1a) ?y16g1a ?r16g1a
  case y16g1a=>(rintro w ⟨s0,s1,s2,s3,s4,s5,s6,s7,s8,s9,s10,s11⟩;go_simp;try with_reducible rfl)
  try simp only [zA,zB,zC,Act.put,zD,zE,zF]
  refine wpAnyH_done (by kernel_rfl) ?_ _
  have p0:=zb Kgx.out 0 (.string pb.f0)
  have p1:=zb Kgx.out 1 (.int .i64 pb.f1)
  have p2:=zb Kgx.out 2 (.slice A5 pb.f2.length c5)
  have p3:=zb Kgx.out 3 (.slice A6 pb.f3.length c6)
  have p4:=zb Kgx.out 4 (.int .u64 pb.f4)
  clear hHeld Kg Kgu
  go_wp2_with (((with_reducible refine gate_store (t:=26) (p:=8) (v:=.tmp 91) rfl ?_);go_must (refine zs 26 (.tmp 8) (.tmp 91) go 0 26 [.string pb.f0,.int .i64 pb.f1,.slice A5 pb.f2.length c5,.slice A6 pb.f3.length c6,.int .u64 pb.f4] Kgo isz_bucket ?_;intro w15 hk ho;have Y3:=zh (keepE Y3.out Kgo.out (bk_like _ _ _ _ _ _ _ _ _) ho.out);have Y4:=zh (keepU Y4.out Kgo.out (bk_like _ _ _ _ _ _ _ _ _) ho.out);have HB:=zo ho HB Lgo;obtain ⟨z0,z1,z2,z3,z4⟩:=zz5 hk.out;clear hk ho)))
  refine bodyPost_ret (v:=.tuple #[.agg #[.string pb.f0,.int .i64 pb.f1,.slice A5 pb.f2.length c5,.slice A6 pb.f3.length c6,.int .u64 pb.f4],.int .u64 pl,.string tx,.int .i64 0]) (by simp [results,Tryz.results17,go_sem,z0,z1,z2,z3,z4]) rfl ?_
  exact ⟨_,rfl,⟨A5,c5,A6,c6,rfl,y1,y2,Y3.out,Y4.out⟩,HB.out⟩
 ·skip
  rw [if_pos (by rfl)]
  obtain ⟨s0,s1,s2,s3,s4,s5,s6,s7,s8,s9,s10,s11⟩:=hHeld
  refine wp_box_row (N:=17) rfl (cs:=#[.string ⟨#[]⟩,.int .i64 0,.slice none 0 0,.slice none 0 0,.int .u64 0]) (t:=26) (by first | (go_simp;done) | (go_simp;rfl)) ?_
  intro gx hgx w12 hkx hbx
  have Kgx:=zh hkx
  have M5:=zh (show go < gx by rw [hgx];exact blk_lt s9)
  have M6:=zh (show g < gx by rw [hgx];exact blk_lt s0)
  have M7:=zh (show gu < gx by rw [hgx];exact blk_lt s6)
  have Lgx:=zh (show w.heap.size ≤ gx by rw [hgx];exact s11.size)
  refine hK.out _ _ ⟨blk_below s0 hbx,keepc hbx s1,keepc hbx s2,keepc hbx s3,keepc hbx s4,keepc hbx s5,blk_below s6 hbx,keepc hbx s7,blk_below s8 hbx,blk_below s9 hbx,Kd.C_below s10 hbx,s11.trans (hbx.mono s11.size)⟩ (fun hHeld=>?_)
  clear hK K hkx hbx hgx s0 s1 s2 s3 s4 s5 s6 s7 s8 s9 s10 s11
  try simp only [zA,zB,zC,Act.put,zD,zE,zF]
  refine wpAnyH_ready (rs:=[8]) (by kernel_rfl) (by simp) ?_
  refine AllReadyH.cons (o:=_) rfl (fun K hK=>?_) AllReadyH.nil
  rw [if_pos (by rfl)]
  go_simp
  obtain ⟨s0,s1,s2,s3,s4,s5,s6,s7,s8,s9,s10,s11⟩:=hHeld
  refine (HPT.out A4 c4 _ s11 s10 hc4).mono ?_
  rintro e8 w8 ⟨v8,rfl,⟨A5,c5,A6,c6,rfl,y1,y2,y3,y4⟩,hb8⟩
  have Y3:=zh y3
  have Y4:=zh y4
  clear y3 y4
  have Kgx:=zk Kgx hb8
  refine hK.out _ _ ⟨blk_below s0 hb8,keepc hb8 s1,keepc hb8 s2,keepc hb8 s3,keepc hb8 s4,keepc hb8 s5,blk_below s6 hb8,keepc hb8 s7,blk_below s8 hb8,blk_below s9 hb8,Kd.C_below s10 hb8,s11.trans (hb8.mono s11.size)⟩ (fun hHeld=>?_)
  clear hK K hb8 s0 s1 s2 s3 s4 s5 s6 s7 s8 s9 s10 s11
  try simp only [zA,zB,zC,Act.put,zD,zE,zF]
  refine zt 9 (v:=?v9g1b) ?y9g1b ?r9g1b
  case y9g1b=>(rintro w ⟨s0,s1,s2,s3,s4,s5,s6,s7,s8,s9,s10,s11⟩;go_simp;try with_reducible rfl)
  try simp only [zA,zB,zC,Act.put,zD,zE,zF]
  refine zt 10 (v:=?v10g1b) ?y10g1b ?r10g1b
  case y10g1b=>(rintro w ⟨s0,s1,s2,s3,s4,s5,s6,s7,s8,s9,s10,s11⟩;go_simp;try with_reducible rfl)
  try simp only [zA,zB,zC,Act.put,zD,zE,zF]
  refine zt 11 (v:=?v11g1b) ?y11g1b ?r11g1b
  case y11g1b=>(rintro w ⟨s0,s1,s2,s3,s4,s5,s6,s7,s8,s9,s10,s11⟩;go_simp;try with_reducible rfl)
  try simp only [zA,zB,zC,Act.put,zD,zE,zF]
  refine zt 12 (v:=?v12g1b) ?y12g1b ?r12g1b
  case y12g1b=>(rintro w ⟨s0,s1,s2,s3,s4,s5,s6,s7,s8,s9,s10,s11⟩;go_simp;try with_reducible rfl)
  try simp only [zA,zB,zC,Act.put,zD,zE,zF]
  refine wpAnyH_ready (rs:=[14]) (by kernel_rfl) (by simp) ?_
  refine AllReadyH.cons (o:=_) rfl (fun K hK=>?_) AllReadyH.nil
  rw [if_pos (by rfl)]
  obtain ⟨s0,s1,s2,s3,s4,s5,s6,s7,s8,s9,s10,s11⟩:=hHeld
  refine wp_store_row rfl 26 (.tmp 17) (.tmp 84) rfl gx 0 _ 26 (.agg #[.string pb.f0,.int .i64 pb.f1,.slice A5 pb.f2.length c5,.slice A6 pb.f3.length c6,.int .u64 pb.f4]) [.string pb.f0,.int .i64 pb.f1,.slice A5 pb.f2.length c5,.slice A6 pb.f3.length c6,.int .u64 pb.f4] rfl rfl Kgx.out rfl isz_bucket (by show 0 + 5 ≤ 5;decide) (by simp [Value.oneCell']) ?_
  intro w14 hk ho
  have Y3:=zh (keepE Y3.out Kgx.out (bk_like _ _ _ _ _ _ _ _ _) ho.out)
  have Y4:=zh (keepU Y4.out Kgx.out (bk_like _ _ _ _ _ _ _ _ _) ho.out)
  have C4:=zh (keepU s10 Kgx.out (bk_like _ _ _ _ _ _ _ _ _) ho.out)
  have Kgx : Hid (w14.heap[gx]? = some (.cells #[.string pb.f0,.int .i64 pb.f1,.slice A5 pb.f2.length c5,.slice A6 pb.f3.length c6,.int .u64 pb.f4] 26 (0,0))):=hk
  have HB:=zh (ho.out.below s11 s11.size Lgx.out)
  have Kg:=zh (ho.out.blk s0 (by have:=M6.out;omega))
  have Kgu:=zh (ho.out.blk s6 (by have:=M7.out;omega))
  have Kgb:=zh (ho.out.blk s8 (by have:=M2.out;have:=M5.out;omega))
  have Kgo:=zh (ho.out.blk s9 (by have:=M5.out;omega))
  refine hK.out _ _ ⟨Kg.out,zj Kg 0,zj Kg 1,zj Kg 2,zj Kg 3,zj Kg 4,Kgu.out,zj Kgu 1,Kgb.out,Kgo.out,C4.out,HB.out⟩ (fun hHeld=>?_)
  clear hK K hk ho C4 s0 s1 s2 s3 s4 s5 s6 s7 s8 s9 s10 s11
  try simp only [zA,zB,zC,Act.put,zD,zE,zF]
  refine zt 15 (v:=?v15g1b) ?y15g1b ?r15g1b
  case y15g1b=>(rintro w ⟨s0,s1,s2,s3,s4,s5,s6,s7,s8,s9,s10,s11⟩;go_simp;try with_reducible rfl)
  try simp only [zA,zB,zC,Act.put,zD,zE,zF]
  refine zt 16 (v:=?v16g1b) ?y16g1b ?r16g1b
  case y16g1b=>(rintro w ⟨s0,s1,s2,s3,s4,s5,s6,s7,s8,s9,s10,s11⟩;go_simp;try with_reducible rfl)
  try simp only [zA,zB,zC,Act.put,zD,zE,zF]
  refine wpAnyH_done (by kernel_rfl) ?_ _
  have p0:=zb Kgx.out 0 (.string pb.f0)
  have p1:=zb Kgx.out 1 (.int .i64 pb.f1)
  have p2:=zb Kgx.out 2 (.slice A5 pb.f2.length c5)
  have p3:=zb Kgx.out 3 (.slice A6 pb.f3.length c6)
  have p4:=zb Kgx.out 4 (.int .u64 pb.f4)
  clear hHeld Kg Kgu
  go_wp2_with (((with_reducible refine gate_store (t:=26) (p:=8) (v:=.tmp 91) rfl ?_);go_must (refine zs 26 (.tmp 8) (.tmp 91) go 0 26 [.string pb.f0,.int .i64 pb.f1,.slice A5 pb.f2.length c5,.slice A6 pb.f3.length c6,.int .u64 pb.f4] Kgo isz_bucket ?_;intro w15 hk ho;have Y3:=zh (keepE Y3.out Kgo.out (bk_like _ _ _ _ _ _ _ _ _) ho.out);have Y4:=zh (keepU Y4.out Kgo.out (bk_like _ _ _ _ _ _ _ _ _) ho.out);have HB:=zo ho HB Lgo;obtain ⟨z0,z1,z2,z3,z4⟩:=zz5 hk.out;clear hk ho)))
  refine bodyPost_ret (v:=.tuple #[.agg #[.string pb.f0,.int .i64 pb.f1,.slice A5 pb.f2.length c5,.slice A6 pb.f3.length c6,.int .u64 pb.f4],.int .u64 pl,.string tx,.int .i64 0]) (by simp [results,Tryz.results17,go_sem,z0,z1,z2,z3,z4]) rfl ?_
  exact ⟨_,rfl,⟨A5,c5,A6,c6,rfl,y1,y2,Y3.out,Y4.out⟩,HB.out⟩
theorem whole_gn (b : S26) (A2 A3 : Option Addr) (c2 c3 : Nat) (id : Int) (ps : List S43) (A : Option Addr) (c : Nat) (q : Int) (w : World) (h2 : Kd.C k56 w A2 b.f2.length b.f2) (g2 : b.f2.length ≤ c2) (h3 : Kd.C k101 w A3 b.f3.length b.f3) (g3 : b.f3.length ≤ c3) (hl : ps.length < 100) (h4 : Kd.C k43 w A ps.length ps) (he0 : openR b anyK = 0) (u : S101) (hf : findR b.f3 id = (u,0)) (data tx : ByteArray) (hw : wholeR u ps = (data,tx,0)) (r3 : List S101) (hr : abortR b.f3 id = (r3,0)) (pb : S26) (pl : Int) (pe : Int) (hz : pe ≠ 0) (hp : laidR (⟨b.f0,b.f1,b.f2,r3,b.f4⟩ : S26) u.f1 (fun l id=>putV l b.f1 ⟨id,data,false,q⟩) = (pb,pl,pe)) :
  Calls Tryz.prog 17 #[.agg #[.string b.f0,.int .i64 b.f1,.slice A2 b.f2.length c2,.slice A3 b.f3.length c3,.int .u64 b.f4],.int .u64 id,.slice A ps.length c,.int .i64 q] w (BkPost b [.int .u64 0,.string ⟨#[]⟩,.int .i64 pe] w):=by
 have H2:=zh (fun (W : World) (h : Below w.heap.size w W)=>Kd.C_below h2 h)
 have H3:=zh (fun (W : World) (h : Below w.heap.size w W)=>Kd.C_below h3 h)
 have HOP:=zh (fun (W : World) (h : Below w.heap.size w W)=>open.walk b A2 A3 c2 c3 anyK W (Kd.C_below h2 h) g2 (Kd.C_below h3 h) g3)
 rw [he0] at HOP
 have HFD:=zh (fun (W : World) (h : Below w.heap.size w W)=>find.walk A3 c3 b.f3 id W (Kd.C_below h3 h) g3)
 unfold FindPost at HFD
 rw [hf] at HFD
 dsimp only at HFD
 have HWH:=zh (fun (A7 : Option Addr) (c7 : Nat) (W : World) (hW : Below w.heap.size w W) (hC : Kd.C k40 W A7 u.f2.length u.f2) (hc : u.f2.length ≤ c7)=>whole.walk u A7 c7 A c ps W hl hC hc (Kd.C_below h4 hW))
 rw [hw] at HWH
 unfold wholeV at HWH
 dsimp only at HWH
 have n00 : noR false 0 0 = 0:=by unfold noR;rw [if_neg (by decide)]
 have n01 : noR (!((0 : Int) == 0)) 0 0 = 0:=n00
 have HN1:=zh (fun (g : Nat) (W : World) hW=>no.walk g (.string b.f0) (.int .i64 b.f1) (.slice A2 b.f2.length c2) (.slice A3 b.f3.length c3) (.int .u64 b.f4) 0 0 false W hW)
 rw [n00] at HN1
 have HN2:=HN1
 have HAB:=zh (fun (W : World) (h : Below w.heap.size w W)=>abort.walk A3 c3 b.f3 id W (Kd.C_below h3 h) g3)
 rw [hr] at HAB
 have HUP:=zh (fun (g : Nat) (A4 : Option Addr) (c4 : Nat) (W : World) hW=>uploadsW.walk g (.string b.f0) (.int .i64 b.f1) (.slice A2 b.f2.length c2) (.slice A3 b.f3.length c3) (.int .u64 b.f4) A4 r3.length c4 0 0 W hW)
 rw [n01] at HUP
 have HPT:=zh (fun (A4 : Option Addr) (c4 : Nat) (W : World) (hW : Below w.heap.size w W) (hC : Kd.C k101 W A4 r3.length r3) (hc : r3.length ≤ c4)=>putB.walk (⟨b.f0,b.f1,b.f2,r3,b.f4⟩ : S26) A2 A4 c2 c4 u.f1 data q W (Kd.C_below h2 hW) g2 hC hc)
 dsimp only at HPT
 rw [hp] at HPT
 have q2 : (pe == 0) = false:=beq_eq_false_iff_ne.2 hz
 have r2 : (pe != 0) = true:=by rw [bne,q2];rfl
 have G2:=zh g2
 have G3:=zh g3
 have HB:=zh (Below.refl w.heap.size w)
 clear h2 h3 g2 g3 h4 hl he0 hf hw hr hp n00 n01 hz
 go_enter Tryz.func17,Tryz.ntmps17
 go_wp2_with (first
  | ((with_reducible refine gate_dst (N:=4) rfl ?_);go_must (refine zx HB (N:=4) (cs:=#[.string b.f0,.int .i64 b.f1,.slice A2 b.f2.length c2,.slice A3 b.f3.length c3,.int .u64 b.f4]) (t:=26) ?hr ?_;(case hr=>first | (go_simp;done) | (go_simp;rfl));intro gb w1 Kgb Lgb HB hbelgb hqgb;clear hbelgb hqgb))
  | ((with_reducible refine gate_dst (N:=8) rfl ?_);go_must (refine zx HB (N:=8) (cs:=#[.string ⟨#[]⟩,.int .i64 0,.slice none 0 0,.slice none 0 0,.int .u64 0]) (t:=26) ?hr ?_;(case hr=>first | (go_simp;done) | (go_simp;rfl));intro go w3 Kgo Lgo HB hbelgo hqgo;have M2:=zh (show gb < go by rw [hqgo];exact blk_lt Kgb.out);have Kgb:=zk Kgb hbelgo;obtain ⟨a0,a1,a2,a3,a4⟩:=zz5 Kgb.out;clear hbelgo hqgo))
  | (go_at_call 32;go_must (refine (HOP.out _ HB.out).mono ?_;rintro e w4 ⟨g,rfl,hgl,hk,hb⟩;have Kg:=hk;have M3:=zh (show go < g from Nat.lt_of_lt_of_le (blk_lt Kgo.out) hgl);have HB:=keepB HB hb.out;have Kgb:=zk Kgb hb.out;have Kgo:=zk Kgo hb.out;have k3:=zb Kg.out 3 (.slice A3 b.f3.length c3);clear hk hb hgl a0 a1 a2 a3 a4))
  | (go_at_call 44;go_must (refine (HFD.out _ HB.out).mono ?_;rintro e w5 ⟨A7,c7,rfl,hc7,hC5,hb⟩;have HC5:=zh hC5;have HG5:=zh hc7;have HB:=keepB HB hb;have Kgb:=zk Kgb hb;have Kgo:=zk Kgo hb;have Kg:=zk Kg hb;clear hb hC5 hc7 k3))
  | ((with_reducible refine gate_dst (N:=13) rfl ?_);go_must (refine zx HB (N:=13) (cs:=#[.int .u64 0,.string ⟨#[]⟩,.slice none 0 0]) (t:=101) ?hr ?_;(case hr=>first | (go_simp;done) | (go_simp;rfl));intro gu w6 Kgu Lgu HB hbelgu hqgu;have M4:=zh (show g < gu by rw [hqgu];exact blk_lt Kg.out);have HD:=zh hbelgu;have LD5:=zh (show w5.heap.size ≤ gu by rw [hqgu];exact Nat.le_refl _);have Kgb:=zk Kgb hbelgu;have Kgo:=zk Kgo hbelgu;have Kg:=zk Kg hbelgu;clear hbelgu hqgu))
  | ((with_reducible refine gate_store (t:=101) (p:=13) (v:=.tmp 29) rfl ?_);go_must (refine zs 101 (.tmp 13) (.tmp 29) gu 0 101 [.int .u64 u.f0,.string u.f1,.slice A7 u.f2.length c7] Kgu (by kernel_rfl) ?_;intro w7 hk ho;have HC5:=zc HC5 (ho.out.below HD.out HD.out.size LD5.out);have Kgu : Hid (w7.heap[gu]? = some (.cells #[.int .u64 u.f0,.string u.f1,.slice A7 u.f2.length c7] 101 (0,0))):=hk;have HB:=zo ho HB Lgu;have Kgb:=zl ho Kgb (by have:=M2.out;have:=M3.out;have:=M4.out;omega);have Kgo:=zl ho Kgo (by have:=M2.out;have:=M3.out;have:=M4.out;omega);have Kg:=zl ho Kg (by have:=M2.out;have:=M3.out;have:=M4.out;omega);have MK1:=zh True.intro;clear HD LD5;clear hk ho))
  | (go_at_call 45;go_must (first
   | (clear MK1;refine (HN1.out g _ Kg.out).mono ?_;rintro e w8 ⟨rfl,hk,ho⟩;have HC5:=zh (keepPt HC5.out Kg.out (work_like b.f0 b.f1 A2 b.f2.length c2 A3 b.f3.length c3 b.f4 0) ho.out);have Kg:=hk;have HB:=zh (ho.out.below HB.out HB.out.size (by have:=Lgo.out;have:=M3.out;omega));have Kgb:=zl ho Kgb (by have:=M2.out;have:=M3.out;have:=M4.out;omega);have Kgo:=zl ho Kgo (by have:=M2.out;have:=M3.out;have:=M4.out;omega);have Kgu:=zl ho Kgu (by have:=M2.out;have:=M3.out;have:=M4.out;omega);obtain ⟨u0,u1,u2⟩:=zz3 Kgu.out;have MK2:=zh True.intro;clear hk ho)
   | (clear MK2;refine (HN2.out g _ Kg.out).mono ?_;rintro e w8 ⟨rfl,hk,ho⟩;have HC5:=zh (keepPt HC5.out Kg.out (work_like b.f0 b.f1 A2 b.f2.length c2 A3 b.f3.length c3 b.f4 0) ho.out);have Kg:=hk;have HB:=zh (ho.out.below HB.out HB.out.size (by have:=Lgo.out;have:=M3.out;omega));have Kgb:=zl ho Kgb (by have:=M2.out;have:=M3.out;have:=M4.out;omega);have Kgo:=zl ho Kgo (by have:=M2.out;have:=M3.out;have:=M4.out;omega);have Kgu:=zl ho Kgu (by have:=M2.out;have:=M3.out;have:=M4.out;omega);have k3:=zb Kg.out 3 (.slice A3 b.f3.length c3);have k5:=zb Kg.out 5 (.int .i64 0);clear hk ho)))
  | (go_at_call 46;go_must (refine (HWH.out A7 c7 _ HB.out HC5.out HG5.out).mono ?_;rintro e w9 ⟨rfl,hb⟩;have HC5:=zc HC5 hb;have HB:=keepB HB hb;have Kgb:=zk Kgb hb;have Kgo:=zk Kgo hb;have Kg:=zk Kg hb;have Kgu:=zk Kgu hb;clear hb u0 u1 u2))
  | (go_at_call 47;go_must (refine (HAB.out _ HB.out).mono ?_;rintro e w10 ⟨A4,c4,rfl,hc4,hC4,hb⟩;have HC4:=zh hC4;have HB:=keepB HB hb;have Kgb:=zk Kgb hb;have Kgo:=zk Kgo hb;have Kg:=zk Kg hb;have Kgu:=zk Kgu hb;clear hb hC4 k3 k5))
  | (go_at_call 34;go_must (refine (HUP.out g A4 c4 _ Kg.out).mono ?_;rintro e w11 ⟨rfl,hk,ho⟩;have HC4:=zh (keepU HC4.out Kg.out (work_like b.f0 b.f1 A2 b.f2.length c2 A3 b.f3.length c3 b.f4 0) ho.out);have Kg:=hk;have HB:=zh (ho.out.below HB.out HB.out.size (by have:=Lgo.out;have:=M3.out;omega));have Kgb:=zl ho Kgb (by have:=M2.out;have:=M3.out;have:=M4.out;omega);have Kgo:=zl ho Kgo (by have:=M2.out;have:=M3.out;have:=M4.out;omega);have Kgu:=zl ho Kgu (by have:=M2.out;have:=M3.out;have:=M4.out;omega);have k5:=zb Kg.out 5 (.int .i64 0);clear hk ho)))
 refine wp_region_held_drew (S:=fun W=>W.heap[g]? = some (.cells #[.string b.f0,.int .i64 b.f1,.slice A2 b.f2.length c2,.slice A4 r3.length c4,.int .u64 b.f4,.int .i64 0] 87 (0,0)) ∧ W.cell? ⟨g,0,none⟩ = some (.string b.f0) ∧ W.cell? ⟨g,1,none⟩ = some (.int .i64 b.f1) ∧ W.cell? ⟨g,2,none⟩ = some (.slice A2 b.f2.length c2) ∧ W.cell? ⟨g,3,none⟩ = some (.slice A4 r3.length c4) ∧ W.cell? ⟨g,4,none⟩ = some (.int .u64 b.f4) ∧ W.heap[gu]? = some (.cells #[.int .u64 u.f0,.string u.f1,.slice A7 u.f2.length c7] 101 (0,0)) ∧ W.cell? ⟨gu,1,none⟩ = some (.string u.f1) ∧ W.heap[gb]? = some (.cells #[.string b.f0,.int .i64 b.f1,.slice A2 b.f2.length c2,.slice A3 b.f3.length c3,.int .u64 b.f4] 26 (0,0)) ∧ W.heap[go]? = some (.cells #[.string ⟨#[]⟩,.int .i64 0,.slice none 0 0,.slice none 0 0,.int .u64 0] 26 (0,0)) ∧ Kd.C k101 W A4 r3.length r3 ∧ Below w.heap.size w W) (by kernel_rfl) ?_ (fun hHeld=>?_)
 ·exact ⟨blk_drew Kg.out,(blk_cell (blk_drew Kg.out) 0).trans rfl,(blk_cell (blk_drew Kg.out) 1).trans rfl,(blk_cell (blk_drew Kg.out) 2).trans rfl,(blk_cell (blk_drew Kg.out) 3).trans rfl,(blk_cell (blk_drew Kg.out) 4).trans rfl,blk_drew Kgu.out,(blk_cell (blk_drew Kgu.out) 1).trans rfl,blk_drew Kgb.out,blk_drew Kgo.out,Kd.C_below HC4.out (below_drew (Below.refl _ _)),HB.out.drew⟩
 clear Kg Kgo Kgb Kgu HB k5 HC4 HC5
 refine zt 0 (v:=?v0g2) ?y0g2 ?r0g2
 case y0g2=>(rintro w ⟨s0,s1,s2,s3,s4,s5,s6,s7,s8,s9,s10,s11⟩;go_simp;try with_reducible rfl)
 try simp only [zA,zB,zC,Act.put,zD,zE,zF]
 refine zt 1 (v:=?v1g2) ?y1g2 ?r1g2
 case y1g2=>(rintro w ⟨s0,s1,s2,s3,s4,s5,s6,s7,s8,s9,s10,s11⟩;go_simp;try with_reducible rfl)
 try simp only [zA,zB,zC,Act.put,zD,zE,zF]
 refine zt 2 (v:=?v2g2) ?y2g2 ?r2g2
 case y2g2=>(rintro w ⟨s0,s1,s2,s3,s4,s5,s6,s7,s8,s9,s10,s11⟩;go_simp;try with_reducible rfl)
 try simp only [zA,zB,zC,Act.put,zD,zE,zF]
 refine zt 3 (v:=?v3g2) ?y3g2 ?r3g2
 case y3g2=>(rintro w ⟨s0,s1,s2,s3,s4,s5,s6,s7,s8,s9,s10,s11⟩;go_simp;try with_reducible rfl)
 try simp only [zA,zB,zC,Act.put,zD,zE,zF]
 refine zt 4 (v:=?v4g2) ?y4g2 ?r4g2
 case y4g2=>(rintro w ⟨s0,s1,s2,s3,s4,s5,s6,s7,s8,s9,s10,s11⟩;go_simp;try with_reducible rfl)
 try simp only [zA,zB,zC,Act.put,zD,zE,zF]
 refine zt 5 (v:=?v5g2) ?y5g2 ?r5g2
 case y5g2=>(rintro w ⟨s0,s1,s2,s3,s4,s5,s6,s7,s8,s9,s10,s11⟩;go_simp;try with_reducible rfl)
 try simp only [zA,zB,zC,Act.put,zD,zE,zF]
 refine zt 6 (v:=?v6g2) ?y6g2 ?r6g2
 case y6g2=>(rintro w ⟨s0,s1,s2,s3,s4,s5,s6,s7,s8,s9,s10,s11⟩;go_simp;try with_reducible rfl)
 try simp only [zA,zB,zC,Act.put,zD,zE,zF]
 refine zt 7 (v:=?v7g2) ?y7g2 ?r7g2
 case y7g2=>(rintro w ⟨s0,s1,s2,s3,s4,s5,s6,s7,s8,s9,s10,s11⟩;go_simp;try with_reducible rfl)
 try simp only [zA,zB,zC,Act.put,zD,zE,zF]
 refine wpAnyH_ready (rs:=[8,13]) (by kernel_rfl) (by simp) ?_
 refine AllReadyH.cons (o:=_) rfl (fun K hK=>?_) (AllReadyH.cons (o:=_) rfl (fun K hK=>?_) AllReadyH.nil)
 ·skip
  rw [if_pos (by rfl)]
  go_simp
  obtain ⟨s0,s1,s2,s3,s4,s5,s6,s7,s8,s9,s10,s11⟩:=hHeld
  refine (HPT.out A4 c4 _ s11 s10 hc4).mono ?_
  rintro e8 w8 ⟨v8,rfl,⟨A5,c5,A6,c6,rfl,y1,y2,y3,y4⟩,hb8⟩
  have Y3:=zh y3
  have Y4:=zh y4
  clear y3 y4
  refine hK.out _ _ ⟨blk_below s0 hb8,keepc hb8 s1,keepc hb8 s2,keepc hb8 s3,keepc hb8 s4,keepc hb8 s5,blk_below s6 hb8,keepc hb8 s7,blk_below s8 hb8,blk_below s9 hb8,Kd.C_below s10 hb8,s11.trans (hb8.mono s11.size)⟩ (fun hHeld=>?_)
  clear hK K hb8 s0 s1 s2 s3 s4 s5 s6 s7 s8 s9 s10 s11
  try simp only [zA,zB,zC,Act.put,zD,zE,zF]
  refine zt 9 (v:=?v9g2a) ?y9g2a ?r9g2a
  case y9g2a=>(rintro w ⟨s0,s1,s2,s3,s4,s5,s6,s7,s8,s9,s10,s11⟩;go_simp;try with_reducible rfl)
  try simp only [zA,zB,zC,Act.put,zD,zE,zF]
  refine zt 10 (v:=?v10g2a) ?y10g2a ?r10g2a
  case y10g2a=>(rintro w ⟨s0,s1,s2,s3,s4,s5,s6,s7,s8,s9,s10,s11⟩;go_simp;try with_reducible rfl)
  try simp only [zA,zB,zC,Act.put,zD,zE,zF]
  refine zt 11 (v:=?v11g2a) ?y11g2a ?r11g2a
  case y11g2a=>(rintro w ⟨s0,s1,s2,s3,s4,s5,s6,s7,s8,s9,s10,s11⟩;go_simp;try with_reducible rfl)
  try simp only [zA,zB,zC,Act.put,zD,zE,zF]
  refine zt 12 (v:=?v12g2a) ?y12g2a ?r12g2a
  case y12g2a=>(rintro w ⟨s0,s1,s2,s3,s4,s5,s6,s7,s8,s9,s10,s11⟩;go_simp;try with_reducible rfl)
  try simp only [zA,zB,zC,Act.put,zD,zE,zF]
  refine wpAnyH_ready (rs:=[13]) (by kernel_rfl) (by simp) ?_
  refine AllReadyH.cons (o:=_) rfl (fun K hK=>?_) AllReadyH.nil
  rw [if_pos (by rfl)]
  obtain ⟨s0,s1,s2,s3,s4,s5,s6,s7,s8,s9,s10,s11⟩:=hHeld
  refine wp_box_row (N:=17) rfl (cs:=#[.string ⟨#[]⟩,.int .i64 0,.slice none 0 0,.slice none 0 0,.int .u64 0]) (t:=26) (by first | (go_simp;done) | (go_simp;rfl)) ?_
  intro gx hgx w12 hkx hbx
  have Kgx:=zh hkx
  have M5:=zh (show go < gx by rw [hgx];exact blk_lt s9)
  have M6:=zh (show g < gx by rw [hgx];exact blk_lt s0)
  have M7:=zh (show gu < gx by rw [hgx];exact blk_lt s6)
  have Lgx:=zh (show w.heap.size ≤ gx by rw [hgx];exact s11.size)
  have Y3:=zc Y3 hbx
  have Y4:=zc Y4 hbx
  refine hK.out _ _ ⟨blk_below s0 hbx,keepc hbx s1,keepc hbx s2,keepc hbx s3,keepc hbx s4,keepc hbx s5,blk_below s6 hbx,keepc hbx s7,blk_below s8 hbx,blk_below s9 hbx,Kd.C_below s10 hbx,s11.trans (hbx.mono s11.size)⟩ (fun hHeld=>?_)
  clear hK K hkx hbx hgx s0 s1 s2 s3 s4 s5 s6 s7 s8 s9 s10 s11
  try simp only [zA,zB,zC,Act.put,zD,zE,zF]
  refine wpAnyH_ready (rs:=[14]) (by kernel_rfl) (by simp) ?_
  refine AllReadyH.cons (o:=_) rfl (fun K hK=>?_) AllReadyH.nil
  rw [if_pos (by rfl)]
  obtain ⟨s0,s1,s2,s3,s4,s5,s6,s7,s8,s9,s10,s11⟩:=hHeld
  refine wp_store_row rfl 26 (.tmp 17) (.tmp 84) rfl gx 0 _ 26 (.agg #[.string pb.f0,.int .i64 pb.f1,.slice A5 pb.f2.length c5,.slice A6 pb.f3.length c6,.int .u64 pb.f4]) [.string pb.f0,.int .i64 pb.f1,.slice A5 pb.f2.length c5,.slice A6 pb.f3.length c6,.int .u64 pb.f4] rfl rfl Kgx.out rfl isz_bucket (by show 0 + 5 ≤ 5;decide) (by simp [Value.oneCell']) ?_
  intro w14 hk ho
  have Y3:=zh (keepE Y3.out Kgx.out (bk_like _ _ _ _ _ _ _ _ _) ho.out)
  have Y4:=zh (keepU Y4.out Kgx.out (bk_like _ _ _ _ _ _ _ _ _) ho.out)
  have C4:=zh (keepU s10 Kgx.out (bk_like _ _ _ _ _ _ _ _ _) ho.out)
  have Kgx : Hid (w14.heap[gx]? = some (.cells #[.string pb.f0,.int .i64 pb.f1,.slice A5 pb.f2.length c5,.slice A6 pb.f3.length c6,.int .u64 pb.f4] 26 (0,0))):=hk
  have HB:=zh (ho.out.below s11 s11.size Lgx.out)
  have Kg:=zh (ho.out.blk s0 (by have:=M6.out;omega))
  have Kgu:=zh (ho.out.blk s6 (by have:=M7.out;omega))
  have Kgb:=zh (ho.out.blk s8 (by have:=M2.out;have:=M5.out;omega))
  have Kgo:=zh (ho.out.blk s9 (by have:=M5.out;omega))
  refine hK.out _ _ ⟨Kg.out,zj Kg 0,zj Kg 1,zj Kg 2,zj Kg 3,zj Kg 4,Kgu.out,zj Kgu 1,Kgb.out,Kgo.out,C4.out,HB.out⟩ (fun hHeld=>?_)
  clear hK K hk ho C4 s0 s1 s2 s3 s4 s5 s6 s7 s8 s9 s10 s11
  try simp only [zA,zB,zC,Act.put,zD,zE,zF]
  refine zt 15 (v:=?v15g2a) ?y15g2a ?r15g2a
  case y15g2a=>(rintro w ⟨s0,s1,s2,s3,s4,s5,s6,s7,s8,s9,s10,s11⟩;go_simp;try with_reducible rfl)
  try simp only [zA,zB,zC,Act.put,zD,zE,zF]
  refine zt 16 (v:=?v16g2a) ?y16g2a ?r16g2a
  case y16g2a=>(rintro w ⟨s0,s1,s2,s3,s4,s5,s6,s7,s8,s9,s10,s11⟩;go_simp;try with_reducible rfl)
  try simp only [zA,zB,zC,Act.put,zD,zE,zF]
  refine wpAnyH_done (by kernel_rfl) ?_ _
  have p0:=zb Kgb.out 0 (.string b.f0)
  have p1:=zb Kgb.out 1 (.int .i64 b.f1)
  have p2:=zb Kgb.out 2 (.slice A2 b.f2.length c2)
  have p3:=zb Kgb.out 3 (.slice A3 b.f3.length c3)
  have p4:=zb Kgb.out 4 (.int .u64 b.f4)
  clear hHeld Kg Kgu
  go_wp2_with (((with_reducible refine gate_store (t:=26) (p:=8) (v:=.tmp 89) rfl ?_);go_must (refine zs 26 (.tmp 8) (.tmp 89) go 0 26 [.string b.f0,.int .i64 b.f1,.slice A2 b.f2.length c2,.slice A3 b.f3.length c3,.int .u64 b.f4] Kgo isz_bucket ?_;intro w15 hk ho;have HB:=zo ho HB Lgo;obtain ⟨z0,z1,z2,z3,z4⟩:=zz5 hk.out;clear hk ho)))
  refine bodyPost_ret (v:=.tuple #[.agg #[.string b.f0,.int .i64 b.f1,.slice A2 b.f2.length c2,.slice A3 b.f3.length c3,.int .u64 b.f4],.int .u64 0,.string ⟨#[]⟩,.int .i64 pe]) (by simp [results,Tryz.results17,go_sem,z0,z1,z2,z3,z4]) rfl ?_
  exact ⟨_,rfl,⟨A2,c2,A3,c3,rfl,G2.out,G3.out,H2.out _ HB.out,H3.out _ HB.out⟩,HB.out⟩
 ·skip
  rw [if_pos (by rfl)]
  obtain ⟨s0,s1,s2,s3,s4,s5,s6,s7,s8,s9,s10,s11⟩:=hHeld
  refine wp_box_row (N:=17) rfl (cs:=#[.string ⟨#[]⟩,.int .i64 0,.slice none 0 0,.slice none 0 0,.int .u64 0]) (t:=26) (by first | (go_simp;done) | (go_simp;rfl)) ?_
  intro gx hgx w12 hkx hbx
  have Kgx:=zh hkx
  have M5:=zh (show go < gx by rw [hgx];exact blk_lt s9)
  have M6:=zh (show g < gx by rw [hgx];exact blk_lt s0)
  have M7:=zh (show gu < gx by rw [hgx];exact blk_lt s6)
  have Lgx:=zh (show w.heap.size ≤ gx by rw [hgx];exact s11.size)
  refine hK.out _ _ ⟨blk_below s0 hbx,keepc hbx s1,keepc hbx s2,keepc hbx s3,keepc hbx s4,keepc hbx s5,blk_below s6 hbx,keepc hbx s7,blk_below s8 hbx,blk_below s9 hbx,Kd.C_below s10 hbx,s11.trans (hbx.mono s11.size)⟩ (fun hHeld=>?_)
  clear hK K hkx hbx hgx s0 s1 s2 s3 s4 s5 s6 s7 s8 s9 s10 s11
  try simp only [zA,zB,zC,Act.put,zD,zE,zF]
  refine wpAnyH_ready (rs:=[8]) (by kernel_rfl) (by simp) ?_
  refine AllReadyH.cons (o:=_) rfl (fun K hK=>?_) AllReadyH.nil
  rw [if_pos (by rfl)]
  go_simp
  obtain ⟨s0,s1,s2,s3,s4,s5,s6,s7,s8,s9,s10,s11⟩:=hHeld
  refine (HPT.out A4 c4 _ s11 s10 hc4).mono ?_
  rintro e8 w8 ⟨v8,rfl,⟨A5,c5,A6,c6,rfl,y1,y2,y3,y4⟩,hb8⟩
  have Y3:=zh y3
  have Y4:=zh y4
  clear y3 y4
  have Kgx:=zk Kgx hb8
  refine hK.out _ _ ⟨blk_below s0 hb8,keepc hb8 s1,keepc hb8 s2,keepc hb8 s3,keepc hb8 s4,keepc hb8 s5,blk_below s6 hb8,keepc hb8 s7,blk_below s8 hb8,blk_below s9 hb8,Kd.C_below s10 hb8,s11.trans (hb8.mono s11.size)⟩ (fun hHeld=>?_)
  clear hK K hb8 s0 s1 s2 s3 s4 s5 s6 s7 s8 s9 s10 s11
  try simp only [zA,zB,zC,Act.put,zD,zE,zF]
  refine zt 9 (v:=?v9g2b) ?y9g2b ?r9g2b
  case y9g2b=>(rintro w ⟨s0,s1,s2,s3,s4,s5,s6,s7,s8,s9,s10,s11⟩;go_simp;try with_reducible rfl)
  try simp only [zA,zB,zC,Act.put,zD,zE,zF]
  refine zt 10 (v:=?v10g2b) ?y10g2b ?r10g2b
  case y10g2b=>(rintro w ⟨s0,s1,s2,s3,s4,s5,s6,s7,s8,s9,s10,s11⟩;go_simp;try with_reducible rfl)
  try simp only [zA,zB,zC,Act.put,zD,zE,zF]
  refine zt 11 (v:=?v11g2b) ?y11g2b ?r11g2b
  case y11g2b=>(rintro w ⟨s0,s1,s2,s3,s4,s5,s6,s7,s8,s9,s10,s11⟩;go_simp;try with_reducible rfl)
  try simp only [zA,zB,zC,Act.put,zD,zE,zF]
  refine zt 12 (v:=?v12g2b) ?y12g2b ?r12g2b
  case y12g2b=>(rintro w ⟨s0,s1,s2,s3,s4,s5,s6,s7,s8,s9,s10,s11⟩;go_simp;try with_reducible rfl)
  try simp only [zA,zB,zC,Act.put,zD,zE,zF]
  refine wpAnyH_ready (rs:=[14]) (by kernel_rfl) (by simp) ?_
  refine AllReadyH.cons (o:=_) rfl (fun K hK=>?_) AllReadyH.nil
  rw [if_pos (by rfl)]
  obtain ⟨s0,s1,s2,s3,s4,s5,s6,s7,s8,s9,s10,s11⟩:=hHeld
  refine wp_store_row rfl 26 (.tmp 17) (.tmp 84) rfl gx 0 _ 26 (.agg #[.string pb.f0,.int .i64 pb.f1,.slice A5 pb.f2.length c5,.slice A6 pb.f3.length c6,.int .u64 pb.f4]) [.string pb.f0,.int .i64 pb.f1,.slice A5 pb.f2.length c5,.slice A6 pb.f3.length c6,.int .u64 pb.f4] rfl rfl Kgx.out rfl isz_bucket (by show 0 + 5 ≤ 5;decide) (by simp [Value.oneCell']) ?_
  intro w14 hk ho
  have Y3:=zh (keepE Y3.out Kgx.out (bk_like _ _ _ _ _ _ _ _ _) ho.out)
  have Y4:=zh (keepU Y4.out Kgx.out (bk_like _ _ _ _ _ _ _ _ _) ho.out)
  have C4:=zh (keepU s10 Kgx.out (bk_like _ _ _ _ _ _ _ _ _) ho.out)
  have Kgx : Hid (w14.heap[gx]? = some (.cells #[.string pb.f0,.int .i64 pb.f1,.slice A5 pb.f2.length c5,.slice A6 pb.f3.length c6,.int .u64 pb.f4] 26 (0,0))):=hk
  have HB:=zh (ho.out.below s11 s11.size Lgx.out)
  have Kg:=zh (ho.out.blk s0 (by have:=M6.out;omega))
  have Kgu:=zh (ho.out.blk s6 (by have:=M7.out;omega))
  have Kgb:=zh (ho.out.blk s8 (by have:=M2.out;have:=M5.out;omega))
  have Kgo:=zh (ho.out.blk s9 (by have:=M5.out;omega))
  refine hK.out _ _ ⟨Kg.out,zj Kg 0,zj Kg 1,zj Kg 2,zj Kg 3,zj Kg 4,Kgu.out,zj Kgu 1,Kgb.out,Kgo.out,C4.out,HB.out⟩ (fun hHeld=>?_)
  clear hK K hk ho C4 s0 s1 s2 s3 s4 s5 s6 s7 s8 s9 s10 s11
  try simp only [zA,zB,zC,Act.put,zD,zE,zF]
  refine zt 15 (v:=?v15g2b) ?y15g2b ?r15g2b
  case y15g2b=>(rintro w ⟨s0,s1,s2,s3,s4,s5,s6,s7,s8,s9,s10,s11⟩;go_simp;try with_reducible rfl)
  try simp only [zA,zB,zC,Act.put,zD,zE,zF]
  refine zt 16 (v:=?v16g2b) ?y16g2b ?r16g2b
  case y16g2b=>(rintro w ⟨s0,s1,s2,s3,s4,s5,s6,s7,s8,s9,s10,s11⟩;go_simp;try with_reducible rfl)
  try simp only [zA,zB,zC,Act.put,zD,zE,zF]
  refine wpAnyH_done (by kernel_rfl) ?_ _
  have p0:=zb Kgb.out 0 (.string b.f0)
  have p1:=zb Kgb.out 1 (.int .i64 b.f1)
  have p2:=zb Kgb.out 2 (.slice A2 b.f2.length c2)
  have p3:=zb Kgb.out 3 (.slice A3 b.f3.length c3)
  have p4:=zb Kgb.out 4 (.int .u64 b.f4)
  clear hHeld Kg Kgu
  go_wp2_with (((with_reducible refine gate_store (t:=26) (p:=8) (v:=.tmp 89) rfl ?_);go_must (refine zs 26 (.tmp 8) (.tmp 89) go 0 26 [.string b.f0,.int .i64 b.f1,.slice A2 b.f2.length c2,.slice A3 b.f3.length c3,.int .u64 b.f4] Kgo isz_bucket ?_;intro w15 hk ho;have HB:=zo ho HB Lgo;obtain ⟨z0,z1,z2,z3,z4⟩:=zz5 hk.out;clear hk ho)))
  refine bodyPost_ret (v:=.tuple #[.agg #[.string b.f0,.int .i64 b.f1,.slice A2 b.f2.length c2,.slice A3 b.f3.length c3,.int .u64 b.f4],.int .u64 0,.string ⟨#[]⟩,.int .i64 pe]) (by simp [results,Tryz.results17,go_sem,z0,z1,z2,z3,z4]) rfl ?_
  exact ⟨_,rfl,⟨A2,c2,A3,c3,rfl,G2.out,G3.out,H2.out _ HB.out,H3.out _ HB.out⟩,HB.out⟩
def wholeB (b : S26) (id : Int) (ps : List S43) (q : Int) : S26 × Int × ByteArray × Int :=
 let f:=findR b.f3 id
 let x:=wholeR f.1 ps
 let e2:=noR (!(x.2.2 == 0)) x.2.2 (noR (!(f.2 == 0)) f.2 (openR b anyK))
 if e2 = 0 then
  let p:=laidR ⟨b.f0,b.f1,b.f2,(abortR b.f3 id).1,b.f4⟩ f.1.f1 (fun l id=>putV l b.f1 ⟨id,x.1,false,q⟩)
  if p.2.2 = 0 then (p.1,p.2.1,x.2.1,0) else (b,0,⟨#[]⟩,p.2.2)
 else (b,0,⟨#[]⟩,e2)
theorem find_abort {l : List S101} {id : Int} {u : S101} (h : findR l id = (u,0)) : abortR l id = ((abortR l id).1,0):=by
 unfold findR at h
 unfold abortR
 cases hc : checkB l with
 | false=>rw [hc] at h;cases h
 | true =>
  rw [hc] at h
  cases hp : posU l id with
  | none=>rw [hp] at h;cases h
  | some i=>rfl
theorem wholeB.walk (b : S26) (A2 A3 : Option Addr) (c2 c3 : Nat) (id : Int) (ps : List S43) (A : Option Addr) (c : Nat) (q : Int) (w : World) (h2 : Kd.C k56 w A2 b.f2.length b.f2) (g2 : b.f2.length ≤ c2) (h3 : Kd.C k101 w A3 b.f3.length b.f3) (g3 : b.f3.length ≤ c3) (hl : ps.length < 100) (h4 : Kd.C k43 w A ps.length ps) :
  Calls Tryz.prog 17 #[.agg #[.string b.f0,.int .i64 b.f1,.slice A2 b.f2.length c2,.slice A3 b.f3.length c3,.int .u64 b.f4],.int .u64 id,.slice A ps.length c,.int .i64 q] w (BkPost (wholeB b id ps q).1 [.int .u64 (wholeB b id ps q).2.1,.string (wholeB b id ps q).2.2.1,.int .i64 (wholeB b id ps q).2.2.2] w):=by
 obtain ⟨⟨u,fe⟩,hf⟩ : ∃ f,findR b.f3 id = f:=⟨_,rfl⟩
 obtain ⟨⟨data,tx,we⟩,hw⟩ : ∃ f,wholeR u ps = f:=⟨_,rfl⟩
 by_cases hz : noR (!(we == 0)) we (noR (!(fe == 0)) fe (openR b anyK)) = 0
 ·obtain ⟨hwe,h1⟩:=noR_ok hz
  obtain ⟨hfe,he0⟩:=noR_ok h1
  subst hwe hfe
  obtain ⟨⟨pb,pl,pe⟩,hp⟩ : ∃ p,laidR ⟨b.f0,b.f1,b.f2,(abortR b.f3 id).1,b.f4⟩ u.f1 (fun l id=>putV l b.f1 ⟨id,data,false,q⟩) = p:=⟨_,rfl⟩
  have e : wholeB b id ps q = if pe = 0 then (pb,pl,tx,0) else (b,0,⟨#[]⟩,pe):=by
   unfold wholeB
   simp only [hf,hw,hp]
   rw [if_pos hz]
  rw [e]
  by_cases hpe : pe = 0
  ·rw [if_pos hpe]
   subst hpe
   exact whole_gg b A2 A3 c2 c3 id ps A c q w h2 g2 h3 g3 hl h4 he0 u hf data tx hw _ (find_abort hf) pb pl hp
  ·rw [if_neg hpe]
   exact whole_gn b A2 A3 c2 c3 id ps A c q w h2 g2 h3 g3 hl h4 he0 u hf data tx hw _ (find_abort hf) pb pl pe hpe hp
 ·have e : wholeB b id ps q = (b,0,⟨#[]⟩,noR (!(we == 0)) we (noR (!(fe == 0)) fe (openR b anyK))):=by
   unfold wholeB
   simp only [hf,hw]
   rw [if_neg hz]
  rw [e]
  have tt : ∀ x : Int,x ≠ 0 → (!(x == 0)) = true:=fun x h=>by rw [beq_eq_false_iff_ne.2 h];rfl
  by_cases hfe : fe = 0
  ·subst hfe
   by_cases hwe : we = 0
   ·subst hwe;exact whole_n00 b A2 A3 c2 c3 id ps A c q w h2 g2 h3 g3 hl h4 _ rfl u hf data tx hw _ _ rfl rfl hz
   ·have t1:=tt we hwe
    rw [t1] at hz ⊢
    exact whole_n01 b A2 A3 c2 c3 id ps A c q w h2 g2 h3 g3 hl h4 _ rfl u hf data tx we hwe hw _ _ rfl rfl hz
  ·have t2:=tt fe hfe
   rw [t2] at hz ⊢
   by_cases hwe : we = 0
   ·subst hwe;exact whole_n10 b A2 A3 c2 c3 id ps A c q w h2 g2 h3 g3 hl h4 _ rfl u fe hfe hf data tx hw _ _ rfl rfl hz
   ·have t1:=tt we hwe
    rw [t1] at hz ⊢
    exact whole_n11 b A2 A3 c2 c3 id ps A c q w h2 g2 h3 g3 hl h4 _ rfl u fe hfe hf data tx we hwe hw _ _ rfl rfl hz
end
section
open Go.WideMaps Go.Maps
attribute [local go_sem] Oper.semAt_some
theorem one_P {w : World} {x : S43} {c : List Value} {g : Nat} (h : k43.K w x c) (hr : RawAt w ⟨g,0,none⟩ c) : Kd.C k43 w (some ⟨g,0,none⟩) 1 [x]:=by
 have:=rows_C (RowsOf.one_ x c h) (by simpa using hr) (by simp)
 simpa using this
theorem awake_gen (B1 B2 G B3 C D U1 U2 U3 : S26) (i6 q6 i8 q8 i13 q13 : Int) (s6 t11 : ByteArray) (m6 m8 m13 : Bool) (tg n9 n11 : Int) (h1 : laidR (⟨⟨#[98,111,120]⟩,0,[],[],0⟩ : S26) ⟨#[97]⟩ (fun l id=>putV l (⟨⟨#[98,111,120]⟩,0,[],[],0⟩ : S26).f1 ⟨id,⟨#[120]⟩,false,0⟩) = (B1,0,0)) (h2 : laidR B1 ⟨#[97]⟩ (fun l id=>putV l B1.f1 ⟨id,⟨#[121]⟩,false,0⟩) = (B2,0,0)) (h3 : laidR B2 ⟨#[97]⟩ (fun l id=>deleteV l B2.f1 id 0) = (G,0,0)) (h4 : turnB B2 1 = (B3,0)) (h5 : laidR B3 ⟨#[97]⟩ (fun l id=>deleteV l B3.f1 id 1) = (C,1,0)) (h6 : getB C ⟨#[97]⟩ = (⟨i6,s6,m6,q6⟩,13)) (h7 : dropB C ⟨#[97]⟩ 1 = (D,0)) (h8 : getB D ⟨#[97]⟩ = (⟨i8,⟨#[121]⟩,m8,q8⟩,0)) (h9 : beginB B3 ⟨#[107]⟩ = (U1,n9,0)) (h10 : layB U1 n9 ⟨1,⟨#[119,104,111,108,101]⟩⟩ = (U2,tg,0)) (h11 : wholeB U2 n9 [⟨1,tg⟩] 2 = (U3,n11,t11,0)) (h12 : getB U3 ⟨#[107]⟩ = (⟨i13,⟨#[119,104,111,108,101]⟩,m13,q13⟩,0)) (hg : G.f2.length = 0 ∧ G.f3.length = 0) (w : World) :
  Calls Tryz.prog 14 #[] w fun e w'=>e = .returned (.bool true) ∧ Below w.heap.size w w':=by
 have H0:=zh (fun (W : World)=>newB_ok ⟨#[98,111,120]⟩ W (by kernel_rfl))
 have H1 : Hid (∀ W,Calls Tryz.prog 19 #[.agg #[.string ⟨#[98,111,120]⟩,.int .i64 0,.slice none 0 0,.slice none 0 0,.int .u64 0],.string ⟨#[97]⟩,.string ⟨#[120]⟩,.int .i64 0] W (BkPost B1 [.int .u64 0,.int .i64 0] W)):=fun W=>by
  have x:=putB.walk (⟨⟨#[98,111,120]⟩,0,[],[],0⟩ : S26) none none 0 0 ⟨#[97]⟩ ⟨#[120]⟩ 0 W (C_mt _ _ _) (Nat.le_refl _) (C_mt _ _ _) (Nat.le_refl _)
  rw [h1] at x
  exact x
 have H2 : Hid (∀ (AB1 DB1 : Option Addr) (cB1 dB1 : Nat) (W : World),Kd.C k56 W AB1 B1.f2.length B1.f2 → B1.f2.length ≤ cB1 → Kd.C k101 W DB1 B1.f3.length B1.f3 → B1.f3.length ≤ dB1 → Calls Tryz.prog 19 #[.agg #[.string B1.f0,.int .i64 B1.f1,.slice AB1 B1.f2.length cB1,.slice DB1 B1.f3.length dB1,.int .u64 B1.f4],.string ⟨#[97]⟩,.string ⟨#[121]⟩,.int .i64 0] W (BkPost B2 [.int .u64 0,.int .i64 0] W)):=fun A D c d W e2 g2 e3 g3=>by
  have x:=putB.walk B1 A D c d ⟨#[97]⟩ ⟨#[121]⟩ 0 W e2 g2 e3 g3
  rw [h2] at x
  exact x
 have H3 : Hid (∀ (AB2 DB2 : Option Addr) (cB2 dB2 : Nat) (W : World),Kd.C k56 W AB2 B2.f2.length B2.f2 → B2.f2.length ≤ cB2 → Kd.C k101 W DB2 B2.f3.length B2.f3 → B2.f3.length ≤ dB2 → Calls Tryz.prog 39 #[.agg #[.string B2.f0,.int .i64 B2.f1,.slice AB2 B2.f2.length cB2,.slice DB2 B2.f3.length dB2,.int .u64 B2.f4],.string ⟨#[97]⟩,.int .i64 0] W (BkPost G [.int .u64 0,.int .i64 0] W)):=fun A D c d W e2 g2 e3 g3=>by
  have x:=delB.walk B2 A D c d ⟨#[97]⟩ 0 W e2 g2 e3 g3
  rw [h3] at x
  exact x
 have H4 : Hid (∀ (AB2 DB2 : Option Addr) (cB2 dB2 : Nat) (W : World),Kd.C k56 W AB2 B2.f2.length B2.f2 → B2.f2.length ≤ cB2 → Kd.C k101 W DB2 B2.f3.length B2.f3 → B2.f3.length ≤ dB2 → Calls Tryz.prog 27 #[.agg #[.string B2.f0,.int .i64 B2.f1,.slice AB2 B2.f2.length cB2,.slice DB2 B2.f3.length dB2,.int .u64 B2.f4],.int .i64 1] W (BkPost B3 [.int .i64 0] W)):=fun A D c d W e2 g2 e3 g3=>by
  have x:=turnB.walk B2 A D c d 1 W e2 g2 e3 g3
  rw [h4] at x
  exact x
 have H5 : Hid (∀ (AB3 DB3 : Option Addr) (cB3 dB3 : Nat) (W : World),Kd.C k56 W AB3 B3.f2.length B3.f2 → B3.f2.length ≤ cB3 → Kd.C k101 W DB3 B3.f3.length B3.f3 → B3.f3.length ≤ dB3 → Calls Tryz.prog 39 #[.agg #[.string B3.f0,.int .i64 B3.f1,.slice AB3 B3.f2.length cB3,.slice DB3 B3.f3.length dB3,.int .u64 B3.f4],.string ⟨#[97]⟩,.int .i64 1] W (BkPost C [.int .u64 1,.int .i64 0] W)):=fun A D c d W e2 g2 e3 g3=>by
  have x:=delB.walk B3 A D c d ⟨#[97]⟩ 1 W e2 g2 e3 g3
  rw [h5] at x
  exact x
 have H6 : Hid (∀ (AC DC : Option Addr) (cC dC : Nat) (W : World),Kd.C k56 W AC C.f2.length C.f2 → C.f2.length ≤ cC → Kd.C k101 W DC C.f3.length C.f3 → C.f3.length ≤ dC → Calls Tryz.prog 18 #[.agg #[.string C.f0,.int .i64 C.f1,.slice AC C.f2.length cC,.slice DC C.f3.length dC,.int .u64 C.f4],.string ⟨#[97]⟩] W (OnePost ⟨i6,s6,m6,q6⟩ 13 W)):=fun A D c d W e2 g2 e3 g3=>by
  have x:=getB.walk C A D c d ⟨#[97]⟩ W e2 g2 e3 g3
  rw [h6] at x
  exact x
 have H7 : Hid (∀ (AC DC : Option Addr) (cC dC : Nat) (W : World),Kd.C k56 W AC C.f2.length C.f2 → C.f2.length ≤ cC → Kd.C k101 W DC C.f3.length C.f3 → C.f3.length ≤ dC → Calls Tryz.prog 40 #[.agg #[.string C.f0,.int .i64 C.f1,.slice AC C.f2.length cC,.slice DC C.f3.length dC,.int .u64 C.f4],.string ⟨#[97]⟩,.int .u64 1] W (BkPost D [.int .i64 0] W)):=fun A D' c d W e2 g2 e3 g3=>by
  have x:=dropB.walk C A D' c d ⟨#[97]⟩ 1 W e2 g2 e3 g3
  rw [h7] at x
  exact x
 have H8 : Hid (∀ (AD DD : Option Addr) (cD dD : Nat) (W : World),Kd.C k56 W AD D.f2.length D.f2 → D.f2.length ≤ cD → Kd.C k101 W DD D.f3.length D.f3 → D.f3.length ≤ dD → Calls Tryz.prog 18 #[.agg #[.string D.f0,.int .i64 D.f1,.slice AD D.f2.length cD,.slice DD D.f3.length dD,.int .u64 D.f4],.string ⟨#[97]⟩] W (OnePost ⟨i8,⟨#[121]⟩,m8,q8⟩ 0 W)):=fun A D' c d W e2 g2 e3 g3=>by
  have x:=getB.walk D A D' c d ⟨#[97]⟩ W e2 g2 e3 g3
  rw [h8] at x
  exact x
 have H9 : Hid (∀ (AB3 DB3 : Option Addr) (cB3 dB3 : Nat) (W : World),Kd.C k56 W AB3 B3.f2.length B3.f2 → B3.f2.length ≤ cB3 → Kd.C k101 W DB3 B3.f3.length B3.f3 → B3.f3.length ≤ dB3 → Calls Tryz.prog 12 #[.agg #[.string B3.f0,.int .i64 B3.f1,.slice AB3 B3.f2.length cB3,.slice DB3 B3.f3.length dB3,.int .u64 B3.f4],.string ⟨#[107]⟩] W (BkPost U1 [.int .u64 n9,.int .i64 0] W)):=fun A D c d W e2 g2 e3 g3=>by
  have x:=beginB.walk B3 A D c d ⟨#[107]⟩ W e2 g2 e3 g3
  rw [h9] at x
  exact x
 have H10 : Hid (∀ (AU1 DU1 : Option Addr) (cU1 dU1 : Nat) (W : World),Kd.C k56 W AU1 U1.f2.length U1.f2 → U1.f2.length ≤ cU1 → Kd.C k101 W DU1 U1.f3.length U1.f3 → U1.f3.length ≤ dU1 → Calls Tryz.prog 15 #[.agg #[.string U1.f0,.int .i64 U1.f1,.slice AU1 U1.f2.length cU1,.slice DU1 U1.f3.length dU1,.int .u64 U1.f4],.int .u64 n9,.agg #[.int .i64 1,.string ⟨#[119,104,111,108,101]⟩]] W (BkPost U2 [.int .u32 tg,.int .i64 0] W)):=fun A D c d W e2 g2 e3 g3=>by
  have x:=layB.walk U1 A D c d n9 ⟨1,⟨#[119,104,111,108,101]⟩⟩ W e2 g2 e3 g3
  rw [h10] at x
  exact x
 have H11 : Hid (∀ (AU2 DU2 : Option Addr) (cU2 dU2 : Nat) (W : World),Kd.C k56 W AU2 U2.f2.length U2.f2 → U2.f2.length ≤ cU2 → Kd.C k101 W DU2 U2.f3.length U2.f3 → U2.f3.length ≤ dU2 → ∀ gl : Nat,W.heap[gl]? = some (.cells #[.int .i64 1,.int .u32 tg] 43 (0,0)) → Calls Tryz.prog 17 #[.agg #[.string U2.f0,.int .i64 U2.f1,.slice AU2 U2.f2.length cU2,.slice DU2 U2.f3.length dU2,.int .u64 U2.f4],.int .u64 n9,.slice (some ⟨gl,0,none⟩) 1 1,.int .i64 2] W (BkPost U3 [.int .u64 n11,.string t11,.int .i64 0] W)):=fun A D c d W e2 g2 e3 g3 gl kl=>by
  have x:=wholeB.walk U2 A D c d n9 [⟨1,tg⟩] (some ⟨gl,0,none⟩) 1 2 W e2 g2 e3 g3 (by show 1 < 100;decide) (one_P (k43_mk W (⟨1,tg⟩ : S43)) (blkRaw (cs:=[.int .i64 1,.int .u32 tg]) kl))
  rw [h11] at x
  exact x
 have H12 : Hid (∀ (AU3 DU3 : Option Addr) (cU3 dU3 : Nat) (W : World),Kd.C k56 W AU3 U3.f2.length U3.f2 → U3.f2.length ≤ cU3 → Kd.C k101 W DU3 U3.f3.length U3.f3 → U3.f3.length ≤ dU3 → Calls Tryz.prog 18 #[.agg #[.string U3.f0,.int .i64 U3.f1,.slice AU3 U3.f2.length cU3,.slice DU3 U3.f3.length dU3,.int .u64 U3.f4],.string ⟨#[107]⟩] W (OnePost ⟨i13,⟨#[119,104,111,108,101]⟩,m13,q13⟩ 0 W)):=fun A D c d W e2 g2 e3 g3=>by
  have x:=getB.walk U3 A D c d ⟨#[107]⟩ W e2 g2 e3 g3
  rw [h12] at x
  exact x
 have HE : Hid (∀ (AG DG : Option Addr) (cG dG : Nat) (W : World),Kd.C k56 W AG G.f2.length G.f2 → G.f2.length ≤ cG → Kd.C k101 W DG G.f3.length G.f3 → G.f3.length ≤ dG → Calls Tryz.prog 41 #[.agg #[.string G.f0,.int .i64 G.f1,.slice AG G.f2.length cG,.slice DG G.f3.length dG,.int .u64 G.f4]] W (fun e w'=>e = .returned (.bool true) ∧ Below W.heap.size W w')):=fun A D c d W e2 g2 e3 g3=>by
  have x:=bucket_Empty.calls G.f0 G.f1 A c G.f2 D d G.f3 G.f4 true W e2 g2 e3 g3 (by unfold bucket_Empty.f;rw [hg.1,hg.2];rfl)
  exact x
 have HB:=zh (Below.refl w.heap.size w)
 clear h1 h2 h3 h4 h5 h6 h7 h8 h9 h10 h11 h12 hg
 go_enter Tryz.func14,Tryz.ntmps14
 go_wp2_with (first
  | ((with_reducible refine gate_dst (N:=1) rfl ?_);go_must (refine zx HB (N:=1) (cs:=#[.string ⟨#[]⟩,.int .i64 0,.slice none 0 0,.slice none 0 0,.int .u64 0]) (t:=26) ?hr ?_;(case hr=>first | (go_simp;done) | (go_simp;rfl));intro gB wb0 KgB LgB HB hbelgB hqgB;have HD:=zh hbelgB;have WD:=zh (show _ ≤ gB by rw [hqgB];exact Nat.le_refl _);clear hbelgB hqgB))
  | ((with_reducible refine gate_dst (N:=7) rfl ?_);go_must (refine zx HB (N:=7) (cs:=#[.string ⟨#[]⟩,.int .i64 0,.slice none 0 0,.slice none 0 0,.int .u64 0]) (t:=26) ?hr ?_;(case hr=>first | (go_simp;done) | (go_simp;rfl));intro gG wb3 KgG LgG HB hbelgG hqgG;have NgBgG:=zh (show gB < gG by rw [hqgG];exact blk_lt KgB.out);have HD:=zh hbelgG;have WD:=zh (show _ ≤ gG by rw [hqgG];exact Nat.le_refl _);have KgB:=zk KgB hbelgG;clear hbelgG hqgG))
  | ((with_reducible refine gate_dst (N:=11) rfl ?_);go_must (refine zx HB (N:=11) (cs:=#[.string ⟨#[]⟩,.int .i64 0,.slice none 0 0,.slice none 0 0,.int .u64 0]) (t:=26) ?hr ?_;(case hr=>first | (go_simp;done) | (go_simp;rfl));intro gC wb5 KgC LgC HB hbelgC hqgC;have NgBgC:=zh (show gB < gC by rw [hqgC];exact blk_lt KgB.out);have NgGgC:=zh (show gG < gC by rw [hqgC];exact blk_lt KgG.out);have HD:=zh hbelgC;have WD:=zh (show _ ≤ gC by rw [hqgC];exact Nat.le_refl _);have KgB:=zk KgB hbelgC;have KgG:=zk KgG hbelgC;clear hbelgC hqgC))
  | ((with_reducible refine gate_dst (N:=14) rfl ?_);go_must (refine zx HB (N:=14) (cs:=#[.int .u64 0,.string ⟨#[]⟩,.bool false,.int .i64 0]) (t:=47) ?hr ?_;(case hr=>first | (go_simp;done) | (go_simp;rfl));intro gv wb6 Kgv Lgv HB hbelgv hqgv;have NgBgv:=zh (show gB < gv by rw [hqgv];exact blk_lt KgB.out);have NgGgv:=zh (show gG < gv by rw [hqgv];exact blk_lt KgG.out);have NgCgv:=zh (show gC < gv by rw [hqgv];exact blk_lt KgC.out);have HD:=zh hbelgv;have WD:=zh (show _ ≤ gv by rw [hqgv];exact Nat.le_refl _);have KgB:=zk KgB hbelgv;have KgG:=zk KgG hbelgv;have KgC:=zk KgC hbelgv;clear hbelgv hqgv))
  | ((with_reducible refine gate_dst (N:=16) rfl ?_);go_must (refine zx HB (N:=16) (cs:=#[.string ⟨#[]⟩,.int .i64 0,.slice none 0 0,.slice none 0 0,.int .u64 0]) (t:=26) ?hr ?_;(case hr=>first | (go_simp;done) | (go_simp;rfl));intro gD wb7 KgD LgD HB hbelgD hqgD;have NgBgD:=zh (show gB < gD by rw [hqgD];exact blk_lt KgB.out);have NgGgD:=zh (show gG < gD by rw [hqgD];exact blk_lt KgG.out);have NgCgD:=zh (show gC < gD by rw [hqgD];exact blk_lt KgC.out);have HD:=zh hbelgD;have WD:=zh (show _ ≤ gD by rw [hqgD];exact Nat.le_refl _);have KgB:=zk KgB hbelgD;have KgG:=zk KgG hbelgD;have KgC:=zk KgC hbelgD;clear hbelgD hqgD))
  | ((with_reducible refine gate_dst (N:=18) rfl ?_);go_must (refine zx HB (N:=18) (cs:=#[.int .u64 0,.string ⟨#[]⟩,.bool false,.int .i64 0]) (t:=47) ?hr ?_;(case hr=>first | (go_simp;done) | (go_simp;rfl));intro gV wb8 KgV LgV HB hbelgV hqgV;have NgBgV:=zh (show gB < gV by rw [hqgV];exact blk_lt KgB.out);have NgGgV:=zh (show gG < gV by rw [hqgV];exact blk_lt KgG.out);have NgDgV:=zh (show gD < gV by rw [hqgV];exact blk_lt KgD.out);have HD:=zh hbelgV;have WD:=zh (show _ ≤ gV by rw [hqgV];exact Nat.le_refl _);have KgB:=zk KgB hbelgV;have KgG:=zk KgG hbelgV;have KgD:=zk KgD hbelgV;clear hbelgV hqgV))
  | ((with_reducible refine gate_dst (N:=20) rfl ?_);go_must (refine zx HB (N:=20) (cs:=#[.string ⟨#[]⟩,.int .i64 0,.slice none 0 0,.slice none 0 0,.int .u64 0]) (t:=26) ?hr ?_;(case hr=>first | (go_simp;done) | (go_simp;rfl));intro gU wb9 KgU LgU HB hbelgU hqgU;have NgBgU:=zh (show gB < gU by rw [hqgU];exact blk_lt KgB.out);have NgGgU:=zh (show gG < gU by rw [hqgU];exact blk_lt KgG.out);have NgVgU:=zh (show gV < gU by rw [hqgU];exact blk_lt KgV.out);have HD:=zh hbelgU;have WD:=zh (show _ ≤ gU by rw [hqgU];exact Nat.le_refl _);have KgB:=zk KgB hbelgU;have KgG:=zk KgG hbelgU;have KgV:=zk KgV hbelgU;clear hbelgU hqgU))
  | ((with_reducible refine gate_dst (N:=28) rfl ?_);go_must (refine zx HB (N:=28) (cs:=#[.int .u64 0,.string ⟨#[]⟩,.bool false,.int .i64 0]) (t:=47) ?hr ?_;(case hr=>first | (go_simp;done) | (go_simp;rfl));intro gW wb12 KgW LgW HB hbelgW hqgW;have NgGgW:=zh (show gG < gW by rw [hqgW];exact blk_lt KgG.out);have NgVgW:=zh (show gV < gW by rw [hqgW];exact blk_lt KgV.out);have NgUgW:=zh (show gU < gW by rw [hqgW];exact blk_lt KgU.out);have HD:=zh hbelgW;have WD:=zh (show _ ≤ gW by rw [hqgW];exact Nat.le_refl _);have KgG:=zk KgG hbelgW;have KgV:=zk KgV hbelgW;have KgU:=zk KgU hbelgW;clear hbelgW hqgW))
  | ((with_reducible refine gate_dst (N:=98) rfl ?_);go_must (refine lit_event ?hg (N:=98) ?hd (cs:=#[.int .i64 1,.int .u32 tg]) (t:=43) 1 ?hr ?_;(case hd=>rfl);(case hg=>rfl);(case hr=>first | (go_simp;done) | (go_simp;rfl));intro gl hql wl hbl hbell;have Kl:=zh hbl;have HB:=keepB HB hbell;have KgG:=zk KgG hbell;have KgV:=zk KgV hbell;have KgU:=zk KgU hbell;have EG:=zc EG hbell;have UG:=zc UG hbell;have EU2:=zc EU2 hbell;have UU2:=zc UU2 hbell;obtain ⟨a0,a1,a2,a3,a4⟩:=zz5 KgU.out;clear hbl hbell hql))
  | (go_at_call 26;go_must (first
    | (refine (H0.out _).mono ?_;rintro e w' ⟨rfl,hb⟩;have HB:=keepB HB hb;clear hb)))
  | (go_at_call 19;go_must (first
    | (clear MK1;refine (H1.out _).mono ?_;rintro e w' ⟨v,rfl,⟨AB1,cB1,DB1,dB1,rfl,x2,x3,y2,y3⟩,hb⟩;have HB:=keepB HB hb;have KgB:=zk KgB hb;have XB1:=zh x2;have YB1:=zh x3;have EB1:=zh y2;have UB1:=zh y3;clear x2 x3 y2 y3;clear a0 a1 a2 a3 a4;clear hb)
    | (clear MK2;refine (H2.out AB1 DB1 cB1 dB1 _ EB1.out XB1.out UB1.out YB1.out).mono ?_;rintro e w' ⟨v,rfl,⟨AB2,cB2,DB2,dB2,rfl,x2,x3,y2,y3⟩,hb⟩;have HB:=keepB HB hb;have KgB:=zk KgB hb;have EB1:=zc EB1 hb;have UB1:=zc UB1 hb;have XB2:=zh x2;have YB2:=zh x3;have EB2:=zh y2;have UB2:=zh y3;clear x2 x3 y2 y3;clear a0 a1 a2 a3 a4;clear hb)))
  | (go_at_call 39;go_must (first
    | (clear MK3;refine (H3.out AB2 DB2 cB2 dB2 _ EB2.out XB2.out UB2.out YB2.out).mono ?_;rintro e w' ⟨v,rfl,⟨AG,cG,DG,dG,rfl,x2,x3,y2,y3⟩,hb⟩;have HB:=keepB HB hb;have KgB:=zk KgB hb;have EB2:=zc EB2 hb;have UB2:=zc UB2 hb;have XG:=zh x2;have YG:=zh x3;have EG:=zh y2;have UG:=zh y3;clear x2 x3 y2 y3;clear a0 a1 a2 a3 a4;clear hb)
    | (clear MK5;refine (H5.out AB3 DB3 cB3 dB3 _ EB3.out XB3.out UB3.out YB3.out).mono ?_;rintro e w' ⟨v,rfl,⟨AC,cC,DC,dC,rfl,x2,x3,y2,y3⟩,hb⟩;have HB:=keepB HB hb;have KgB:=zk KgB hb;have KgG:=zk KgG hb;have EB3:=zc EB3 hb;have UB3:=zc UB3 hb;have EG:=zc EG hb;have UG:=zc UG hb;have XC:=zh x2;have YC:=zh x3;have EC:=zh y2;have UC:=zh y3;clear x2 x3 y2 y3;clear a0 a1 a2 a3 a4;clear hb)))
  | (go_at_call 27;go_must (first
    | (clear MK4;refine (H4.out AB2 DB2 cB2 dB2 _ EB2.out XB2.out UB2.out YB2.out).mono ?_;rintro e w' ⟨v,rfl,⟨AB3,cB3,DB3,dB3,rfl,x2,x3,y2,y3⟩,hb⟩;have HB:=keepB HB hb;have KgB:=zk KgB hb;have KgG:=zk KgG hb;have EB2:=zc EB2 hb;have UB2:=zc UB2 hb;have EG:=zc EG hb;have UG:=zc UG hb;have XB3:=zh x2;have YB3:=zh x3;have EB3:=zh y2;have UB3:=zh y3;clear x2 x3 y2 y3;clear a0 a1 a2 a3 a4;clear hb)))
  | (go_at_call 18;go_must (first
    | (clear MK6;refine (H6.out AC DC cC dC _ EC.out XC.out UC.out YC.out).mono ?_;rintro e w' ⟨rfl,hb⟩;have HB:=keepB HB hb;have KgB:=zk KgB hb;have KgG:=zk KgG hb;have KgC:=zk KgC hb;have EB3:=zc EB3 hb;have UB3:=zc UB3 hb;have EG:=zc EG hb;have UG:=zc UG hb;have EC:=zc EC hb;have UC:=zc UC hb;clear a0 a1 a2 a3 a4;clear hb)
    | (clear MK8;refine (H8.out AD DD cD dD _ ED.out XD.out UD.out YD.out).mono ?_;rintro e w' ⟨rfl,hb⟩;have HB:=keepB HB hb;have KgB:=zk KgB hb;have KgG:=zk KgG hb;have KgD:=zk KgD hb;have EB3:=zc EB3 hb;have UB3:=zc UB3 hb;have EG:=zc EG hb;have UG:=zc UG hb;have ED:=zc ED hb;have UD:=zc UD hb;clear a0 a1 a2 a3 a4;clear hb)
    | (clear MK12;refine (H12.out AU3 DU3 cU3 dU3 _ EU3.out XU3.out UU3.out YU3.out).mono ?_;rintro e w' ⟨rfl,hb⟩;have HB:=keepB HB hb;have KgG:=zk KgG hb;have KgV:=zk KgV hb;have KgU:=zk KgU hb;have EG:=zc EG hb;have UG:=zc UG hb;have EU3:=zc EU3 hb;have UU3:=zc UU3 hb;clear a0 a1 a2 a3 a4;clear hb)))
  | (go_at_call 40;go_must (first
    | (clear MK7;refine (H7.out AC DC cC dC _ EC.out XC.out UC.out YC.out).mono ?_;rintro e w' ⟨v,rfl,⟨AD,cD,DD,dD,rfl,x2,x3,y2,y3⟩,hb⟩;have HB:=keepB HB hb;have KgB:=zk KgB hb;have KgG:=zk KgG hb;have KgC:=zk KgC hb;have EB3:=zc EB3 hb;have UB3:=zc UB3 hb;have EG:=zc EG hb;have UG:=zc UG hb;have EC:=zc EC hb;have UC:=zc UC hb;have XD:=zh x2;have YD:=zh x3;have ED:=zh y2;have UD:=zh y3;clear x2 x3 y2 y3;clear a0 a1 a2 a3 a4;clear hb)))
  | (go_at_call 12;go_must (first
    | (clear MK9;refine (H9.out AB3 DB3 cB3 dB3 _ EB3.out XB3.out UB3.out YB3.out).mono ?_;rintro e w' ⟨v,rfl,⟨AU1,cU1,DU1,dU1,rfl,x2,x3,y2,y3⟩,hb⟩;have HB:=keepB HB hb;have KgB:=zk KgB hb;have KgG:=zk KgG hb;have KgV:=zk KgV hb;have EB3:=zc EB3 hb;have UB3:=zc UB3 hb;have EG:=zc EG hb;have UG:=zc UG hb;have XU1:=zh x2;have YU1:=zh x3;have EU1:=zh y2;have UU1:=zh y3;clear x2 x3 y2 y3;clear a0 a1 a2 a3 a4;clear hb)))
  | (go_at_call 15;go_must (first
    | (clear MK10;refine (H10.out AU1 DU1 cU1 dU1 _ EU1.out XU1.out UU1.out YU1.out).mono ?_;rintro e w' ⟨v,rfl,⟨AU2,cU2,DU2,dU2,rfl,x2,x3,y2,y3⟩,hb⟩;have HB:=keepB HB hb;have KgG:=zk KgG hb;have KgV:=zk KgV hb;have KgU:=zk KgU hb;have EG:=zc EG hb;have UG:=zc UG hb;have EU1:=zc EU1 hb;have UU1:=zc UU1 hb;have XU2:=zh x2;have YU2:=zh x3;have EU2:=zh y2;have UU2:=zh y3;clear x2 x3 y2 y3;clear a0 a1 a2 a3 a4;clear hb)))
  | (go_at_call 17;go_must (first
    | (clear MK11;refine (H11.out AU2 DU2 cU2 dU2 _ EU2.out XU2.out UU2.out YU2.out gl Kl.out).mono ?_;rintro e w' ⟨v,rfl,⟨AU3,cU3,DU3,dU3,rfl,x2,x3,y2,y3⟩,hb⟩;have HB:=keepB HB hb;have KgG:=zk KgG hb;have KgV:=zk KgV hb;have KgU:=zk KgU hb;have EG:=zc EG hb;have UG:=zc UG hb;have EU2:=zc EU2 hb;have UU2:=zc UU2 hb;have XU3:=zh x2;have YU3:=zh x3;have EU3:=zh y2;have UU3:=zh y3;clear x2 x3 y2 y3;clear a0 a1 a2 a3 a4;clear hb)))
  | (go_at_call 41;go_must (refine (HE.out AG DG cG dG _ EG.out XG.out UG.out YG.out).mono ?_;rintro e w' ⟨rfl,hb⟩;have HB:=keepB HB hb;have KgV:=zk KgV hb;have KgW:=zk KgW hb;obtain ⟨b0,b1,b2,b3⟩:=zz4 KgV.out;obtain ⟨d0,d1,d2,d3⟩:=zz4 KgW.out;clear hb))
  | ((with_reducible refine gate_store (t:=26) (p:=1) (v:=.tmp 32) rfl ?_);go_must (refine zs 26 (.tmp 1) (.tmp 32) gB 0 26 [.string ⟨#[98,111,120]⟩,.int .i64 0,.slice none 0 0,.slice none 0 0,.int .u64 0] KgB isz_bucket ?_;intro ws0 hk ho;clear HD WD;have KgB : Hid (ws0.heap[gB]? = some (.cells #[.string ⟨#[98,111,120]⟩,.int .i64 0,.slice none 0 0,.slice none 0 0,.int .u64 0] 26 (0,0))):=hk;have HB:=zo ho HB LgB;obtain ⟨a0,a1,a2,a3,a4⟩:=zz5 KgB.out;have MK1:=zh True.intro;clear hk ho))
  | ((with_reducible refine gate_store (t:=26) (p:=1) (v:=.tmp 37) rfl ?_);go_must (refine zs 26 (.tmp 1) (.tmp 37) gB 0 26 [.string B1.f0,.int .i64 B1.f1,.slice AB1 B1.f2.length cB1,.slice DB1 B1.f3.length dB1,.int .u64 B1.f4] KgB isz_bucket ?_;intro ws1 hk ho;have EB1:=zh (keepE EB1.out KgB.out (bk_like _ _ _ _ _ _ _ _ _) ho.out);have UB1:=zh (keepU UB1.out KgB.out (bk_like _ _ _ _ _ _ _ _ _) ho.out);have KgB : Hid (ws1.heap[gB]? = some (.cells #[.string B1.f0,.int .i64 B1.f1,.slice AB1 B1.f2.length cB1,.slice DB1 B1.f3.length dB1,.int .u64 B1.f4] 26 (0,0))):=hk;have HB:=zo ho HB LgB;obtain ⟨a0,a1,a2,a3,a4⟩:=zz5 KgB.out;have MK2:=zh True.intro;clear hk ho))
  | ((with_reducible refine gate_store (t:=26) (p:=1) (v:=.tmp 43) rfl ?_);go_must (refine zs 26 (.tmp 1) (.tmp 43) gB 0 26 [.string B2.f0,.int .i64 B2.f1,.slice AB2 B2.f2.length cB2,.slice DB2 B2.f3.length dB2,.int .u64 B2.f4] KgB isz_bucket ?_;intro ws2 hk ho;have EB2:=zh (keepE EB2.out KgB.out (bk_like _ _ _ _ _ _ _ _ _) ho.out);have UB2:=zh (keepU UB2.out KgB.out (bk_like _ _ _ _ _ _ _ _ _) ho.out);have KgB : Hid (ws2.heap[gB]? = some (.cells #[.string B2.f0,.int .i64 B2.f1,.slice AB2 B2.f2.length cB2,.slice DB2 B2.f3.length dB2,.int .u64 B2.f4] 26 (0,0))):=hk;have HB:=zo ho HB LgB;obtain ⟨a0,a1,a2,a3,a4⟩:=zz5 KgB.out;have MK3:=zh True.intro;clear hk ho))
  | ((with_reducible refine gate_store (t:=26) (p:=7) (v:=.tmp 49) rfl ?_);go_must (refine zs 26 (.tmp 7) (.tmp 49) gG 0 26 [.string G.f0,.int .i64 G.f1,.slice AG G.f2.length cG,.slice DG G.f3.length dG,.int .u64 G.f4] KgG isz_bucket ?_;intro ws3 hk ho;have EB2:=zc EB2 (ho.out.below HD.out HD.out.size WD.out);have UB2:=zc UB2 (ho.out.below HD.out HD.out.size WD.out);have EG:=zc EG (ho.out.below HD.out HD.out.size WD.out);have UG:=zc UG (ho.out.below HD.out HD.out.size WD.out);clear HD WD;have KgG : Hid (ws3.heap[gG]? = some (.cells #[.string G.f0,.int .i64 G.f1,.slice AG G.f2.length cG,.slice DG G.f3.length dG,.int .u64 G.f4] 26 (0,0))):=hk;have HB:=zo ho HB LgG;have KgB:=zl ho KgB (by have:=NgBgG.out;omega);obtain ⟨a0,a1,a2,a3,a4⟩:=zz5 KgB.out;have MK4:=zh True.intro;clear hk ho))
  | ((with_reducible refine gate_store (t:=26) (p:=1) (v:=.tmp 55) rfl ?_);go_must (refine zs 26 (.tmp 1) (.tmp 55) gB 0 26 [.string B3.f0,.int .i64 B3.f1,.slice AB3 B3.f2.length cB3,.slice DB3 B3.f3.length dB3,.int .u64 B3.f4] KgB isz_bucket ?_;intro ws4 hk ho;have EB3:=zh (keepE EB3.out KgB.out (bk_like _ _ _ _ _ _ _ _ _) ho.out);have UB3:=zh (keepU UB3.out KgB.out (bk_like _ _ _ _ _ _ _ _ _) ho.out);have EG:=zh (keepE EG.out KgB.out (bk_like _ _ _ _ _ _ _ _ _) ho.out);have UG:=zh (keepU UG.out KgB.out (bk_like _ _ _ _ _ _ _ _ _) ho.out);have KgB : Hid (ws4.heap[gB]? = some (.cells #[.string B3.f0,.int .i64 B3.f1,.slice AB3 B3.f2.length cB3,.slice DB3 B3.f3.length dB3,.int .u64 B3.f4] 26 (0,0))):=hk;have HB:=zo ho HB LgB;have KgG:=zl ho KgG (by have:=NgBgG.out;omega);obtain ⟨a0,a1,a2,a3,a4⟩:=zz5 KgB.out;have MK5:=zh True.intro;clear hk ho))
  | ((with_reducible refine gate_store (t:=26) (p:=11) (v:=.tmp 60) rfl ?_);go_must (refine zs 26 (.tmp 11) (.tmp 60) gC 0 26 [.string C.f0,.int .i64 C.f1,.slice AC C.f2.length cC,.slice DC C.f3.length dC,.int .u64 C.f4] KgC isz_bucket ?_;intro ws5 hk ho;have EB3:=zc EB3 (ho.out.below HD.out HD.out.size WD.out);have UB3:=zc UB3 (ho.out.below HD.out HD.out.size WD.out);have EG:=zc EG (ho.out.below HD.out HD.out.size WD.out);have UG:=zc UG (ho.out.below HD.out HD.out.size WD.out);have EC:=zc EC (ho.out.below HD.out HD.out.size WD.out);have UC:=zc UC (ho.out.below HD.out HD.out.size WD.out);clear HD WD;have KgC : Hid (ws5.heap[gC]? = some (.cells #[.string C.f0,.int .i64 C.f1,.slice AC C.f2.length cC,.slice DC C.f3.length dC,.int .u64 C.f4] 26 (0,0))):=hk;have HB:=zo ho HB LgC;have KgB:=zl ho KgB (by have:=NgBgC.out;omega);have KgG:=zl ho KgG (by have:=NgGgC.out;omega);obtain ⟨a0,a1,a2,a3,a4⟩:=zz5 KgC.out;have MK6:=zh True.intro;clear hk ho))
  | ((with_reducible refine gate_store (t:=47) (p:=14) (v:=.tmp 66) rfl ?_);go_must (refine zs 47 (.tmp 14) (.tmp 66) gv 0 47 [.int .u64 i6,.string s6,.bool m6,.int .i64 q6] Kgv (by kernel_rfl) ?_;intro ws6 hk ho;have EB3:=zc EB3 (ho.out.below HD.out HD.out.size WD.out);have UB3:=zc UB3 (ho.out.below HD.out HD.out.size WD.out);have EG:=zc EG (ho.out.below HD.out HD.out.size WD.out);have UG:=zc UG (ho.out.below HD.out HD.out.size WD.out);have EC:=zc EC (ho.out.below HD.out HD.out.size WD.out);have UC:=zc UC (ho.out.below HD.out HD.out.size WD.out);clear HD WD;have Kgv : Hid (ws6.heap[gv]? = some (.cells #[.int .u64 i6,.string s6,.bool m6,.int .i64 q6] 47 (0,0))):=hk;have HB:=zo ho HB Lgv;have KgB:=zl ho KgB (by have:=NgBgv.out;omega);have KgG:=zl ho KgG (by have:=NgGgv.out;omega);have KgC:=zl ho KgC (by have:=NgCgv.out;omega);obtain ⟨a0,a1,a2,a3,a4⟩:=zz5 KgC.out;have MK7:=zh True.intro;clear hk ho))
  | ((with_reducible refine gate_store (t:=26) (p:=16) (v:=.tmp 72) rfl ?_);go_must (refine zs 26 (.tmp 16) (.tmp 72) gD 0 26 [.string D.f0,.int .i64 D.f1,.slice AD D.f2.length cD,.slice DD D.f3.length dD,.int .u64 D.f4] KgD isz_bucket ?_;intro ws7 hk ho;have EB3:=zc EB3 (ho.out.below HD.out HD.out.size WD.out);have UB3:=zc UB3 (ho.out.below HD.out HD.out.size WD.out);have EG:=zc EG (ho.out.below HD.out HD.out.size WD.out);have UG:=zc UG (ho.out.below HD.out HD.out.size WD.out);have ED:=zc ED (ho.out.below HD.out HD.out.size WD.out);have UD:=zc UD (ho.out.below HD.out HD.out.size WD.out);clear HD WD;have KgD : Hid (ws7.heap[gD]? = some (.cells #[.string D.f0,.int .i64 D.f1,.slice AD D.f2.length cD,.slice DD D.f3.length dD,.int .u64 D.f4] 26 (0,0))):=hk;have HB:=zo ho HB LgD;have KgB:=zl ho KgB (by have:=NgBgD.out;omega);have KgG:=zl ho KgG (by have:=NgGgD.out;omega);obtain ⟨a0,a1,a2,a3,a4⟩:=zz5 KgD.out;have MK8:=zh True.intro;clear hk ho))
  | ((with_reducible refine gate_store (t:=47) (p:=18) (v:=.tmp 77) rfl ?_);go_must (refine zs 47 (.tmp 18) (.tmp 77) gV 0 47 [.int .u64 i8,.string ⟨#[121]⟩,.bool m8,.int .i64 q8] KgV (by kernel_rfl) ?_;intro ws8 hk ho;have EB3:=zc EB3 (ho.out.below HD.out HD.out.size WD.out);have UB3:=zc UB3 (ho.out.below HD.out HD.out.size WD.out);have EG:=zc EG (ho.out.below HD.out HD.out.size WD.out);have UG:=zc UG (ho.out.below HD.out HD.out.size WD.out);clear HD WD;have KgV : Hid (ws8.heap[gV]? = some (.cells #[.int .u64 i8,.string ⟨#[121]⟩,.bool m8,.int .i64 q8] 47 (0,0))):=hk;have HB:=zo ho HB LgV;have KgB:=zl ho KgB (by have:=NgBgV.out;omega);have KgG:=zl ho KgG (by have:=NgGgV.out;omega);obtain ⟨a0,a1,a2,a3,a4⟩:=zz5 KgB.out;have MK9:=zh True.intro;clear hk ho))
  | ((with_reducible refine gate_store (t:=26) (p:=20) (v:=.tmp 82) rfl ?_);go_must (refine zs 26 (.tmp 20) (.tmp 82) gU 0 26 [.string U1.f0,.int .i64 U1.f1,.slice AU1 U1.f2.length cU1,.slice DU1 U1.f3.length dU1,.int .u64 U1.f4] KgU isz_bucket ?_;intro ws9 hk ho;have EG:=zc EG (ho.out.below HD.out HD.out.size WD.out);have UG:=zc UG (ho.out.below HD.out HD.out.size WD.out);have EU1:=zc EU1 (ho.out.below HD.out HD.out.size WD.out);have UU1:=zc UU1 (ho.out.below HD.out HD.out.size WD.out);clear HD WD;have KgU : Hid (ws9.heap[gU]? = some (.cells #[.string U1.f0,.int .i64 U1.f1,.slice AU1 U1.f2.length cU1,.slice DU1 U1.f3.length dU1,.int .u64 U1.f4] 26 (0,0))):=hk;have HB:=zo ho HB LgU;have KgG:=zl ho KgG (by have:=NgGgU.out;omega);have KgV:=zl ho KgV (by have:=NgVgU.out;omega);obtain ⟨a0,a1,a2,a3,a4⟩:=zz5 KgU.out;have MK10:=zh True.intro;clear hk ho))
  | ((with_reducible refine gate_store (t:=26) (p:=20) (v:=.tmp 90) rfl ?_);go_must (refine zs 26 (.tmp 20) (.tmp 90) gU 0 26 [.string U2.f0,.int .i64 U2.f1,.slice AU2 U2.f2.length cU2,.slice DU2 U2.f3.length dU2,.int .u64 U2.f4] KgU isz_bucket ?_;intro ws10 hk ho;have EG:=zh (keepE EG.out KgU.out (bk_like _ _ _ _ _ _ _ _ _) ho.out);have UG:=zh (keepU UG.out KgU.out (bk_like _ _ _ _ _ _ _ _ _) ho.out);have EU2:=zh (keepE EU2.out KgU.out (bk_like _ _ _ _ _ _ _ _ _) ho.out);have UU2:=zh (keepU UU2.out KgU.out (bk_like _ _ _ _ _ _ _ _ _) ho.out);have KgU : Hid (ws10.heap[gU]? = some (.cells #[.string U2.f0,.int .i64 U2.f1,.slice AU2 U2.f2.length cU2,.slice DU2 U2.f3.length dU2,.int .u64 U2.f4] 26 (0,0))):=hk;have HB:=zo ho HB LgU;have KgG:=zl ho KgG (by have:=NgGgU.out;omega);have KgV:=zl ho KgV (by have:=NgVgU.out;omega);obtain ⟨a0,a1,a2,a3,a4⟩:=zz5 KgU.out;have MK11:=zh True.intro;clear hk ho))
  | ((with_reducible refine gate_store (t:=26) (p:=20) (v:=.tmp 100) rfl ?_);go_must (refine zs 26 (.tmp 20) (.tmp 100) gU 0 26 [.string U3.f0,.int .i64 U3.f1,.slice AU3 U3.f2.length cU3,.slice DU3 U3.f3.length dU3,.int .u64 U3.f4] KgU isz_bucket ?_;intro ws11 hk ho;have EG:=zh (keepE EG.out KgU.out (bk_like _ _ _ _ _ _ _ _ _) ho.out);have UG:=zh (keepU UG.out KgU.out (bk_like _ _ _ _ _ _ _ _ _) ho.out);have EU3:=zh (keepE EU3.out KgU.out (bk_like _ _ _ _ _ _ _ _ _) ho.out);have UU3:=zh (keepU UU3.out KgU.out (bk_like _ _ _ _ _ _ _ _ _) ho.out);have KgU : Hid (ws11.heap[gU]? = some (.cells #[.string U3.f0,.int .i64 U3.f1,.slice AU3 U3.f2.length cU3,.slice DU3 U3.f3.length dU3,.int .u64 U3.f4] 26 (0,0))):=hk;have HB:=zo ho HB LgU;have KgG:=zl ho KgG (by have:=NgGgU.out;omega);have KgV:=zl ho KgV (by have:=NgVgU.out;omega);obtain ⟨a0,a1,a2,a3,a4⟩:=zz5 KgU.out;have MK12:=zh True.intro;clear hk ho))
  | ((with_reducible refine gate_store (t:=47) (p:=28) (v:=.tmp 107) rfl ?_);go_must (refine zs 47 (.tmp 28) (.tmp 107) gW 0 47 [.int .u64 i13,.string ⟨#[119,104,111,108,101]⟩,.bool m13,.int .i64 q13] KgW (by kernel_rfl) ?_;intro ws12 hk ho;have EG:=zc EG (ho.out.below HD.out HD.out.size WD.out);have UG:=zc UG (ho.out.below HD.out HD.out.size WD.out);clear HD WD;have KgW : Hid (ws12.heap[gW]? = some (.cells #[.int .u64 i13,.string ⟨#[119,104,111,108,101]⟩,.bool m13,.int .i64 q13] 47 (0,0))):=hk;have HB:=zo ho HB LgW;have KgG:=zl ho KgG (by have:=NgGgW.out;omega);have KgV:=zl ho KgV (by have:=NgVgW.out;omega);have MK13:=zh True.intro;obtain ⟨a0,a1,a2,a3,a4⟩:=zz5 KgG.out;obtain ⟨b0,b1,b2,b3⟩:=zz4 KgV.out;obtain ⟨d0,d1,d2,d3⟩:=zz4 KgW.out;clear hk ho)))
 refine bodyPost_ret (v:=.bool true) (by simp [results,Tryz.results14,go_sem]) rfl ?_
 exact ⟨rfl,HB.out⟩
end
section
open Go.WideMaps Go.Maps
def aB1 : S26:=(laidR (⟨⟨#[98,111,120]⟩,0,[],[],0⟩ : S26) ⟨#[97]⟩ (fun l id=>putV l (⟨⟨#[98,111,120]⟩,0,[],[],0⟩ : S26).f1 ⟨id,⟨#[120]⟩,false,0⟩)).1
def aB2 : S26:=(laidR aB1 ⟨#[97]⟩ (fun l id=>putV l aB1.f1 ⟨id,⟨#[121]⟩,false,0⟩)).1
def aG : S26:=(laidR aB2 ⟨#[97]⟩ (fun l id=>deleteV l aB2.f1 id 0)).1
def aB3 : S26:=(turnB aB2 1).1
def aC : S26:=(laidR aB3 ⟨#[97]⟩ (fun l id=>deleteV l aB3.f1 id 1)).1
def aD : S26:=(dropB aC ⟨#[97]⟩ 1).1
def aU1 : S26:=(beginB aB3 ⟨#[107]⟩).1
def aU2 : S26:=(layB aU1 (beginB aB3 ⟨#[107]⟩).2.1 ⟨1,⟨#[119,104,111,108,101]⟩⟩).1
def aU3 : S26:=(wholeB aU2 (beginB aB3 ⟨#[107]⟩).2.1 [⟨1,(layB aU1 (beginB aB3 ⟨#[107]⟩).2.1 ⟨1,⟨#[119,104,111,108,101]⟩⟩).2.1⟩] 2).1
theorem awake.walk (w : World) : Calls Tryz.prog 14 #[] w fun e w'=>e = .returned (.bool true) ∧ Below w.heap.size w w' :=
 awake_gen aB1 aB2 aG aB3 aC aD aU1 aU2 aU3 (getB aC ⟨#[97]⟩).1.f0 (getB aC ⟨#[97]⟩).1.f3 (getB aD ⟨#[97]⟩).1.f0 (getB aD ⟨#[97]⟩).1.f3 (getB aU3 ⟨#[107]⟩).1.f0 (getB aU3 ⟨#[107]⟩).1.f3 (getB aC ⟨#[97]⟩).1.f1 (wholeB aU2 (beginB aB3 ⟨#[107]⟩).2.1 [⟨1,(layB aU1 (beginB aB3 ⟨#[107]⟩).2.1 ⟨1,⟨#[119,104,111,108,101]⟩⟩).2.1⟩] 2).2.2.1 (getB aC ⟨#[97]⟩).1.f2 (getB aD ⟨#[97]⟩).1.f2 (getB aU3 ⟨#[107]⟩).1.f2 ((layB aU1 (beginB aB3 ⟨#[107]⟩).2.1 ⟨1,⟨#[119,104,111,108,101]⟩⟩).2.1) ((beginB aB3 ⟨#[107]⟩).2.1) (wholeB aU2 (beginB aB3 ⟨#[107]⟩).2.1 [⟨1,(layB aU1 (beginB aB3 ⟨#[107]⟩).2.1 ⟨1,⟨#[119,104,111,108,101]⟩⟩).2.1⟩] 2).2.1
  (by kernel_rfl) (by kernel_rfl) (by kernel_rfl) (by kernel_rfl) (by kernel_rfl) (by kernel_rfl) (by kernel_rfl) (by kernel_rfl) (by kernel_rfl) (by kernel_rfl) (by kernel_rfl) (by kernel_rfl) ⟨by kernel_rfl,by kernel_rfl⟩ w
end
section
open Go.WideMaps Go.Maps
attribute [local go_sem] Oper.semAt_some
end
section
open Go.WideMaps Go.Maps
section
variable {w w1 : World} {g : Nat} {cs : Array Value} {t : TypeId} {fr : Nat × Nat} {A : Option Addr} {n : Nat}
end
end
section
open Go.WideMaps Go.Maps
attribute [local go_sem] Oper.semAt_some
end
section
open Go.WideMaps Go.Maps
attribute [local go_sem] Oper.semAt_some
end
section
open Go.WideMaps Go.Maps
attribute [local go_sem] Oper.semAt_some
end
section
open Go.WideMaps Go.Maps
attribute [local go_sem] Oper.semAt_some
structure Did where
 b : S26
 id : Int
 tg : ByteArray
 er : Int
structure Act where
 kd : Int
 key : ByteArray
 data : ByteArray
 id : Int
 n : Int
 q : Int
 ps : List S43
def d3 (r : S26 × Int × Int) : Did:=⟨r.1,r.2.1,⟨#[]⟩,r.2.2⟩
def d2 (r : S26 × Int) : Did:=⟨r.1,0,⟨#[]⟩,r.2⟩
def doR (b : S26) (a : Act) : Did :=
 if Int.tmod a.kd 9 = 0 then d3 (laidR b a.key (fun l id=>putV l b.f1 ⟨id,a.data,false,a.q⟩))
 else if Int.tmod a.kd 9 = 1 then d3 (laidR b a.key (fun l id=>putV l b.f1 ⟨id,a.data,false,a.q⟩))
 else if Int.tmod a.kd 9 = 2 then d3 (laidR b a.key (fun l id=>deleteV l b.f1 id a.q))
 else if Int.tmod a.kd 9 = 3 then d2 (dropB b a.key a.id)
 else if Int.tmod a.kd 9 = 4 then d2 (turnB b a.n)
 else if Int.tmod a.kd 9 = 5 then d3 (beginB b a.key)
 else if Int.tmod a.kd 9 = 6 then ⟨(layB b a.id ⟨a.n,a.data⟩).1,IntKind.u64.wrap (layB b a.id ⟨a.n,a.data⟩).2.1,⟨#[]⟩,(layB b a.id ⟨a.n,a.data⟩).2.2⟩
 else if Int.tmod a.kd 9 = 7 then d2 (abortB b a.id)
 else ⟨(wholeB b a.id a.ps a.q).1,(wholeB b a.id a.ps a.q).2.1,(wholeB b a.id a.ps a.q).2.2.1,(wholeB b a.id a.ps a.q).2.2.2⟩
end
section
open Go.WideMaps Go.Maps
theorem putV_ok {l : List S47} {st : Int} {x : S47} (h : (putV l st x).2 = 0) :
  chainB l = true ∧ 0 ≤ st ∧ st ≤ 2 ∧ mayV x = true ∧ (0 < l.length → (l.headD z47).f3 ≤ x.f3) ∧ (st = 1 → x.f0 ≠ 0) ∧ (putV l st x).1 = (if st = 1 then x :: l else ⟨0,x.f1,x.f2,x.f3⟩ :: delV 0 l) ∧ (putV l st x).1.length ≤ 20:=by
 unfold putV at h ⊢
 by_cases h1 : chainB l = false ∨ ¬ (0 ≤ st ∧ st ≤ 2) ∨ mayV x = false ∨ (0 < l.length ∧ x.f3 < (l.headD z47).f3)
 ·rw [if_pos h1] at h;cases h
 ·rw [if_neg h1] at h ⊢
  by_cases h2 : (layV st l x).2 ≠ 0
  ·rw [if_pos h2] at h;exact absurd h h2
  ·rw [if_neg h2] at h ⊢
   by_cases h3 : 20 < (layV st l x).1.length
   ·rw [if_pos h3] at h;cases h
   ·rw [if_neg h3]
    have q1 : chainB l = true:=bool_no (fun c=>h1 (Or.inl c))
    have q2 : 0 ≤ st ∧ st ≤ 2:=Decidable.byContradiction (fun c=>h1 (Or.inr (Or.inl c)))
    have q3 : mayV x = true:=bool_no (fun c=>h1 (Or.inr (Or.inr (Or.inl c))))
    refine ⟨q1,q2.1,q2.2,q3,fun hl=>?_,fun hs=>?_,?_,Nat.le_of_not_lt h3⟩
    ·exact Int.not_lt.1 (fun c=>h1 (Or.inr (Or.inr (Or.inr ⟨hl,c⟩))))
    ·intro c
     apply h2
     unfold layV
     rw [if_pos hs,if_pos (by rw [c];rfl)]
     exact (by decide : (1 : Int) ≠ 0)
    ·unfold layV at h2 ⊢
     by_cases hs : st = 1
     ·rw [if_pos hs] at h2
      rw [if_pos hs,if_pos hs]
      by_cases h0 : (x.f0 == 0) = true
      ·rw [if_pos h0] at h2;exact absurd (by decide) h2
      ·rw [if_neg h0] at h2
       rw [if_neg h0]
       by_cases h9 : l.any (geB x.f0) = true
       ·rw [if_pos h9] at h2;exact absurd (by decide) h2
       ·rw [if_neg h9]
     ·rw [if_neg hs,if_neg hs]
theorem dropV_ok {l : List S47} {id : Int} (h : (dropV l id).2 = 0) : chainB l = true ∧ hasId l id = true ∧ (dropV l id).1 = delV id l:=by
 unfold dropV at h ⊢
 by_cases h1 : chainB l = false
 ·rw [if_pos h1] at h;cases h
 ·rw [if_neg h1] at h ⊢
  by_cases h2 : hasId l id = false
  ·rw [if_pos h2] at h;cases h
  ·rw [if_neg h2];exact ⟨bool_no h1,bool_no h2,rfl⟩
theorem delV_mem {id : Int} {l : List S47} {v : S47} (h : v ∈ delV id l) : v ∈ l:=(List.mem_filter.1 h).1
/-- what an act of the first four kinds makes of its key's versions -/
def actC (st : Int) (a : Act) (l : List S47) (id : Int) : List S47 × Int :=
 if Int.tmod a.kd 9 = 2 then deleteV l st id a.q else if Int.tmod a.kd 9 = 3 then dropV l a.id else putV l st ⟨id,a.data,false,a.q⟩
theorem actC_mem {st : Int} {a : Act} {l : List S47} {id : Int} (h : (actC st a l id).2 = 0) : ∀ v ∈ (actC st a l id).1,v ∈ l ∨ v.f0 = 0 ∨ (st = 1 ∧ Int.tmod a.kd 9 ≠ 3 ∧ v.f0 = id):=by
 have hput : ∀ x : S47,(st = 1 → x.f0 = id) → (putV l st x).2 = 0 → ∀ v ∈ (putV l st x).1,v ∈ l ∨ v.f0 = 0 ∨ (st = 1 ∧ v.f0 = id):=by
  intro x hx hp v hv
  obtain ⟨_,_,_,_,_,_,e,_⟩:=putV_ok hp
  rw [e] at hv
  by_cases hs : st = 1
  ·rw [if_pos hs] at hv
   rcases List.mem_cons.1 hv with rfl | hv
   ·exact Or.inr (Or.inr ⟨hs,hx hs⟩)
   ·exact Or.inl hv
  ·rw [if_neg hs] at hv
   rcases List.mem_cons.1 hv with rfl | hv
   ·exact Or.inr (Or.inl rfl)
   ·exact Or.inl (delV_mem hv)
 intro v hv
 unfold actC at h hv
 by_cases h2 : Int.tmod a.kd 9 = 2
 ·rw [if_pos h2] at h hv
  unfold deleteV at h hv
  by_cases hs : st = 0
  ·rw [if_pos hs] at h hv
   rw [(dropV_ok h).2.2] at hv
   exact Or.inl (delV_mem hv)
  ·rw [if_neg hs] at h hv
   rcases hput _ (fun e=>if_neg (by omega)) h v hv with x | x | x
   ·exact Or.inl x
   ·exact Or.inr (Or.inl x)
   ·exact Or.inr (Or.inr ⟨x.1,by omega,x.2⟩)
 ·rw [if_neg h2] at h hv
  by_cases h3 : Int.tmod a.kd 9 = 3
  ·rw [if_pos h3] at h hv
   rw [(dropV_ok h).2.2] at hv
   exact Or.inl (delV_mem hv)
  ·rw [if_neg h3] at h hv
   rcases hput _ (fun _=>rfl) h v hv with x | x | x
   ·exact Or.inl x
   ·exact Or.inr (Or.inl x)
   ·exact Or.inr (Or.inr ⟨x.1,h3,x.2⟩)
/-- the bucket that an act of the first four kinds makes, where it goes -/
def actB (b : S26) (a : Act) : S26:=⟨b.f0,b.f1,putL b.f2 a.key (actC b.f1 a (getE b.f2 a.key) (idR b)).1,b.f3,if Int.tmod a.kd 9 = 3 then b.f4 else lastR b⟩
theorem do4_ok {b : S26} {a : Act} (h0 : 0 ≤ Int.tmod a.kd 9) (h4 : Int.tmod a.kd 9 < 4) (h : (doR b a).er = 0) :
  bucketB b = true ∧ keyB a.key = true ∧ (actC b.f1 a (getE b.f2 a.key) (idR b)).2 = 0 ∧ chainB (actC b.f1 a (getE b.f2 a.key) (idR b)).1 = true ∧
  (putL b.f2 a.key (actC b.f1 a (getE b.f2 a.key) (idR b)).1).length ≤ 60 ∧ octB (putL b.f2 a.key (actC b.f1 a (getE b.f2 a.key) (idR b)).1) b.f3 ≤ 20000 ∧
  (Int.tmod a.kd 9 < 3 → b.f1 = 1 → b.f4 < 281474976710655) ∧ doR b a = ⟨actB b a,if Int.tmod a.kd 9 = 3 then 0 else idR b,⟨#[]⟩,0⟩:=by
 by_cases k3 : Int.tmod a.kd 9 = 3
 ·have e : doR b a = d2 (dropB b a.key a.id):=by
   unfold doR
   rw [if_neg (by omega),if_neg (by omega),if_neg (by omega),if_pos k3]
  rw [e] at h ⊢
  have ea : actC b.f1 a (getE b.f2 a.key) (idR b) = dropV (getE b.f2 a.key) a.id:=by
   unfold actC
   rw [if_neg (by omega),if_pos k3]
  unfold actB
  rw [ea,if_pos k3,if_pos k3]
  obtain ⟨q1,q2,q3,q4,q5,q6,q7⟩:=dropB_ok h
  exact ⟨q1,q2,q3,q4,q5,q6,fun x=>by omega,by rw [q7];rfl⟩
 ·have e : doR b a = d3 (laidR b a.key (actC b.f1 a)):=by
   have ea : (actC b.f1 a) = if Int.tmod a.kd 9 = 2 then (fun l id=>deleteV l b.f1 id a.q) else (fun l id=>putV l b.f1 ⟨id,a.data,false,a.q⟩):=by
    funext l id
    unfold actC
    by_cases k2 : Int.tmod a.kd 9 = 2
    ·rw [if_pos k2,if_pos k2]
    ·rw [if_neg k2,if_neg k3,if_neg k2]
   rw [ea]
   unfold doR
   by_cases k0 : Int.tmod a.kd 9 = 0
   ·rw [if_pos k0,if_neg (by omega)]
   ·rw [if_neg k0]
    by_cases k1 : Int.tmod a.kd 9 = 1
    ·rw [if_pos k1,if_neg (by omega)]
    ·rw [if_neg k1,if_pos (by omega),if_pos (by omega)]
  rw [e] at h ⊢
  unfold actB
  rw [if_neg k3,if_neg k3]
  obtain ⟨q1,q2,q3,q4,q5,q6,q7,q8⟩:=laid_ok (f:=actC b.f1 a) h
  exact ⟨q1,q2,q3,q4,q5,q6,fun _=>q7,by rw [q8];rfl⟩
theorem do4_no {b : S26} {a : Act} (h0 : 0 ≤ Int.tmod a.kd 9) (h4 : Int.tmod a.kd 9 < 4) (h : (doR b a).er ≠ 0) : (doR b a).b = b ∧ (doR b a).id = 0:=by
 unfold doR at h ⊢
 by_cases k0 : Int.tmod a.kd 9 = 0
 ·rw [if_pos k0] at h ⊢;exact laid_no h
 rw [if_neg k0] at h ⊢
 by_cases k1 : Int.tmod a.kd 9 = 1
 ·rw [if_pos k1] at h ⊢;exact laid_no h
 rw [if_neg k1] at h ⊢
 by_cases k2 : Int.tmod a.kd 9 = 2
 ·rw [if_pos k2] at h ⊢;exact laid_no h
 rw [if_neg k2,if_pos (by omega)] at h ⊢
 exact ⟨dropB_no h,rfl⟩
theorem chain_get {l : List S56} (h : indexB l = true) (key : ByteArray) : chainB (getE l key) = true:=by
 rcases getE_or key l with ⟨x,hx,_,e⟩ | ⟨_,e⟩
 ·rw [e];exact (index_mem h x hx).2.2
 ·rw [e];rfl
theorem bucket_ix {b : S26} (h : bucketB b = true) : SE b.f2 ∧ indexB b.f2 = true:=⟨((index_iff _).1 (bucket_at h).2.1).2.1,(bucket_at h).2.1⟩
theorem near_get {b : S26} (h : bucketB b = true) (key : ByteArray) : ∀ v ∈ getE b.f2 key,v.f0 ≤ b.f4 ∧ (b.f1 = 0 → v.f0 = 0):=by
 intro v hv
 rcases getE_or key b.f2 with ⟨x,hx,_,e⟩ | ⟨_,e⟩
 ·rw [e] at hv
  have h1:=List.all_eq_true.1 (bucket_at h).2.2.2.2.1 x hx
  unfold nearB at h1
  rw [Bool.not_eq_true',List.any_eq_false] at h1
  have h2:=h1 v hv
  unfold farB at h2
  simp only [Bool.or_eq_true,decide_eq_true_eq,Bool.and_eq_true,beq_iff_eq,Bool.not_eq_true',beq_eq_false_iff_ne,ne_eq,not_or,not_and,Decidable.not_not] at h2
  exact ⟨by omega,fun c=>h2.2 c⟩
 ·rw [e] at hv;cases hv
theorem put_bucket {b : S26} (hb : bucketB b = true) {key : ByteArray} {c : List S47} {L : Int} (hk : keyB key = true) (hc : chainB c = true) (hl : (putL b.f2 key c).length ≤ 60) (ho : octB (putL b.f2 key c) b.f3 ≤ 20000) (h1 : b.f4 ≤ L) (h2 : L ≤ 281474976710655) (hv : ∀ v ∈ c,v.f0 ≤ L ∧ (b.f1 = 0 → v.f0 = 0)) :
  bucketB (⟨b.f0,b.f1,putL b.f2 key c,b.f3,L⟩ : S26) = true:=by
 obtain ⟨q1,q2,q3,q4,q5,q6⟩:=bucket_at hb
 obtain ⟨i1,i2,i3⟩:=(index_iff _).1 q2
 unfold bucketB
 simp only [Bool.and_eq_true,decide_eq_true_eq,Bool.not_eq_true']
 refine ⟨?_,(index_iff _).2 ⟨hl,putL_SE key c i2,fun x hx=>?_⟩,q3,ho,List.all_eq_true.2 (fun x hx=>?_),?_⟩
 ·unfold headB at q1 ⊢
  simp only [Bool.and_eq_true,decide_eq_true_eq] at q1 ⊢
  exact ⟨q1.1,q1.2.1,q1.2.2.1,h2⟩
 ·rcases (putL_mem i2).1 hx with ⟨x1,_⟩ | ⟨x1,rfl⟩
  ·exact i3 x x1
  ·exact ⟨hk,x1,hc⟩
 ·unfold nearB
  rw [Bool.not_eq_true',List.any_eq_false]
  intro v hvx
  have hn : v.f0 ≤ L ∧ (b.f1 = 0 → v.f0 = 0):=by
   rcases (putL_mem i2).1 hx with ⟨x1,_⟩ | ⟨x1,rfl⟩
   ·have e:=getE_mem i2 x1
    rw [← e] at hvx
    have:=near_get hb _ v hvx
    exact ⟨by omega,this.2⟩
   ·exact hv v hvx
  unfold farB
  simp only [Bool.or_eq_true,decide_eq_true_eq,Bool.and_eq_true,beq_iff_eq,Bool.not_eq_true',beq_eq_false_iff_ne,ne_eq,not_or,not_and,Decidable.not_not]
  exact ⟨by omega,hn.2⟩
 ·rw [List.any_eq_false] at q6 ⊢
  intro u hu
  have:=q6 u hu
  unfold updB at this ⊢
  rw [decide_eq_true_eq] at this ⊢
  omega
theorem last_le {b : S26} (hb : bucketB b = true) (h4 : 0 ≤ b.f4) (hl : b.f1 = 1 → b.f4 < 281474976710655) : b.f4 ≤ lastR b ∧ lastR b ≤ 281474976710655 ∧ (b.f1 = 1 → lastR b = b.f4 + 1) ∧ (b.f1 ≠ 1 → lastR b = b.f4) ∧ (b.f1 = 1 → idR b = b.f4 + 1) ∧ (b.f1 ≠ 1 → idR b = 0):=by
 have hm : b.f4 ≤ 281474976710655:=by
  have:=(bucket_at hb).1
  unfold headB at this
  simp only [Bool.and_eq_true,decide_eq_true_eq] at this
  exact this.2.2.2
 unfold lastR idR
 by_cases h : b.f1 = 1
 ·rw [if_pos h,if_pos h,wrap_le h4 hm]
  have:=hl h
  exact ⟨by omega,by omega,fun _=>rfl,fun c=>absurd h c,fun _=>rfl,fun c=>absurd h c⟩
 ·rw [if_neg h,if_neg h]
  exact ⟨Int.le_refl _,hm,fun c=>absurd c h,fun _=>rfl,fun c=>absurd c h,fun _=>rfl⟩
theorem act_bucket {b : S26} {a : Act} (h4 : 0 ≤ b.f4) (k0 : 0 ≤ Int.tmod a.kd 9) (k4 : Int.tmod a.kd 9 < 4) (h : (doR b a).er = 0) : bucketB (actB b a) = true ∧ b.f4 ≤ (actB b a).f4:=by
 obtain ⟨q1,q2,q3,q4,q5,q6,q7,q8⟩:=do4_ok k0 k4 h
 have hm:=actC_mem q3
 unfold actB
 by_cases k3 : Int.tmod a.kd 9 = 3
 ·rw [if_pos k3]
  have hh:=(bucket_at q1).1
  unfold headB at hh
  simp only [Bool.and_eq_true,decide_eq_true_eq] at hh
  refine ⟨put_bucket q1 q2 q4 q5 q6 (Int.le_refl _) hh.2.2.2 (fun v hv=>?_),Int.le_refl _⟩
  rcases hm v hv with x | x | x
  ·exact near_get q1 _ v x
  ·exact ⟨by omega,fun _=>x⟩
  ·exact absurd k3 x.2.1
 ·rw [if_neg k3]
  obtain ⟨l1,l2,l3,l4,l5,l6⟩:=last_le q1 h4 (q7 (by omega))
  refine ⟨put_bucket q1 q2 q4 q5 q6 l1 l2 (fun v hv=>?_),l1⟩
  rcases hm v hv with x | x | x
  ·have:=near_get q1 _ v x
   exact ⟨by omega,this.2⟩
  ·exact ⟨by omega,fun _=>x⟩
  ·rw [x.2.2,l5 x.1,l3 x.1]
   exact ⟨Int.le_refl _,fun c=>by omega⟩
theorem getB_of {b : S26} {key : ByteArray} (hb : bucketB b = true) (hk : keyB key = true) : getB b key = if (getE b.f2 key).length = 0 then (z47,4) else ((getE b.f2 key).getD 0 z47,if ((getE b.f2 key).getD 0 z47).f2 = true then 13 else 0):=by
 unfold getB
 have ho : openR b key = 0:=by
  unfold openR
  rw [if_neg (by rw [hb,hk];simp)]
 have hc:=chain_get (bucket_ix hb).2 key
 rw [if_pos ho]
 unfold atV
 rw [if_neg (by rw [hc];simp)]
 by_cases hl : (getE b.f2 key).length = 0
 ·rw [if_pos hl,if_pos (Or.inr (by omega))]
 ·rw [if_neg hl,if_neg (by omega)];rfl
end
section
open Go.WideMaps Go.Maps
def StepOK (b : S26) (x : Did) (six : Bool) : Prop :=
 bucketB x.b = true ∧ b.f4 ≤ x.b.f4 ∧ (x.er ≠ 0 → x.b = b) ∧ (x.er = 0 → six = false → x.id ≠ 0 → x.id = b.f4 + 1 ∧ x.b.f4 = b.f4 + 1)
theorem step_no {b : S26} {x : Did} {six : Bool} (hb : bucketB b = true) (he : x.er ≠ 0) (h : x.b = b) : StepOK b x six :=
 ⟨by rw [h];exact hb,by rw [h];exact Int.le_refl _,fun _=>h,fun c=>absurd c he⟩
theorem head_le {b : S26} (hb : bucketB b = true) : b.f4 ≤ 281474976710655 ∧ 0 ≤ b.f1 ∧ b.f1 ≤ 2:=by
 have:=(bucket_at hb).1
 unfold headB at this
 simp only [Bool.and_eq_true,decide_eq_true_eq] at this
 exact ⟨this.2.2.2,this.2.1,this.2.2.1⟩
theorem upd_le {b : S26} (hb : bucketB b = true) : ∀ u ∈ b.f3,u.f0 ≤ b.f4:=by
 intro u hu
 have:=List.any_eq_false.1 (bucket_at hb).2.2.2.2.2 u hu
 unfold updB at this
 rw [decide_eq_true_eq] at this
 omega
theorem upl_bucket {b : S26} (hb : bucketB b = true) {U : List S101} {L : Int} (hU : checkB U = true) (ho : octB b.f2 U ≤ 20000) (h1 : b.f4 ≤ L) (h2 : L ≤ 281474976710655) (hu : ∀ u ∈ U,u.f0 ≤ L) :
  bucketB (⟨b.f0,b.f1,b.f2,U,L⟩ : S26) = true:=by
 obtain ⟨q1,q2,q3,q4,q5,q6⟩:=bucket_at hb
 unfold bucketB
 simp only [Bool.and_eq_true,decide_eq_true_eq,Bool.not_eq_true']
 refine ⟨?_,q2,hU,ho,List.all_eq_true.2 (fun x hx=>?_),?_⟩
 ·unfold headB at q1 ⊢
  simp only [Bool.and_eq_true,decide_eq_true_eq] at q1 ⊢
  exact ⟨q1.1,q1.2.1,q1.2.2.1,h2⟩
 ·have h:=List.all_eq_true.1 q5 x hx
  unfold nearB at h ⊢
  rw [Bool.not_eq_true',List.any_eq_false] at h ⊢
  intro v hv
  have:=h v hv
  unfold farB at this ⊢
  simp only [Bool.or_eq_true,decide_eq_true_eq,Bool.and_eq_true,beq_iff_eq,Bool.not_eq_true',beq_eq_false_iff_ne,ne_eq,not_or,not_and,Decidable.not_not] at this ⊢
  exact ⟨by omega,this.2⟩
 ·rw [List.any_eq_false]
  intro u hu'
  have:=hu u hu'
  unfold updB
  rw [decide_eq_true_eq]
  omega
theorem begin_step {b : S26} (hb : bucketB b = true) (h4 : 0 ≤ b.f4) (key : ByteArray) (six : Bool) : StepOK b (d3 (beginB b key)) six:=by
 have hm:=(head_le hb).1
 unfold beginB
 simp only
 rw [wrap_le h4 hm]
 generalize hq : beginQ b key (b.f4 + 1) (noR (decide (281474976710655 ≤ b.f4)) 6 (openR b key)) = q
 by_cases hc : (closeR b q.1 q.2).2 = 0
 ·rw [if_pos hc]
  obtain ⟨e1,e2,e3⟩:=closeR_ok hc
  unfold beginQ at hq
  by_cases hn : noR (decide (281474976710655 ≤ b.f4)) 6 (openR b key) = 0
  ·rw [if_pos hn] at hq
   subst hq
   simp only at e1 e2 e3 ⊢
   rw [hn] at e1
   have hr:=(noR_ok e1).1
   obtain ⟨c1,c2,c3⟩:=begin_check hr
   have hlt : b.f4 < 281474976710655:=by
    unfold noR at hn
    by_cases hd : 281474976710655 ≤ b.f4
    ·rw [decide_eq_true hd] at hn
     by_cases h0 : openR b key = 0
     ·rw [if_pos ⟨rfl,h0⟩] at hn;cases hn
     ·rw [if_neg (fun c=>h0 c.2)] at hn;exact absurd hn h0
    ·omega
   rw [e3]
   refine ⟨upl_bucket hb c1 e2 (by omega) (by omega) (fun u hu=>?_),(by omega : b.f4 ≤ b.f4 + 1),fun c=>absurd rfl c,fun _ _ _=>⟨rfl,rfl⟩⟩
   rw [c2] at hu
   rcases List.mem_append.1 hu with x | x
   ·have:=upd_le hb u x;omega
   ·rw [List.mem_singleton.1 x];exact Int.le_refl _
  ·rw [if_neg hn] at hq
   subst hq
   exact absurd e1 hn
 ·rw [if_neg hc];exact step_no hb hc rfl
theorem lay_mem {l : List S101} {id : Int} {p : S40} (h : (layR l id p).2.2 = 0) : ∀ u ∈ (layR l id p).1,∃ v ∈ l,v.f0 = u.f0:=by
 unfold layR at h ⊢
 by_cases h1 : checkB l = false ∨ mayB p = false
 ·rw [if_pos h1] at h;cases h
 ·rw [if_neg h1] at h ⊢
  cases hp : posU l id with
  | none=>rw [hp] at h;cases h
  | some i =>
   rw [hp] at h
   simp only at h ⊢
   by_cases h2 : thereP (l.getD i z101).f2 p.f0 = false ∧ (l.getD i z101).f2.length = 30
   ·rw [if_pos h2] at h;cases h
   ·rw [if_neg h2]
    intro u hu
    unfold posU at hp
    have hi : i < l.length:=by
     rw [List.findIdx?_eq_some_iff_getElem] at hp
     exact hp.1
    rcases List.mem_or_eq_of_mem_set hu with x | x
    ·exact ⟨u,x,rfl⟩
    ·refine ⟨l[i],List.getElem_mem hi,?_⟩
     rw [x,getD_at l i _ hi]
theorem lay_step {b : S26} (hb : bucketB b = true) (id : Int) (p : S40) (T : Int) :
  StepOK b ⟨(layB b id p).1,T,⟨#[]⟩,(layB b id p).2.2⟩ true:=by
 unfold layB
 simp only
 by_cases hc : (closeR b (⟨b.f0,b.f1,b.f2,(layR b.f3 id p).1,b.f4⟩ : S26) (noR (!((layR b.f3 id p).2.2 == 0)) (layR b.f3 id p).2.2 (openR b anyK))).2 = 0
 ·rw [if_pos hc]
  obtain ⟨e1,e2,e3⟩:=closeR_ok hc
  have hr:=(noR_ok e1).1
  rw [e3]
  refine ⟨upl_bucket hb (lay_check hr).1 e2 (Int.le_refl _) (head_le hb).1 (fun u hu=>?_),Int.le_refl _,fun c=>absurd rfl c,fun _ c=>by cases c⟩
  obtain ⟨v,hv,e⟩:=lay_mem hr u hu
  rw [← e]
  exact upd_le hb v hv
 ·rw [if_neg hc];exact step_no hb hc rfl
/-- what Whole does: the upload goes, then Put -/
def wholeAct (b : S26) (id : Int) (ps : List S43) (q : Int) : Act:=⟨0,(findR b.f3 id).1.f1,(wholeR (findR b.f3 id).1 ps).1,0,0,q,[]⟩
def gone (b : S26) (id : Int) : S26:=⟨b.f0,b.f1,b.f2,(abortR b.f3 id).1,b.f4⟩
theorem whole_ok {b : S26} {id : Int} {ps : List S43} {q : Int} (h : (wholeB b id ps q).2.2.2 = 0) :
  bucketB b = true ∧ (findR b.f3 id).2 = 0 ∧ (wholeR (findR b.f3 id).1 ps).2.2 = 0 ∧ (doR (gone b id) (wholeAct b id ps q)).er = 0 ∧
  wholeB b id ps q = ((doR (gone b id) (wholeAct b id ps q)).b,(doR (gone b id) (wholeAct b id ps q)).id,(wholeR (findR b.f3 id).1 ps).2.1,0):=by
 have e : doR (gone b id) (wholeAct b id ps q) = d3 (laidR ⟨b.f0,b.f1,b.f2,(abortR b.f3 id).1,b.f4⟩ (findR b.f3 id).1.f1 (fun l n=>putV l b.f1 ⟨n,(wholeR (findR b.f3 id).1 ps).1,false,q⟩)):=by
  unfold doR wholeAct gone
  show (if Int.tmod (0 : Int) 9 = 0 then _ else _) = _
  rw [if_pos (by decide)]
 rw [e]
 unfold wholeB at h ⊢
 simp only at h ⊢
 by_cases hn : noR (!((wholeR (findR b.f3 id).1 ps).2.2 == 0)) (wholeR (findR b.f3 id).1 ps).2.2 (noR (!((findR b.f3 id).2 == 0)) (findR b.f3 id).2 (openR b anyK)) = 0
 ·rw [if_pos hn] at h ⊢
  have n1:=noR_ok hn
  have n2:=noR_ok n1.2
  by_cases hp : (laidR (⟨b.f0,b.f1,b.f2,(abortR b.f3 id).1,b.f4⟩ : S26) (findR b.f3 id).1.f1 (fun l n=>putV l b.f1 ⟨n,(wholeR (findR b.f3 id).1 ps).1,false,q⟩)).2.2 = 0
  ·rw [if_pos hp]
   exact ⟨(open_0 n2.2).1,n2.1,n1.1,hp,rfl⟩
  ·rw [if_neg hp] at h;exact absurd h hp
 ·rw [if_neg hn] at h;exact absurd h hn
theorem whole_no {b : S26} {id : Int} {ps : List S43} {q : Int} (h : (wholeB b id ps q).2.2.2 ≠ 0) : (wholeB b id ps q).1 = b ∧ (wholeB b id ps q).2.1 = 0:=by
 unfold wholeB at h ⊢
 simp only at h ⊢
 split
 ·rename_i hn
  rw [if_pos hn] at h
  split
  ·rename_i hp
   rw [if_pos hp] at h
   exact absurd rfl h
  ·exact ⟨rfl,rfl⟩
 ·exact ⟨rfl,rfl⟩
theorem act_step {b : S26} {a : Act} (hb : bucketB b = true) (h4 : 0 ≤ b.f4) (k0 : 0 ≤ Int.tmod a.kd 9) (k4 : Int.tmod a.kd 9 < 4) (six : Bool) : StepOK b (doR b a) six:=by
 by_cases he : (doR b a).er = 0
 ·obtain ⟨q1,q2,q3,q4,q5,q6,q7,q8⟩:=do4_ok k0 k4 he
  have hx:=act_bucket h4 k0 k4 he
  rw [q8]
  refine ⟨hx.1,hx.2,fun c=>absurd rfl c,fun _ _ hi=>?_⟩
  unfold actB
  simp only at hi ⊢
  by_cases k3 : Int.tmod a.kd 9 = 3
  ·rw [if_pos k3] at hi;exact absurd rfl hi
  ·rw [if_neg k3] at hi
   rw [if_neg k3,if_neg k3]
   obtain ⟨l1,l2,l3,l4,l5,l6⟩:=last_le q1 h4 (q7 (by omega))
   by_cases h1 : b.f1 = 1
   ·exact ⟨l5 h1,l3 h1⟩
   ·exact absurd (l6 h1) hi
 ·exact step_no hb he (do4_no k0 k4 he).1
theorem whole_step {b : S26} (hb : bucketB b = true) (h4 : 0 ≤ b.f4) (id : Int) (ps : List S43) (q : Int) (six : Bool) : StepOK b ⟨(wholeB b id ps q).1,(wholeB b id ps q).2.1,(wholeB b id ps q).2.2.1,(wholeB b id ps q).2.2.2⟩ six:=by
 by_cases he : (wholeB b id ps q).2.2.2 = 0
 ·obtain ⟨_,_,_,w4,w5⟩:=whole_ok he
  have hg : bucketB (gone b id) = true:=(do4_ok (a:=wholeAct b id ps q) (show (0 : Int) ≤ Int.tmod 0 9 by decide) (show Int.tmod (0 : Int) 9 < 4 by decide) w4).1
  obtain ⟨s1,s2,s3,s4⟩:=act_step (a:=wholeAct b id ps q) hg h4 (show (0 : Int) ≤ Int.tmod 0 9 by decide) (show Int.tmod (0 : Int) 9 < 4 by decide) false
  rw [w5]
  exact ⟨s1,s2,fun c=>absurd rfl c,fun _ _ hi=>s4 w4 rfl hi⟩
 ·exact step_no hb he (whole_no he).1
end
section
open Go.WideMaps Go.Maps
theorem ch_wide : ∀ (l : List S47) {pa pa' last last' : Int} {null : Bool},chFrom l pa last null = true → pa ≤ pa' → (∀ v ∈ l,v.f0 < last') → chFrom l pa' last' null = true
 | [],_,_,_,_,_,_,_,_=>rfl
 | v :: vs,pa,pa',last,last',null,h,hp,hl=>by
  unfold chFrom at h ⊢
  simp only [Bool.and_eq_true,Bool.not_eq_true',decide_eq_false_iff_not] at h ⊢
  obtain ⟨h1,h2,h3,h4⟩:=h
  refine ⟨by omega,h2,by have:=hl v List.mem_cons_self;omega,?_⟩
  by_cases h0 : (v.f0 == 0) = true
  ·rw [if_pos h0] at h4 ⊢;exact ch_wide vs h4 (Int.le_refl _) (fun x hx=>hl x (List.mem_cons_of_mem _ hx))
  ·rw [if_neg h0] at h4 ⊢;exact h4
theorem ch_del : ∀ (l : List S47) {pa pa' last : Int} {null null' : Bool},chFrom l pa last null = true → pa ≤ pa' → chFrom (delV 0 l) pa' last null' = true
 | [],_,_,_,_,_,_,_=>rfl
 | v :: vs,pa,pa',last,null,null',h,hp=>by
  unfold chFrom at h
  simp only [Bool.and_eq_true,Bool.not_eq_true',decide_eq_false_iff_not] at h
  obtain ⟨h1,h2,h3,h4⟩:=h
  by_cases h0 : (v.f0 == 0) = true
  ·rw [if_pos h0] at h4
   have e : delV 0 (v :: vs) = delV 0 vs:=by unfold delV;rw [List.filter_cons,if_neg (by unfold idB;rw [h0];simp)]
   rw [e]
   exact ch_del vs h4 (by omega)
  ·rw [if_neg h0] at h4
   have e : delV 0 (v :: vs) = v :: delV 0 vs:=by unfold delV;rw [List.filter_cons,if_pos (by unfold idB;simp only [Bool.not_eq_true',Bool.not_eq_true] at h0 ⊢;exact h0)]
   rw [e]
   unfold chFrom
   simp only [Bool.and_eq_true,Bool.not_eq_true',decide_eq_false_iff_not]
   refine ⟨by omega,by rw [Bool.eq_false_iff.2 h0];rfl,h3,?_⟩
   rw [if_neg h0]
   exact ch_del vs h4 (Int.le_refl _)
theorem chain_of {l : List S47} (h1 : l.length ≤ 20) (h2 : ∀ v ∈ l,mayV v = true) (h3 : chB l = true) : chainB l = true:=by
 unfold chainB
 rw [decide_eq_true h1,h3]
 have : l.any badV = false:=by
  rw [List.any_eq_false]
  intro v hv
  have:=h2 v hv
  unfold badV
  rw [this];simp
 rw [this];rfl
/-- what Put lays may be -/
theorem putV_chain {l : List S47} {st : Int} {x : S47} (h : (putV l st x).2 = 0) (hx : st = 1 → ∀ v ∈ l,v.f0 < x.f0) (hm : x.f0 ≤ 281474976710655) : chainB (putV l st x).1 = true:=by
 obtain ⟨q1,_,_,q4,q5,q6,q7,q8⟩:=putV_ok h
 obtain ⟨c1,c2,c3⟩:=chain_small q1
 refine chain_of q8 ?_ ?_
 ·rw [q7]
  by_cases hs : st = 1
  ·rw [if_pos hs]
   intro v hv
   rcases List.mem_cons.1 hv with rfl | hv
   ·exact q4
   ·exact c2 v hv
  ·rw [if_neg hs]
   intro v hv
   rcases List.mem_cons.1 hv with rfl | hv
   ·unfold mayV at q4 ⊢
    simp only [Bool.and_eq_true,decide_eq_true_eq] at q4 ⊢
    exact ⟨by omega,q4.2⟩
   ·exact c2 v (delV_mem hv)
 ·rw [q7]
  have hd : (l.getD 0 z47).f3 ≤ x.f3 ∨ l = []:=by
   cases l with
   | nil=>exact Or.inr rfl
   | cons y l=>exact Or.inl (q5 (by simp))
  unfold chB at c3 ⊢
  by_cases hs : st = 1
  ·rw [if_pos hs]
   have h0 : (x.f0 == 0) = false:=beq_eq_false_iff_ne.2 (q6 hs)
   show chFrom (x :: l) x.f3 281474976710656 false = true
   unfold chFrom
   rw [h0,if_neg (by simp)]
   simp only [Bool.and_eq_true,Bool.not_eq_true',decide_eq_false_iff_not]
   refine ⟨by omega,rfl,by omega,?_⟩
   rcases hd with hd | rfl
   ·exact ch_wide l c3 hd (hx hs)
   ·rfl
  ·rw [if_neg hs]
   show chFrom (⟨0,x.f1,x.f2,x.f3⟩ :: delV 0 l) x.f3 281474976710656 false = true
   unfold chFrom
   rw [if_pos (by rfl)]
   simp only [Bool.and_eq_true,Bool.not_eq_true',decide_eq_false_iff_not]
   refine ⟨by omega,rfl,by omega,?_⟩
   rcases hd with hd | rfl
   ·exact ch_del l c3 hd
   ·rfl
def E06 (e : Int) : Prop:=e = 0 ∨ e = 6
theorem close_06 {x b : S26} {e : Int} (h : E06 e) : E06 (closeR x b e).2:=by
 unfold closeR
 rcases h with rfl | rfl
 ·rw [if_pos rfl];split
  ·exact Or.inl rfl
  ·exact Or.inr rfl
 ·rw [if_neg (by decide)];exact Or.inr rfl
theorem fin_06 {b : S26} {id : Int} {c : S26 × Int} (h : E06 c.2) : E06 ((if c.2 = 0 then (c.1,id,0) else (b,0,c.2)) : S26 × Int × Int).2.2:=by
 split
 ·exact Or.inl rfl
 ·exact h
theorem vers_06 {b : S26} {key : ByteArray} {e : Int} {r : List S47 × Int} (hi : indexB b.f2 = true) (hk : keyB key = true) (h : E06 e) (hr : E06 r.2) (hc : r.2 = 0 → chainB r.1 = true) : E06 (versQ b key e r).2:=by
 unfold versQ
 rcases h with rfl | rfl
 ·rw [if_pos rfl]
  unfold versR
  by_cases h0 : r.2 = 0
  ·rw [if_pos h0]
   unfold putE
   rw [if_neg (by rw [hi,hk,hc h0];simp)]
   split
   ·exact Or.inr rfl
   ·exact Or.inl rfl
  ·rw [if_neg h0];exact hr
 ·rw [if_neg (by decide)];exact Or.inr rfl
theorem put_06 {l : List S47} {st : Int} {x : S47} (hc : chainB l = true) (hs : 0 ≤ st ∧ st ≤ 2) (hm : mayV x = true) (hq : x.f3 = 1099511627775) (hx : st = 1 → x.f0 ≠ 0 ∧ ∀ v ∈ l,v.f0 < x.f0) : E06 (putV l st x).2:=by
 unfold putV
 rw [if_neg]
 ·rw [if_neg]
  ·split
   ·exact Or.inr rfl
   ·exact Or.inl rfl
  ·unfold layV
   by_cases h1 : st = 1
   ·rw [if_pos h1,if_neg (by rw [beq_iff_eq];exact (hx h1).1),if_neg]
    ·simp
    ·rw [List.any_eq_true]
     rintro ⟨v,hv,hg⟩
     unfold geB at hg
     have:=(hx h1).2 v hv
     rw [decide_eq_true_eq] at hg
     omega
   ·rw [if_neg h1];simp
 ·rintro (h | h | h | h)
  ·rw [hc] at h;cases h
  ·exact h hs
  ·rw [hm] at h;cases h
  ·obtain ⟨h0,h9⟩:=h
   cases l with
   | nil=>simp at h0
   | cons y l =>
    have:=(chain_small hc).2.1 y List.mem_cons_self
    unfold mayV at this
    simp only [Bool.and_eq_true,decide_eq_true_eq] at this
    change x.f3 < y.f3 at h9
    omega
theorem laid_06 {b : S26} {key data : ByteArray} (hb : bucketB b = true) (h4 : 0 ≤ b.f4) (hk : keyB key = true) (hd : data.size ≤ 2000) : E06 (laidR b key (fun l id=>putV l b.f1 ⟨id,data,false,1099511627775⟩)).2.2:=by
 have ho : openR b key = 0:=by
  unfold openR
  rw [if_neg (by rw [hb,hk];simp)]
 have hn:=near_get hb key
 have hc:=chain_get (bucket_ix hb).2 key
 obtain ⟨hm,s0,s2⟩:=head_le hb
 unfold laidR
 simp only [ho]
 have hv : ∀ id : Int,id ≤ 281474976710655 → mayV ⟨id,data,false,1099511627775⟩ = true:=by
  intro id hid
  unfold mayV
  simp only [Bool.and_eq_true,decide_eq_true_eq]
  refine ⟨by omega,by omega,rfl,by omega,by omega⟩
 by_cases h1 : b.f1 = 1
 ·rw [if_pos h1,if_pos h1,if_pos h1,wrap_le h4 hm]
  by_cases hL : 281474976710655 ≤ b.f4
  ·refine fin_06 (close_06 ?_)
   rw [decide_eq_true hL,noR_0]
   unfold versQ
   rw [if_neg (by decide)]
   exact Or.inr rfl
  ·rw [decide_eq_false hL,noR_f]
   have hx : b.f1 = 1 → (b.f4 + 1 ≠ 0 ∧ ∀ v ∈ getE b.f2 key,v.f0 < b.f4 + 1):=fun _=>⟨by omega,fun v hv=>by have:=(hn v hv).1;omega⟩
   exact fin_06 (close_06 (vers_06 (b:=⟨b.f0,b.f1,b.f2,b.f3,b.f4 + 1⟩) (bucket_ix hb).2 hk (Or.inl rfl) (put_06 hc ⟨s0,s2⟩ (hv _ (by omega)) rfl hx) (fun h=>putV_chain h (fun c=>(hx c).2) (by show b.f4 + 1 ≤ _;omega))))
 ·rw [if_neg h1,if_neg h1,if_neg h1]
  exact fin_06 (close_06 (vers_06 (bucket_ix hb).2 hk (Or.inl rfl) (put_06 hc ⟨s0,s2⟩ (hv _ (by omega)) rfl (fun c=>absurd c h1)) (fun h=>putV_chain h (fun c=>absurd c h1) (by show (0 : Int) ≤ _;omega))))
end
section
open Go.WideMaps Go.Maps
def upX (b : S26) (key : ByteArray) (ps : List S40) : S26:=⟨b.f0,b.f1,b.f2,b.f3 ++ [⟨b.f4 + 1,key,ps⟩],b.f4 + 1⟩
theorem begin_x {b : S26} {key : ByteArray} (h4 : 0 ≤ b.f4) (h : (beginB b key).2.2 = 0) :
  bucketB b = true ∧ keyB key = true ∧ b.f4 < 281474976710655 ∧ beginB b key = (upX b key [],b.f4 + 1,0) ∧ bucketB (upX b key []) = true:=by
 have hbk : bucketB b = true ∧ keyB key = true:=by
  unfold beginB at h
  simp only at h
  generalize hq : beginQ b key (IntKind.u64.wrap (b.f4 + 1)) (noR (decide (281474976710655 ≤ b.f4)) 6 (openR b key)) = q at h
  by_cases hc : (closeR b q.1 q.2).2 = 0
  ·obtain ⟨e1,e2,e3⟩:=closeR_ok hc
   unfold beginQ at hq
   by_cases hn : noR (decide (281474976710655 ≤ b.f4)) 6 (openR b key) = 0
   ·exact open_0 (noR_zero hn)
   ·rw [if_neg hn] at hq
    subst hq
    exact absurd e1 hn
  ·rw [if_neg hc] at h;exact absurd h hc
 obtain ⟨hb,hk⟩:=hbk
 have hst:=begin_step hb h4 key false
 have hm:=(head_le hb).1
 refine ⟨hb,hk,?_⟩
 unfold beginB at h hst ⊢
 simp only at h hst ⊢
 rw [wrap_le h4 hm] at h hst ⊢
 generalize hq : beginQ b key (b.f4 + 1) (noR (decide (281474976710655 ≤ b.f4)) 6 (openR b key)) = q at h hst ⊢
 by_cases hc : (closeR b q.1 q.2).2 = 0
 ·rw [if_pos hc] at hst ⊢
  obtain ⟨e1,e2,e3⟩:=closeR_ok hc
  unfold beginQ at hq
  by_cases hn : noR (decide (281474976710655 ≤ b.f4)) 6 (openR b key) = 0
  ·rw [if_pos hn] at hq
   subst hq
   simp only at e1 e2 e3 hst ⊢
   rw [hn] at e1
   have hr:=(noR_ok e1).1
   obtain ⟨c1,c2,c3⟩:=begin_check hr
   have hlt : b.f4 < 281474976710655:=by
    unfold noR at hn
    by_cases hd : 281474976710655 ≤ b.f4
    ·rw [decide_eq_true hd] at hn
     by_cases h0 : openR b key = 0
     ·rw [if_pos ⟨rfl,h0⟩] at hn;cases hn
     ·rw [if_neg (fun c=>h0 c.2)] at hn;exact absurd hn h0
    ·omega
   rw [e3] at hst ⊢
   have e : (⟨b.f0,b.f1,b.f2,(beginR b.f3 (b.f4 + 1) key).1,b.f4 + 1⟩ : S26) = upX b key []:=by rw [c2];rfl
   rw [e] at hst ⊢
   exact ⟨hlt,rfl,hst.1⟩
  ·rw [if_neg hn] at hq
   subst hq
   exact absurd e1 hn
 ·rw [if_neg hc] at h;exact absurd h hc
theorem begin_no {b : S26} {key : ByteArray} (h : (beginB b key).2.2 ≠ 0) : (beginB b key).1 = b:=by
 unfold beginB at h ⊢
 exact (fin_no h).1
theorem pos_x {l : List S101} {u : S101} (h : ∀ v ∈ l,v.f0 ≠ u.f0) : posU (l ++ [u]) u.f0 = some l.length:=by
 unfold posU
 rw [List.findIdx?_eq_some_iff_getElem]
 refine ⟨by simp,by simp,?_⟩
 intro j hj
 rw [List.getElem_append_left hj]
 have:=h _ (List.getElem_mem hj)
 simp only [beq_iff_eq]
 exact this
/-- the parts that were laid: their numbers fall towards the head -/
structure LaidP (ps : List S40) (n : Int) : Prop where
 ord : (ps.map (·.f0)).Pairwise (· < ·)
 le : ∀ p ∈ ps,n < p.f0
theorem up_ids {b : S26} (hb : bucketB b = true) : ∀ v ∈ b.f3,v.f0 ≠ b.f4 + 1:=fun v hv=>by have:=upd_le hb v hv;omega
theorem lay_front {ps : List S40} {p : S40} (h : ∀ x ∈ ps,p.f0 < x.f0) : thereP ps p.f0 = false ∧ layParts ps p = p :: ps:=by
 have h1 : thereP ps p.f0 = false:=by
  unfold thereP
  rw [List.any_eq_false]
  intro x hx
  have:=h x hx
  simp only [beq_iff_eq]
  omega
 refine ⟨h1,?_⟩
 unfold layParts
 rw [if_neg (by rw [h1];simp)]
 have h2 : lowP ps p.f0 = 0:=by
  unfold lowP
  cases ps with
  | nil=>rfl
  | cons y ps =>
   have:=h y List.mem_cons_self
   rw [List.findIdx_cons,decide_eq_true (by omega)]
   rfl
 rw [h2];rfl
theorem lay_x {b : S26} {key : ByteArray} {ps : List S40} {p : S40} (hb0 : bucketB b = true) (hb : bucketB (upX b key ps) = true) (hm : mayB p = true) (hl : ps.length < 30) (hp : ∀ x ∈ ps,p.f0 < x.f0) :
  ((layB (upX b key ps) (b.f4 + 1) p).2.2 = 0 ∧ layB (upX b key ps) (b.f4 + 1) p = (upX b key (p :: ps),tagOf p.f1,0) ∧ bucketB (upX b key (p :: ps)) = true) ∨ (layB (upX b key ps) (b.f4 + 1) p).2.2 = 6:=by
 have hc:=(bucket_at hb).2.2.1
 have hst:=lay_step hb (b.f4 + 1) p 0
 have ho : openR (upX b key ps) anyK = 0:=by
  unfold openR
  rw [if_neg (by rw [hb,show keyB anyK = true from by decide];simp)]
 have hr : layR (upX b key ps).f3 (b.f4 + 1) p = ((upX b key (p :: ps)).f3,tagOf p.f1,0):=by
  unfold layR
  rw [if_neg (by rw [hc,hm];simp)]
  have hps : posU (upX b key ps).f3 (b.f4 + 1) = some b.f3.length:=pos_x (u:=⟨b.f4 + 1,key,ps⟩) (up_ids hb0)
  rw [hps]
  have hg : (upX b key ps).f3.getD b.f3.length z101 = ⟨b.f4 + 1,key,ps⟩:=by
   unfold upX
   rw [List.getD_eq_getElem?_getD,List.getElem?_append_right (Nat.le_refl _)]
   simp
  simp only [hg]
  obtain ⟨h1,h2⟩:=lay_front hp
  rw [if_neg (by rintro ⟨_,h⟩;omega),h2]
  have hs : (upX b key ps).f3.set b.f3.length ⟨b.f4 + 1,key,p :: ps⟩ = (upX b key (p :: ps)).f3:=by
   unfold upX
   rw [List.set_append_right _ _ (Nat.le_refl _)]
   simp
  rw [hs]
 unfold layB at hst ⊢
 simp only [hr,ho] at hst ⊢
 have e : noR (!((0 : Int) == 0)) 0 0 = 0:=by decide
 rw [e] at hst ⊢
 by_cases hc2 : (closeR (upX b key ps) (⟨(upX b key ps).f0,(upX b key ps).f1,(upX b key ps).f2,(upX b key (p :: ps)).f3,(upX b key ps).f4⟩ : S26) 0).2 = 0
 ·left
  rw [if_pos hc2] at hst ⊢
  obtain ⟨_,_,e3⟩:=closeR_ok hc2
  rw [e3] at hst ⊢
  exact ⟨rfl,rfl,hst.1⟩
 ·right
  rw [if_neg hc2]
  rcases close_06 (x:=upX b key ps) (b:=⟨(upX b key ps).f0,(upX b key ps).f1,(upX b key ps).f2,(upX b key (p :: ps)).f3,(upX b key ps).f4⟩) (Or.inl rfl : E06 0) with h | h
  ·exact absurd h hc2
  ·exact h
end
section
open Go.WideMaps Go.Maps
def pcs (ps : List S40) : List S43:=ps.map fun p=>⟨p.f0,tagOf p.f1⟩
def catP : List S40 → ByteArray
 | []=>⟨#[]⟩
 | p :: ps=>p.f1 ++ catP ps
theorem pcs_len (ps : List S40) : (pcs ps).length = ps.length:=List.length_map _
theorem fold_none {n : Int} : ∀ (ps : List S40) (s : ByteArray),(∀ x ∈ ps,x.f0 ≠ n) → ps.foldl (fun s p=>if p.f0 = n then p.f1 else s) s = s
 | [],_,_=>rfl
 | p :: ps,s,h=>by
  rw [List.foldl_cons,if_neg (h p List.mem_cons_self)]
  exact fold_none ps s (fun x hx=>h x (List.mem_cons_of_mem _ hx))
theorem fold_at : ∀ (ps : List S40) (s : ByteArray),(ps.map (·.f0)).Pairwise (· < ·) → ∀ p ∈ ps,ps.foldl (fun s q=>if q.f0 = p.f0 then q.f1 else s) s = p.f1
 | [],_,_,_,h=>by cases h
 | y :: ps,s,hs,p,hp=>by
  rw [List.map_cons,List.pairwise_cons] at hs
  rw [List.foldl_cons]
  rcases List.mem_cons.1 hp with rfl | hp
  ·rw [if_pos rfl]
   exact fold_none ps _ (fun x hx=>by have:=hs.1 x.f0 (List.mem_map.2 ⟨x,hx,rfl⟩);omega)
  ·exact fold_at ps _ hs.2 p hp
theorem data_at {ps : List S40} (hs : (ps.map (·.f0)).Pairwise (· < ·)) {p : S40} (hp : p ∈ ps) : dataOf ps p.f0 = p.f1:=fold_at ps _ hs p hp
theorem cat_list : ∀ ps : List S40,(catP ps).data.toList = ps.flatMap fun p=>p.f1.data.toList
 | []=>rfl
 | p :: ps=>by
  rw [List.flatMap_cons,← cat_list ps]
  show (p.f1 ++ catP ps).data.toList = _
  rw [ByteArray.data_append,Array.toList_append]
theorem cat_size {ps : List S40} (h : ∀ p ∈ ps,p.f1.size ≤ 200) : (catP ps).size ≤ 200 * ps.length:=by
 induction ps with
 | nil=>exact Nat.le_refl _
 | cons p ps ih =>
  have h1:=ih (fun x hx=>h x (List.mem_cons_of_mem _ hx))
  have h2:=h p List.mem_cons_self
  show (p.f1 ++ catP ps).size ≤ _
  rw [ByteArray.size_append,List.length_cons]
  omega
theorem bytes_pcs {ps : List S40} (hs : (ps.map (·.f0)).Pairwise (· < ·)) : bytesFor ps (pcs ps) = (catP ps).data.toList:=by
 rw [cat_list]
 unfold bytesFor pcs
 rw [List.flatMap_map]
 have : ∀ l : List S40,(∀ x ∈ l,x ∈ ps) → (l.flatMap fun a=>(dataOf ps a.f0).data.toList) = l.flatMap fun p=>p.f1.data.toList:=by
  intro l hl
  induction l with
  | nil=>rfl
  | cons y l ih =>
   rw [List.flatMap_cons,List.flatMap_cons,ih (fun x hx=>hl x (List.mem_cons_of_mem _ hx)),data_at hs (hl y List.mem_cons_self)]
 exact this ps (fun _ h=>h)
theorem getD_pcs {ps : List S40} {j : Nat} (h : j < ps.length) : (pcs ps).getD j z43 = ⟨ps[j].f0,tagOf ps[j].f1⟩:=by
 rw [getD_at _ _ _ (by rw [pcs_len];exact h)]
 unfold pcs
 rw [List.getElem_map]
theorem whole_r {u : Int} {key : ByteArray} {ps : List S40} (hf : fineB u key ps = true) (h8 : ps.length ≤ 8) (hz : ∀ p ∈ ps,6 ≤ p.f1.size ∧ p.f1.size ≤ 200) :
  wholeR ⟨u,key,ps⟩ (pcs ps) = if ps.length = 0 then (noStr,noStr,1) else (catP ps,manyText (tagsFor (pcs ps)),0):=by
 have hs:=((fine_iff u key ps).1 hf).2.2.2.1
 unfold wholeR
 by_cases h0 : ps.length = 0
 ·rw [if_pos h0,if_pos (Or.inr (by rw [pcs_len];exact h0))]
 ·rw [if_neg h0,if_neg (by rw [pcs_len,hf];rintro (c | c);cases c;exact h0 c)]
  have h1 : ordB (pcs ps) = true:=by
   unfold ordB
   refine allFrom_of _ _ (fun j j1 j2=>?_)
   rw [pcs_len] at j2
   unfold ordAt
   rw [getD_pcs (by omega),getD_pcs (by omega),decide_eq_true_eq]
   have:=adjInt_of hs (j - 1) (by rw [List.length_map];omega)
   rw [List.getElem_map,List.getElem_map] at this
   have e : j - 1 + 1 = j:=by omega
   simp only [e] at this
   exact this
  have h2 : (pcs ps).any (lackB ps) = false:=by
   rw [List.any_eq_false]
   intro x hx
   unfold pcs at hx
   obtain ⟨p,hp,rfl⟩:=List.mem_map.1 hx
   have : hasPiece ⟨p.f0,tagOf p.f1⟩ ps = true:=List.any_eq_true.2 ⟨p,hp,by show (decide _ && decide _) = true;rw [decide_eq_true rfl,decide_eq_true rfl];rfl⟩
   unfold lackB
   rw [this];simp
  have h3 : longB ps (pcs ps) = true:=by
   unfold longB
   refine allFrom_of _ _ (fun j j1 j2=>?_)
   rw [pcs_len] at j2
   unfold longAt
   have hj : j < ps.length:=by omega
   rw [getD_pcs hj,data_at hs (List.getElem_mem hj),decide_eq_false (p:=ps[j].f1.size < 5) (by have:=(hz ps[j] (List.getElem_mem hj)).1;omega)]
   simp
  have h4 : ¬ 2000 < (bytesFor ps (pcs ps)).length:=by
   rw [bytes_pcs hs]
   have:=cat_size (fun p hp=>(hz p hp).2)
   have e : (catP ps).data.toList.length = (catP ps).size:=Array.length_toList
   omega
  rw [if_neg (by rw [h1];simp),if_neg (by show ¬ (pcs ps).any (lackB ps) = true;rw [h2];simp),if_neg (by show ¬ longB ps (pcs ps) = false;rw [h3];simp),if_neg h4]
  show ((⟨(bytesFor ps (pcs ps)).toArray⟩ : ByteArray),_,_) = _
  rw [bytes_pcs hs]
theorem whole_x {b : S26} {key : ByteArray} {ps : List S40} (hb0 : bucketB b = true) (h4 : 0 ≤ b.f4) (hk : keyB key = true) (hb : bucketB (upX b key ps) = true) (h8 : ps.length ≤ 8) (hz : ∀ p ∈ ps,6 ≤ p.f1.size ∧ p.f1.size ≤ 200) :
  ((wholeB (upX b key ps) (b.f4 + 1) (pcs ps) 1099511627775).2.2.2 = 0 ∧ (∃ v,getB (wholeB (upX b key ps) (b.f4 + 1) (pcs ps) 1099511627775).1 key = (v,0) ∧ v.f1 = catP ps) ∧ (wholeB (upX b key ps) (b.f4 + 1) (pcs ps) 1099511627775).1.f3.length = b.f3.length) ∨
  ((wholeB (upX b key ps) (b.f4 + 1) (pcs ps) 1099511627775).1 = upX b key ps ∧ ((wholeB (upX b key ps) (b.f4 + 1) (pcs ps) 1099511627775).2.2.2 = 6 ∨ ((wholeB (upX b key ps) (b.f4 + 1) (pcs ps) 1099511627775).2.2.2 = 1 ∧ ps = []))):=by
 have hc:=(bucket_at hb).2.2.1
 have hc0:=(bucket_at hb0).2.2.1
 have hps : posU (upX b key ps).f3 (b.f4 + 1) = some b.f3.length:=pos_x (u:=⟨b.f4 + 1,key,ps⟩) (up_ids hb0)
 have hg : (upX b key ps).f3.getD b.f3.length z101 = ⟨b.f4 + 1,key,ps⟩:=by
  unfold upX
  rw [List.getD_eq_getElem?_getD,List.getElem?_append_right (Nat.le_refl _)]
  simp
 have hf : findR (upX b key ps).f3 (b.f4 + 1) = (⟨b.f4 + 1,key,ps⟩,0):=by
  unfold findR
  rw [if_neg (by rw [hc];simp),hps]
  simp only [hg]
 have ha : abortR (upX b key ps).f3 (b.f4 + 1) = (b.f3,0):=by
  unfold abortR
  rw [if_neg (by rw [hc];simp),hps]
  show (delL (b.f3 ++ [_]) b.f3.length,(0 : Int)) = _
  unfold delL
  rw [List.take_left' rfl,List.drop_eq_nil_of_le (by simp),List.append_nil]
 have hfi : fineB (b.f4 + 1) key ps = true:=(check_mem hc).2 ⟨b.f4 + 1,key,ps⟩ (by unfold upX;simp)
 have hlt : b.f4 + 1 ≤ 281474976710655:=(head_le hb).1
 have hbm : bucketB (⟨b.f0,b.f1,b.f2,b.f3,b.f4 + 1⟩ : S26) = true:=upl_bucket hb0 hc0 (bucket_at hb0).2.2.2.1 (by omega) hlt (fun u hu=>by have:=upd_le hb0 u hu;omega)
 have ho : openR (upX b key ps) anyK = 0:=by
  unfold openR
  rw [if_neg (by rw [hb,show keyB anyK = true from by decide];simp)]
 by_cases h0 : (wholeB (upX b key ps) (b.f4 + 1) (pcs ps) 1099511627775).2.2.2 = 0
 ·left
  refine ⟨h0,?_⟩
  have hst:=whole_step hb (by show (0 : Int) ≤ b.f4 + 1;omega) (b.f4 + 1) (pcs ps) 1099511627775 false
  have hbr:=hst.1
  change bucketB (wholeB (upX b key ps) (b.f4 + 1) (pcs ps) 1099511627775).1 = true at hbr
  rw [getB_of hbr hk]
  clear hst hbr
  unfold wholeB at h0 ⊢
  simp only [hf,ha,ho,whole_r hfi h8 hz] at h0 ⊢
  by_cases hl : ps.length = 0
  ·rw [if_pos hl] at h0
   have : noR (!((1 : Int) == 0)) 1 (noR (!((0 : Int) == 0)) 0 0) = 1:=by decide
   rw [this,if_neg (by decide)] at h0
   exact absurd (show (1 : Int) = 0 from h0) (by decide)
  ·simp only [if_neg hl] at h0 ⊢
   have : noR (!((0 : Int) == 0)) 0 (noR (!((0 : Int) == 0)) 0 0) = 0:=by decide
   rw [this,if_pos rfl] at h0 ⊢
   generalize hL : laidR (⟨(upX b key ps).f0,(upX b key ps).f1,(upX b key ps).f2,b.f3,(upX b key ps).f4⟩ : S26) key (fun l id=>putV l (upX b key ps).f1 ⟨id,catP ps,false,1099511627775⟩) = L at h0 ⊢
   have hz0 : L.2.2 = 0:=by
    by_cases c : L.2.2 = 0
    ·exact c
    ·rw [if_neg c] at h0;exact absurd h0 c
   rw [if_pos hz0]
   have hok:=laid_ok (by rw [hL];exact hz0)
   rw [hL] at hok
   obtain ⟨k1,k2,k3,k4,k5,k6,k7,k8⟩:=hok
   obtain ⟨p1,_,_,_,_,_,p7,_⟩:=putV_ok k3
   have hf3 : L.1.f3 = b.f3:=by rw [k8]
   have hget : ∃ y r,getE L.1.f2 key = y :: r ∧ y.f1 = catP ps ∧ y.f2 = false:=by
    rw [k8]
    change ∃ y r,getE (putL b.f2 key _) key = y :: r ∧ _
    rw [getE_put (bucket_ix hb0).1,p7]
    by_cases hs : (upX b key ps).f1 = 1
    ·rw [if_pos hs];exact ⟨_,_,rfl,rfl,rfl⟩
    ·rw [if_neg hs];exact ⟨_,_,rfl,rfl,rfl⟩
   obtain ⟨y,r,g1,g2,g3⟩:=hget
   refine ⟨?_,by show L.1.f3.length = _;rw [hf3]⟩
   show ∃ v,(if (getE L.1.f2 key).length = 0 then (z47,(4 : Int)) else ((getE L.1.f2 key).getD 0 z47,if ((getE L.1.f2 key).getD 0 z47).f2 = true then 13 else 0)) = (v,0) ∧ v.f1 = catP ps
   rw [g1,if_neg (by simp)]
   exact ⟨y,by show (y,if y.f2 = true then (13 : Int) else 0) = (y,0);rw [g3];rfl,g2⟩
 ·right
  refine ⟨(whole_no h0).1,?_⟩
  unfold wholeB at h0 ⊢
  simp only [hf,ha,ho,whole_r hfi h8 hz] at h0 ⊢
  by_cases hl : ps.length = 0
  ·right
   rw [if_pos hl] at h0 ⊢
   have : noR (!((1 : Int) == 0)) 1 (noR (!((0 : Int) == 0)) 0 0) = 1:=by decide
   rw [this,if_neg (by decide)]
   exact ⟨rfl,List.length_eq_zero_iff.1 hl⟩
  ·left
   simp only [if_neg hl] at h0 ⊢
   have : noR (!((0 : Int) == 0)) 0 (noR (!((0 : Int) == 0)) 0 0) = 0:=by decide
   rw [this,if_pos rfl] at h0 ⊢
   have hd : (catP ps).size ≤ 2000:=by have:=cat_size (fun p hp=>(hz p hp).2);omega
   have h06:=laid_06 (key:=key) (data:=catP ps) hbm (by show (0 : Int) ≤ b.f4 + 1;omega) hk hd
   change E06 (laidR (⟨(upX b key ps).f0,(upX b key ps).f1,(upX b key ps).f2,b.f3,(upX b key ps).f4⟩ : S26) key (fun l id=>putV l (upX b key ps).f1 ⟨id,catP ps,false,1099511627775⟩)).2.2 at h06
   generalize laidR (⟨(upX b key ps).f0,(upX b key ps).f1,(upX b key ps).f2,b.f3,(upX b key ps).f4⟩ : S26) key (fun l id=>putV l (upX b key ps).f1 ⟨id,catP ps,false,1099511627775⟩) = L at h0 h06 ⊢
   rcases h06 with c | c
   ·rw [if_pos c] at h0;exact absurd rfl h0
   ·rw [if_neg (by rw [c];decide)];exact c
end
section
theorem wrap32 (n : Int) : IntKind.u32.wrap n = n % 4294967296:=by simp [IntKind.wrap,IntKind.bits,IntKind.signed]
theorem wrap8 (n : Int) : IntKind.u8.wrap n = n % 256:=by simp [IntKind.wrap,IntKind.bits,IntKind.signed]
theorem of32 (a : Nat) (h : a < 4294967296) : (BitVec.ofInt 32 (a : Int)).toNat = a:=by
 rw [BitVec.ofInt_natCast,BitVec.toNat_ofNat];exact Nat.mod_eq_of_lt (by omega)
theorem of8 (a : Nat) (h : a < 256) : (BitVec.ofInt 8 (a : Int)).toNat = a:=by
 rw [BitVec.ofInt_natCast,BitVec.toNat_ofNat];exact Nat.mod_eq_of_lt (by omega)
theorem xor32 (a b : Nat) (ha : a < 4294967296) (hb : b < 4294967296) : bits .xor .u32 (a : Int) (b : Int) = ((a ^^^ b : Nat) : Int) ∧ a ^^^ b < 4294967296:=by
 have hx : a ^^^ b < 2 ^ 32:=Nat.xor_lt_two_pow (by omega) (by omega)
 refine ⟨?_,by omega⟩
 show IntKind.u32.wrap ((BitVec.ofInt 32 (a : Int) ^^^ BitVec.ofInt 32 (b : Int)).toNat : Int) = _
 rw [BitVec.toNat_xor,of32 a ha,of32 b hb,wrap32]
 omega
theorem xor8 (a b : Nat) (ha : a < 256) (hb : b < 256) : bits .xor .u8 (a : Int) (b : Int) = ((a ^^^ b : Nat) : Int) ∧ a ^^^ b < 256:=by
 have hx : a ^^^ b < 2 ^ 8:=Nat.xor_lt_two_pow (by omega) (by omega)
 refine ⟨?_,by omega⟩
 show IntKind.u8.wrap ((BitVec.ofInt 8 (a : Int) ^^^ BitVec.ofInt 8 (b : Int)).toNat : Int) = _
 rw [BitVec.toNat_xor,of8 a ha,of8 b hb,wrap8]
 omega
theorem and32 (a : Nat) (ha : a < 4294967296) : bits .and .u32 (a : Int) 1 = ((a % 2 : Nat) : Int):=by
 show IntKind.u32.wrap ((BitVec.ofInt 32 (a : Int) &&& BitVec.ofInt 32 ((1 : Nat) : Int)).toNat : Int) = _
 rw [BitVec.toNat_and,of32 a ha,of32 1 (by omega),wrap32,Nat.and_one_is_mod]
 omega
def nstep (c : Nat) : Nat:=c / 2 ^^^ (if c % 2 = 1 then 2197175160 else 0)
theorem nstep_lt (c : Nat) (h : c < 4294967296) : nstep c < 4294967296:=by
 have : nstep c < 2 ^ 32:=Nat.xor_lt_two_pow (by omega) (by split <;> omega)
 omega
theorem tone_nat (c : Nat) (h : c < 4294967296) : tone (c : Int) = (nstep c : Int):=by
 unfold tone nstep
 rw [and32 c h,show ((c : Int) / 2) = ((c / 2 : Nat) : Int) by omega]
 by_cases hc : c % 2 = 1
 ·rw [hc,if_pos rfl]
  exact (xor32 (c / 2) 2197175160 (by omega) (by omega)).1
 ·rw [show c % 2 = 0 by omega,if_neg (by decide)]
  exact (xor32 (c / 2) 0 (by omega) (by omega)).1
def ntimes : Nat → Nat → Nat
 | 0,x=>x
 | m + 1,x=>nstep (ntimes m x)
theorem ntimes_lt (m c : Nat) (h : c < 4294967296) : ntimes m c < 4294967296:=by
 induction m with
 | zero=>exact h
 | succ m ih=>exact nstep_lt _ ih
theorem ttimes_nat (m c : Nat) (h : c < 4294967296) : ttimes m (c : Int) = (ntimes m c : Int):=by
 induction m with
 | zero=>rfl
 | succ m ih =>
  show tone (ttimes m c) = _
  rw [ih];exact tone_nat _ (ntimes_lt m c h)
theorem nstep_xor (a b : Nat) : nstep (a ^^^ b) = nstep a ^^^ nstep b:=by
 unfold nstep
 have h1 : (a ^^^ b) / 2 = a / 2 ^^^ b / 2:=Nat.xor_div_two
 have h2 : (a ^^^ b) % 2 = (a % 2 ^^^ b % 2) % 2:=by
  have:=Nat.xor_mod_two_pow (a:=a) (b:=b) (n:=1)
  have e : (a % 2 ^^^ b % 2) < 2:=by
   have : a % 2 ^^^ b % 2 < 2 ^ 1:=Nat.xor_lt_two_pow (by omega) (by omega)
   omega
  rw [Nat.mod_eq_of_lt e];simpa using this
 rw [h1,h2]
 have ha : a % 2 = 0 ∨ a % 2 = 1:=by omega
 have hb : b % 2 = 0 ∨ b % 2 = 1:=by omega
 generalize a / 2 = p
 generalize b / 2 = q
 rcases ha with ha | ha <;> rcases hb with hb | hb <;> rw [ha,hb]
 ·simp
 ·simp [Nat.xor_assoc]
 ·simp only [show (1 ^^^ 0) % 2 = 1 from rfl,if_true]
  rw [Nat.xor_assoc,Nat.xor_assoc,Nat.xor_comm q];simp
 ·simp only [show (1 ^^^ 1) % 2 = 0 from rfl,if_true]
  rw [if_neg (by decide),Nat.xor_zero,Nat.xor_assoc,← Nat.xor_assoc 2197175160 q,Nat.xor_comm 2197175160 q,Nat.xor_assoc q,Nat.xor_self,Nat.xor_zero]
theorem ntimes_xor (m a b : Nat) : ntimes m (a ^^^ b) = ntimes m a ^^^ ntimes m b:=by
 induction m with
 | zero=>rfl
 | succ m ih=>show nstep (ntimes m (a ^^^ b)) = _;rw [ih,nstep_xor];rfl
theorem nstep_even (z : Nat) : nstep (2 * z) = z:=by
 unfold nstep
 rw [show 2 * z / 2 = z by omega,if_neg (by omega),Nat.xor_zero]
theorem ntimes_high (m z : Nat) : ntimes m (z * 2 ^ m) = z:=by
 induction m generalizing z with
 | zero=>simp [ntimes]
 | succ m ih =>
  show nstep (ntimes m (z * 2 ^ (m + 1))) = z
  rw [show z * 2 ^ (m + 1) = (2 * z) * 2 ^ m by rw [Nat.pow_succ];ac_rfl,ih,nstep_even]
theorem split256 (y : Nat) : y = (y / 256 * 2 ^ 8) ^^^ (y % 256):=by
 apply Nat.eq_of_testBit_eq
 intro i
 rw [Nat.testBit_xor,Nat.testBit_mul_two_pow,show (256 : Nat) = 2 ^ 8 from rfl,Nat.testBit_div_two_pow,Nat.testBit_mod_two_pow]
 by_cases h : i < 8
 ·rw [decide_eq_true h,decide_eq_false (show ¬ i ≥ 8 by omega)];simp
 ·rw [decide_eq_false h,decide_eq_true (show i ≥ 8 by omega),show i - 8 + 8 = i by omega];simp
theorem ntimes8 (y : Nat) : ntimes 8 y = ntimes 8 (y % 256) ^^^ (y / 256):=by
 conv=>lhs;rw [split256 y,ntimes_xor,ntimes_high]
 exact Nat.xor_comm _ _
/-- One octet: the register bit by bit. -/
def nbyte (c x : Nat) : Nat:=ntimes 8 (c ^^^ x)
theorem nbyte_lt (c x : Nat) (h : c < 4294967296) (hx : x < 256) : nbyte c x < 4294967296:=ntimes_lt 8 _ (xor32 c x h (by omega)).2
theorem tagStep_nat (c x : Nat) (h : c < 4294967296) (hx : x < 256) : tagStep (c : Int) (x : Int) = (nbyte c x : Int):=by
 have h8:=xor8 (c % 256) x (by omega) hx
 have hmod : (c ^^^ x) % 256 = c % 256 ^^^ x:=by
  have:=Nat.xor_mod_two_pow (a:=c) (b:=x) (n:=8)
  rw [show (2 : Nat) ^ 8 = 256 from rfl,Nat.mod_eq_of_lt hx] at this
  exact this
 have hdiv : (c ^^^ x) / 256 = c / 256:=by
  have:=Nat.xor_div_two_pow (a:=c) (b:=x) (n:=8)
  rw [show (2 : Nat) ^ 8 = 256 from rfl,Nat.div_eq_of_lt hx,Nat.xor_zero] at this
  exact this
 unfold tagStep nbyte
 rw [show (c : Int) % 256 = ((c % 256 : Nat) : Int) by omega,h8.1,Int.toNat_natCast,show (c : Int) / 256 = ((c / 256 : Nat) : Int) by omega,ntimes8,hmod,hdiv]
 unfold tab
 rw [ttimes_nat 8 _ (by omega)]
 exact (xor32 _ _ (ntimes_lt 8 _ (by omega)) (by omega)).1
def nrun (c : Nat) (l : List UInt8) : Nat:=l.foldl (fun c x=>nbyte c x.toNat) c
theorem tagRun_nat (l : List UInt8) (c : Nat) (h : c < 4294967296) : tagRun (c : Int) l = (nrun c l : Int) ∧ nrun c l < 4294967296:=by
 induction l generalizing c with
 | nil=>exact ⟨rfl,h⟩
 | cons x l ih =>
  have hx : x.toNat < 256:=x.toNat_lt
  have:=ih (nbyte c x.toNat) (nbyte_lt c _ h hx)
  refine ⟨?_,this.2⟩
  show tagRun (tagStep (c : Int) (x.toNat : Int)) l = _
  rw [tagStep_nat c _ h hx]
  exact this.1
theorem not32 (t : Nat) (h : t < 4294967296) : tagNot (t : Int) = ((4294967295 - t : Nat) : Int):=by
 unfold tagNot
 rw [show IntKind.u32.max = ((4294967295 : Nat) : Int) from rfl,(xor32 4294967295 t (by omega) h).1]
 congr 1
 apply Nat.eq_of_testBit_eq
 intro i
 rw [Nat.testBit_xor,show (4294967295 : Nat) = 2 ^ 32 - 1 from rfl,Nat.testBit_two_pow_sub_one,show 2 ^ 32 - 1 - t = 2 ^ 32 - (t + 1) by omega,Nat.testBit_two_pow_sub_succ (by omega)]
 by_cases hi : i < 32
 ·simp [hi]
 ·simp [hi]
  exact Nat.testBit_lt_two_pow (Nat.lt_of_lt_of_le (show t < 2 ^ 32 by omega) (Nat.pow_le_pow_right (by omega) (by omega)))
theorem tagOf_nat (s : ByteArray) : tagOf s = ((4294967295 - nrun 4294967295 s.data.toList : Nat) : Int):=by
 unfold tagOf tagMore
 rw [show (0 : Int) = ((0 : Nat) : Int) from rfl,not32 0 (by omega),(tagRun_nat _ _ (by omega)).1]
 exact not32 _ (tagRun_nat _ _ (by omega)).2
theorem ntimes_in (m c : Nat) : ntimes (m + 1) c = ntimes m (nstep c):=by
 induction m with
 | zero=>rfl
 | succ m ih=>show nstep (ntimes (m + 1) c) = nstep (ntimes m (nstep c));rw [ih]
theorem ref_step_l0 (m : Nat) : ∀ (k i c : Nat),m < k → i + m = 8 → c < 4294967296 → cellarerref04_step.l0 k (c : Int) (i : Int) = some ((ntimes m c : Nat) : Int):=by
 induction m with
 | zero =>
  intro k i c hk hi hc
  obtain ⟨k,rfl⟩ : ∃ j,k = j + 1:=⟨k - 1,by omega⟩
  simp only [cellarerref04_step.l0]
  rw [if_neg (by omega)];rfl
 | succ m ih =>
  intro k i c hk hi hc
  obtain ⟨k,rfl⟩ : ∃ j,k = j + 1:=⟨k - 1,by omega⟩
  have hw : wrap64 ((i : Int) + 1) = ((i + 1 : Nat) : Int):=by rw [wrap64_of (by omega) (by omega)];omega
  have hm : Int.tmod (c : Int) 2 = ((c % 2 : Nat) : Int):=by rw [Int.tmod_eq_emod_of_nonneg (by omega)];omega
  have hd : (Int.tdiv (c : Int) 2) % 4294967296 = ((c / 2 : Nat) : Int):=by rw [Int.tdiv_eq_ediv_of_nonneg (by omega)];omega
  simp only [cellarerref04_step.l0]
  rw [if_pos (by omega),hm,hd,hw,ntimes_in]
  by_cases h : c % 2 = 1
  ·rw [if_pos (by omega),show (2197175160 : Int) = ((2197175160 : Nat) : Int) from rfl,(xor32 (c / 2) 2197175160 (by omega) (by omega)).1,ih k (i + 1) _ (by omega) (by omega) (xor32 (c / 2) 2197175160 (by omega) (by omega)).2]
   unfold nstep;rw [if_pos h]
  ·rw [if_neg (by omega),ih k (i + 1) _ (by omega) (by omega) (by omega)]
   unfold nstep;rw [if_neg h,Nat.xor_zero]
theorem ref_step (k c x : Nat) (hk : 8 < k) (hc : c < 4294967296) (hx : x < 256) : cellarerref04_step.f k (c : Int) (x : Int) = some ((nbyte c x : Nat) : Int):=by
 unfold cellarerref04_step.f
 rw [show ((x : Int)) % 4294967296 = ((x : Nat) : Int) by omega,(xor32 c x hc (by omega)).1]
 exact ref_step_l0 8 k 0 _ hk rfl (xor32 c x hc (by omega)).2
theorem ref_of_l0 (s : ByteArray) (hs : (s.size : Int) ≤ 9223372036854775807) : ∀ (d k i c : Nat),d + 9 < k → i + d = s.size → c < 4294967296 → cellarerref04_Of.l0 k s (c : Int) (i : Int) = some ((4294967295 - nrun c (s.data.toList.drop i) : Nat) : Int):=by
 intro d
 induction d with
 | zero =>
  intro k i c hk hi hc
  obtain ⟨k,rfl⟩ : ∃ j,k = j + 1:=⟨k - 1,by omega⟩
  simp only [cellarerref04_Of.l0]
  rw [if_neg (by omega),List.drop_eq_nil_of_le (by show s.data.toList.length ≤ i;rw [Array.length_toList];show s.size ≤ i;omega)]
  show some _ = some _
  congr 1
  show (4294967295 - (c : Int)) % 4294967296 = ((4294967295 - c : Nat) : Int)
  omega
 | succ d ih =>
  intro k i c hk hi hc
  obtain ⟨k,rfl⟩ : ∃ j,k = j + 1:=⟨k - 1,by omega⟩
  have hw : wrap64 ((i : Int) + 1) = ((i + 1 : Nat) : Int):=by rw [wrap64_of (by omega) (by omega)];omega
  have hl : i < s.data.toList.length:=by rw [Array.length_toList];show i < s.size;omega
  have hb : bt s (i : Int) = ((s.data.toList[i].toNat : Nat) : Int):=by
   rw [← bt_at s (i : Int) (by rw [Int.toNat_natCast];omega)]
   rfl
  simp only [cellarerref04_Of.l0]
  rw [if_pos (by omega),if_pos (by omega),hb,ref_step k c _ (by omega) hc (UInt8.toNat_lt _),Option.bind_some,hw,ih k (i + 1) _ (by omega) (by omega) (nbyte_lt c _ hc (UInt8.toNat_lt _)),List.drop_eq_getElem_cons hl]
  rfl
theorem ref_of (s : ByteArray) (hs : (s.size : Int) ≤ 9223372036854775807) (k : Nat) (hk : s.size + 9 < k) : cellarerref04_Of.f k s = some (tagOf s):=by
 unfold cellarerref04_Of.f
 rw [tagOf_nat]
 exact ref_of_l0 s hs s.size k 0 4294967295 hk (by omega) (by omega)
end
section
open Go.WideMaps Go.Maps
attribute [local go_sem] Oper.semAt_some
def fewKey (s : ByteArray) : ByteArray:=if (s.size : Int) > 80 then s.extract 0 80 else s
def cutP (p : S40) : S40:=⟨p.f0,if (p.f1.size : Int) > 2001 then p.f1.extract 0 2001 else p.f1⟩
def cutU (u : S101) : S101:=⟨u.f0,fewKey u.f1,(u.f2.take 31).map cutP⟩
def fewUs (l : List S101) : List S101:=(l.take 11).map cutU
def cutV (v : S47) : S47:=⟨v.f0,if (v.f1.size : Int) > 2001 then v.f1.extract 0 2001 else v.f1,v.f2,v.f3⟩
def fewV (l : List S47) : List S47:=(l.take 21).map cutV
def cutE (x : S56) : S56:=⟨fewKey x.f0,fewV x.f1⟩
def fewE (l : List S56) : List S56:=(l.take 61).map cutE
def cutB (b : S26) : S26:=⟨fewKey b.f0,b.f1,fewE b.f2,fewUs b.f3,b.f4⟩
theorem few_key (s : ByteArray) : cellarerlaw01_Few.f s = some (fewKey s):=by
 unfold cellarerlaw01_Few.f fewKey
 by_cases h : (s.size : Int) > 80
 ·rw [if_pos h,if_pos (by decide),if_pos (by omega),if_pos h]
 ·rw [if_neg h,if_neg h]
theorem one_part (p : S40) : cellarerlaw08_One.f p.f0 p.f1 = some ((cutP p).f0,(cutP p).f1):=by
 unfold cellarerlaw08_One.f cutP
 by_cases h : (p.f1.size : Int) > 2001
 ·rw [if_pos h,if_pos (by decide),if_pos (by omega)];simp only [if_pos h]
 ·rw [if_neg h];simp only [if_neg h]
theorem one_v (v : S47) : cellarerlaw05_One.f v.f0 v.f1 v.f2 v.f3 = some ((cutV v).f0,(cutV v).f1,(cutV v).f2,(cutV v).f3):=by
 unfold cellarerlaw05_One.f cutV
 by_cases h : (v.f1.size : Int) > 2001
 ·rw [if_pos h,if_pos (by decide),if_pos (by omega)];simp only [if_pos h]
 ·rw [if_neg h];simp only [if_neg h]
theorem belowA (w : World) (o : Obj) : Below w.heap.size w (w.alloc o):=(Below.refl _ _).alloc (Nat.le_refl _) o
theorem tk_snoc {α β : Type} (f : α → β) (l : List α) (k : Nat) (h : k < l.length) : (l.take (k + 1)).map f = (l.take k).map f ++ [f l[k]]:=by
 rw [List.take_add_one,List.getElem?_eq_getElem h,List.map_append];rfl
theorem tk_end {α β : Type} (f : α → β) (l : List α) (k m : Nat) (h : k = l.length ∨ k = m) (hm : k ≤ m) : (l.take k).map f = (l.take m).map f:=by
 rcases h with rfl | rfl
 ·rw [List.take_length,List.take_of_length_le hm]
 ·rfl
theorem fewV.walk (A : Option Addr) (c : Nat) (l : List S47) (w : World) (hr : Kd.C k47 w A l.length l) :
  Calls Tryz.prog 75 #[.slice A l.length c] w fun e w'=>∃ v,e = .returned v ∧ Kd.R k47 47 w' w.heap.size (fun _=>True) v (fewV l) ∧ Below w.heap.size w w':=by
 have HR:=zh hr
 have hlen : (l.length : Int) ≤ 9223372036854775807:=by have:=hr.2.1;omega
 have HB:=zh (Below.refl w.heap.size w)
 clear hr
 go_enter Tryz.func75,Tryz.ntmps75
 go_wp2
 go_loopw [3,4] (fun v3 v4 wr=>∃ k : Nat,v4 = .int .i64 k ∧ k ≤ l.length ∧ k ≤ 21 ∧ Hid (Kd.R k47 47 wr w.heap.size (fun _=>True) v3 ((l.take k).map cutV)) ∧ Hid (Below w.heap.size w wr)) (fun _ v4 _=>l.length - (intOf v4).toNat)
 case atStart=>exact ⟨0,rfl,Nat.zero_le _,by decide,Kd.R_nil _ _ _ _ _,HB⟩
 case round =>
  obtain ⟨k,rfl,hk,hkm,HO,HB⟩:=hrel
  by_cases hlt : k < l.length
  ·by_cases hm : k < 21
   ·have p0 : (0 : Int) ≤ (k : Int):=by omega
    have p1 : (k : Int) < (l.length : Int):=by omega
    have p2 : (k : Int) < 21:=by omega
    have HL:=zh hm
    have HTS:=zh (tk_snoc cutV l k hlt)
    obtain ⟨ad,e',d0,d1,d2,d3⟩:=atVersion HR.out HB.out k hlt
    subst e'
    generalize l[k] = x at *
    go_wp2_with (first
     | (go_at_call 28;go_must (refine (cellarerlaw05_One.calls _ _ _ _ _ _ _ _ _ (one_v x)).mono ?_;rintro e w7 ⟨rfl,hb⟩;have HO:=zh (Kd.R_below HO.out hb);have HB:=keepB HB hb;clear hb))
     | ((with_reducible refine gate_builtin (b:=.append) (xs:=#[.tmp 15,.tmp 21]) rfl ?_);at_builtin;go_must (refine Kd.R_append k47 (w0:=w) w.heap.size rfl (.tmp 15) (.tmp 21) 54 47 (.agg #[(.int .u64 0),(.string ⟨#[]⟩),(.bool false),(.int .i64 0)]) 40 rfl Tryz.underlying54 info47 rfl (by decide) (by decide) _ _ (cutV x : S47) [.int .u64 (cutV x).f0,.string (cutV x).f1,.bool (cutV x).f2,.int .i64 (cutV x).f3] (fun _=>True) (fun _=>False) rfl rfl (k47_mkM _ _ _ (cutV x)) (fun _ hk=>hk.elim) (fun _ _=>trivial) HO.out HB.out HB.out.size (by have:=HL.out;rw [List.length_map,List.length_take];omega) ?_;intro v8 w8 ho hb hg hat;rw [← HTS.out] at ho;have HO:=zh ho;have HB:=zh hb;clear ho hb hg hat)))
    go_roundw
    case rel=>exact ⟨k + 1,by go_num,hlt,hm,HO,HB⟩
    case measure=>simp [intOf];omega
   ·obtain rfl : k = 21:=by omega
    have p1 : (21 : Int) < (l.length : Int):=by omega
    have HE:=HO.out
    rw [tk_end cutV l _ 21 (Or.inr rfl) hkm] at HE
    go_wp2
    go_ret
    exact ⟨_,rfl,HE,HB.out⟩
  ·obtain rfl : k = l.length:=by omega
   have HE:=HO.out
   rw [tk_end cutV l _ 21 (Or.inl rfl) hkm] at HE
   go_wp2
   go_ret
   exact ⟨_,rfl,HE,HB.out⟩
theorem fewE.walk (A : Option Addr) (c : Nat) (l : List S56) (w : World) (hr : Kd.C k56 w A l.length l) :
  Calls Tryz.prog 30 #[.slice A l.length c] w fun e w'=>∃ v,e = .returned v ∧ Kd.R k56 56 w' w.heap.size (fun _=>True) v (fewE l) ∧ Below w.heap.size w w':=by
 have HR:=zh hr
 have hlen : (l.length : Int) ≤ 9223372036854775807:=by have:=hr.2.1;omega
 have HB:=zh (Below.refl w.heap.size w)
 clear hr
 go_enter Tryz.func30,Tryz.ntmps30
 go_wp2
 go_loopw [3,4] (fun v3 v4 wr=>∃ k : Nat,v4 = .int .i64 k ∧ k ≤ l.length ∧ k ≤ 61 ∧ Hid (Kd.R k56 56 wr w.heap.size (fun _=>True) v3 ((l.take k).map cutE)) ∧ Hid (Below w.heap.size w wr)) (fun _ v4 _=>l.length - (intOf v4).toNat)
 case atStart=>exact ⟨0,rfl,Nat.zero_le _,by decide,Kd.R_nil _ _ _ _ _,HB⟩
 case round =>
  obtain ⟨k,rfl,hk,hkm,HO,HB⟩:=hrel
  by_cases hlt : k < l.length
  ·by_cases hm : k < 61
   ·have p0 : (0 : Int) ≤ (k : Int):=by omega
    have p1 : (k : Int) < (l.length : Int):=by omega
    have p2 : (k : Int) < 61:=by omega
    have HL:=zh hm
    have HTS:=zh (tk_snoc cutE l k hlt)
    obtain ⟨ad,A1,c1,e',d0,d1,hle1,hC1⟩:=atEntry HR.out (Below.refl _ _) k hlt
    subst e'
    generalize l[k] = x at *
    go_wp2
    have HO:=zh (Kd.R_drew HO.out)
    refine wp_region_held_drew (S:=fun W=>Below w.heap.size w W) (by kernel_rfl) HB.out.drew (fun hHeld=>?_)
    clear HB
    refine zt 0 (v:=?v0E) ?y0E ?r0E
    case y0E=>(intro w' h;go_simp;try with_reducible rfl)
    try simp only [zA,zB,zC,Act.put,zD,zE,zF]
    refine zt 1 (v:=?v1E) ?y1E ?r1E
    case y1E=>(intro w' h;go_simp;try with_reducible rfl)
    try simp only [zA,zB,zC,Act.put,zD,zE,zF]
    refine zt 2 (v:=?v2E) ?y2E ?r2E
    case y2E=>(intro w' h;go_simp;try with_reducible rfl)
    try simp only [zA,zB,zC,Act.put,zD,zE,zF]
    refine zt 3 (v:=?v3E) ?y3E ?r3E
    case y3E=>(intro w' h;go_simp;try with_reducible rfl)
    try simp only [zA,zB,zC,Act.put,zD,zE,zF]
    refine zt 4 (v:=?v4E) ?y4E ?r4E
    case y4E=>(intro w' h;go_simp;try with_reducible rfl)
    try simp only [zA,zB,zC,Act.put,zD,zE,zF]
    refine zt 5 (v:=?v5E) ?y5E ?r5E
    case y5E=>(intro w' h;have a0:=keepc h d0;go_simp;try with_reducible rfl)
    try simp only [zA,zB,zC,Act.put,zD,zE,zF]
    refine zt 7 (v:=?v7E) ?y7E ?r7E
    case y7E=>(intro w' h;go_simp;try with_reducible rfl)
    try simp only [zA,zB,zC,Act.put,zD,zE,zF]
    refine zt 8 (v:=?v8E) ?y8E ?r8E
    case y8E=>(intro w' h;go_simp;try with_reducible rfl)
    try simp only [zA,zB,zC,Act.put,zD,zE,zF]
    refine zt 9 (v:=?v9E) ?y9E ?r9E
    case y9E=>(intro w' h;go_simp;try with_reducible rfl)
    try simp only [zA,zB,zC,Act.put,zD,zE,zF]
    refine zt 10 (v:=?v10E) ?y10E ?r10E
    case y10E=>(intro w' h;go_simp;try with_reducible rfl)
    try simp only [zA,zB,zC,Act.put,zD,zE,zF]
    refine zt 11 (v:=?v11E) ?y11E ?r11E
    case y11E=>(intro w' h;have a1:=keepc h d1;go_simp;try with_reducible rfl)
    try simp only [zA,zB,zC,Act.put,zD,zE,zF]
    refine wpAnyH_ready (rs:=[6]) (by kernel_rfl) (by simp) ?_
    refine AllReadyH.cons (o:=_) rfl (fun K hK=>?_) AllReadyH.nil
    rw [if_pos (by rfl)]
    go_simp
    refine (cellarerlaw01_Few.calls x.f0 _ _ (few_key x.f0)).mono ?_
    rintro e8 w8 ⟨rfl,hd⟩
    have hb:=outD hd
    have HO:=zh (Kd.R_below HO.out hb)
    clear hd
    refine hK.out _ _ (Below.trans hHeld (hb.mono (Below.size hHeld))) (fun hHeld=>?_)
    clear hK K hb
    try simp only [zA,zB,zC,Act.put,zD,zE,zF]
    refine wpAnyH_ready (rs:=[12]) (by kernel_rfl) (by simp) ?_
    refine AllReadyH.cons (o:=_) rfl (fun K hK=>?_) AllReadyH.nil
    rw [if_pos (by rfl)]
    go_simp
    refine (fewV.walk A1 c1 x.f1 _ (Kd.C_below hC1 hHeld)).mono ?_
    rintro e8 w8 ⟨vv,rfl,hv,hb⟩
    obtain ⟨Av,cv,rfl⟩:=Kd.R_slice hv
    have HNE:=zh (fun q hq=>((Kd.R_bound HO.out).1 q hq).2.2.1)
    have HV:=zh (Kd.R_lower (Kd.R_mono (Kd.R_bound hv) (fun q hq=>hq.2.1)) (Below.size hHeld))
    have HO:=zh (Kd.R_below HO.out hb)
    clear hv
    refine hK.out _ _ (Below.trans hHeld (hb.mono (Below.size hHeld))) (fun hHeld=>?_)
    clear hK K hb
    try simp only [zA,zB,zC,Act.put,zD,zE,zF]
    refine zt 13 (v:=?v13E) ?y13E ?r13E
    case y13E=>(intro w' h;go_simp;try with_reducible rfl)
    try simp only [zA,zB,zC,Act.put,zD,zE,zF]
    refine wpAnyH_ready (rs:=[14]) (by kernel_rfl) (by simp) ?_
    refine AllReadyH.cons (o:=_) rfl (fun K hK=>?_) AllReadyH.nil
    rw [if_pos (by rfl)]
    go_simp
    have hH0:=hHeld
    refine hK.out _ _ (Below.trans hHeld ((belowA _ _).mono (Below.size hHeld))) (fun hHeld=>?_)
    clear hK K
    try simp only [zA,zB,zC,Act.put,zD,zE,zF]
    refine wpAnyH_ready (rs:=[15]) (by kernel_rfl) (by simp) ?_
    refine AllReadyH.cons (o:=_) rfl (fun K hK=>?_) AllReadyH.nil
    refine Kd.R_append_step k56 (w0:=w) w.heap.size (by rfl) (.tmp 15) (.tmp 29) 22 56 (.agg #[(.string ⟨#[]⟩),(.slice none 0 0)]) 40 rfl Tryz.underlying22 info56 rfl (by decide) (by decide) _ _ (cutE x) [.string (fewKey x.f0),.slice Av (fewV x.f1).length cv] (fun _=>True) _ rfl rfl (k56_mkM _ _ _ (cutE x) HV.out) (fun q hq=>⟨trivial,fun e=>by have:=HNE.out q e.symm;omega⟩) (fun _ _=>trivial) HO.out hH0 (Below.size hH0) (by have:=HL.out;rw [List.length_map,List.length_take];omega) ?_
    intro v9 w9 ho hb hg hat
    rw [← HTS.out] at ho
    refine hK.out _ _ hb (fun hHeld=>?_)
    have HO:=zh ho
    clear hK K ho hb hg hat hH0
    try simp only [zA,zB,zC,Act.put,zD,zE,zF]
    refine zt 16 (v:=?v16E) ?y16E ?r16E
    case y16E=>(intro w' h;go_simp;try with_reducible rfl)
    try simp only [zA,zB,zC,Act.put,zD,zE,zF]
    refine wpAnyH_done (by kernel_rfl) ?_ _
    have HB : Hid (Below w.heap.size w w9):=hHeld
    go_wp2
    go_roundw
    case rel=>exact ⟨k + 1,by go_num,hlt,hm,HO,HB⟩
    case measure=>simp [intOf];omega
   ·obtain rfl : k = 61:=by omega
    have p1 : (61 : Int) < (l.length : Int):=by omega
    have HE:=HO.out
    rw [tk_end cutE l _ 61 (Or.inr rfl) hkm] at HE
    go_wp2
    go_ret
    exact ⟨_,rfl,HE,HB.out⟩
  ·obtain rfl : k = l.length:=by omega
   have HE:=HO.out
   rw [tk_end cutE l _ 61 (Or.inl rfl) hkm] at HE
   go_wp2
   go_ret
   exact ⟨_,rfl,HE,HB.out⟩
end
section
open Go.WideMaps Go.Maps
section
variable {P : Program} {md : Region.Mode} {ops : Array Oper} {Q : Exit → Go.Act → World → Prop} {z : Nat} {S : World → Prop}
def wpAnyZ (P : Program) (md : Region.Mode) (ops : Array Oper) (Q : Exit → Go.Act → World → Prop) (z : Nat) (S : World → Prop) : Nat → Array Bool → Go.Act → World → Prop
 | 0,listed,a,w=>Region.ready md ops listed = [] ∧ Q .normal a w
 | fuel + 1,listed,a,w=>(Region.ready md ops listed = [] → Q .normal a w) ∧
  ∀ i ∈ Region.ready md ops listed,wpOp P ops Q i (fun a' w'=>((listed.setIfInBounds i true).getD z true = true ∨ S w') ∧ wpAnyZ P md ops Q z S fuel (listed.setIfInBounds i true) a' w') a w
theorem wpAny_of_Z : ∀ (fuel : Nat) (listed : Array Bool) (a : Go.Act) (w : World),wpAnyZ P md ops Q z S fuel listed a w → wpAny P md ops Q fuel listed a w
 | 0,_,_,_,h=>h
 | fuel + 1,_,_,_,h=>⟨h.1,fun i hi=>wpOp_mono (fun a' w' h'=>wpAny_of_Z fuel _ a' w' h'.2) (h.2 i hi)⟩
/-- z waits for i. -/
def waits (md : Region.Mode) (ops : Array Oper) (z i : Nat) : Bool:=(ops[z]?.map (fun o=>o.after.toList.any (fun e=>Region.binds md e && e.on == i))).getD false
/-- z waits for i, by the operations between, none of which has come up. -/
def awaitB (md : Region.Mode) (ops : Array Oper) (listed : Array Bool) (z : Nat) : Nat → List Nat → Bool
 | i,[]=>waits md ops z i
 | i,k :: ks=>waits md ops k i && (!(listed.getD k true) && awaitB md ops listed z k ks)
theorem blocked {listed : Array Bool} {i j k : Nat} (hw : waits md ops k i = true) (hu : listed.getD i true = false) (hj : j ∈ Region.ready md ops listed) : j ≠ k:=fun e=>by
 subst e
 obtain ⟨_,oj,hoj,hall⟩:=mem_ready.1 hj
 unfold waits at hw
 rw [hoj,Option.map_some,Option.getD_some,List.any_eq_true] at hw
 obtain ⟨e,he,hb⟩:=hw
 rw [Bool.and_eq_true] at hb
 have q1:=hall e (Array.mem_def.2 he) hb.1
 have e3 : e.on = i:=by simpa using hb.2
 rw [e3] at q1
 rcases Nat.lt_or_ge i listed.size with h' | h'
 ·simp [h'] at hu q1;rw [hu] at q1;cases q1
 ·simp [Array.getElem?_eq_none h'] at q1
theorem chain_step {listed : Array Bool} {j : Nat} (hj : j ∈ Region.ready md ops listed) : ∀ (ks : List Nat) (i : Nat),listed.getD i true = false → awaitB md ops listed z i ks = true → j ≠ z ∧ awaitB md ops (listed.setIfInBounds j true) z i ks = true
 | [],i,hu,h=>⟨blocked h hu hj,h⟩
 | k :: ks,i,hu,h=>by
  unfold awaitB at h ⊢
  rw [Bool.and_eq_true,Bool.and_eq_true,Bool.not_eq_true'] at h
  have hjk:=blocked h.1 hu hj
  obtain ⟨h1,h2⟩:=chain_step hj ks k h.2.1 h.2.2
  exact ⟨h1,by rw [Bool.and_eq_true,Bool.and_eq_true,Bool.not_eq_true',getD_set_ne true hjk];exact ⟨h.1,h.2.1,h2⟩⟩
theorem wpAnyZ_first {i : Nat} {oi : Oper} {v : Value} (hi : ops[i]? = some oi) (hsel : ∀ (j : Nat) (o : Oper) cs b,ops[j]? = some o → o.op ≠ .select cs b)
  (hQ : ∀ c a w,Q (.panic c) (a.put oi.dst v) w → Q (.panic c) a w) (ks : List Nat) (hiz : i ≠ z) :
  ∀ (fuel : Nat) (listed : Array Bool) (a : Go.Act) (w : World),listed.getD z true = false → awaitB md ops listed z i ks = true →
   (∀ j oj,ops[j]? = some oj → j ≠ i → listed.getD j true = false → (∀ e ∈ oj.after,Region.binds md e = true → e.on ≠ i) → oi.apart ops oj = true) →
   i ∈ Region.ready md ops listed → YieldsIf P ops S oi v a → S w →
   wpAnyZ P md ops Q z S fuel (listed.setIfInBounds i true) (a.put oi.dst v) w → wpAnyZ P md ops Q z S (fuel + 1) listed a w:=by
 intro fuel
 induction fuel with
 | zero =>
  intro listed a w hzu hku _ hr hy hS H
  refine ⟨fun h=>(by rw [h] at hr;cases hr),fun j hj=>?_⟩
  by_cases hji : j = i
  ·subst hji;exact hy.wpOp hi hS ⟨.inr hS,H⟩
  ·have:=ready_mono hj hji
   rw [H.1] at this
   cases this
 | succ fuel ih =>
  intro listed a w hzu hku hfree hr hy hS H
  refine ⟨fun h=>(by rw [h] at hr;cases hr),fun j hj=>?_⟩
  by_cases hji : j = i
  ·subst hji;exact hy.wpOp hi hS ⟨.inr hS,H⟩
  ·have h1:=H.2 j (ready_mono hj hji)
   obtain ⟨hjun,oj,hoj,hall⟩:=mem_ready.1 hj
   have hnot : ∀ e ∈ oj.after,Region.binds md e = true → e.on ≠ i:=fun e he hb heq=>by
    have q1:=hall e he hb
    have q0:=(mem_ready.1 hr).1
    rw [heq] at q1
    rcases Nat.lt_or_ge i listed.size with h' | h'
    ·simp [h'] at q0 q1;rw [q0] at q1;cases q1
    ·simp [Array.getElem?_eq_none h'] at q1
   obtain ⟨hjz,hku'⟩:=chain_step hj ks i (by simpa using (mem_ready.1 hr).1) hku
   have h2:=wpOp_putIf hoj (hfree j oj hoj hji hjun hnot) (fun cs b=>hsel i oi cs b hi) (fun cs b=>hsel j oj cs b hoj) hQ hy h1
   have hzu' : (listed.setIfInBounds j true).getD z true = false:=by rw [getD_set_ne true hjz];exact hzu
   have hfree' : ∀ k ok,ops[k]? = some ok → k ≠ i → (listed.setIfInBounds j true).getD k true = false →
     (∀ e ∈ ok.after,Region.binds md e = true → e.on ≠ i) → oi.apart ops ok = true:=fun k ok hk hki hun hno=>by
    refine hfree k ok hk hki ?_ hno
    by_cases hjk : j = k
    ·subst hjk;exact hjun
    ·rw [getD_set_ne true hjk] at hun;exact hun
   refine wpOp_mono (fun a' w' h3=>?_) h2
   have hS' : S w':=by
    rcases h3.2.1 with h | h
    ·rw [getD_set_ne true hjz,getD_set_ne true hiz,hzu] at h;cases h
    ·exact h
   refine ⟨.inr hS',ih (listed.setIfInBounds j true) a' w' hzu' hku' hfree' (ready_mono hr (Ne.symm hji)) h3.1 hS' ?_⟩
   rw [Array.setIfInBounds_comm _ _ hji]
   exact h3.2.2
theorem tkz (ks : List Nat) {i : Nat} {oi : Oper} {v : Value} {fuel : Nat} {listed : Array Bool} {a : Go.Act} {w : World} (hi : ops[i]? = some oi)
  (hS : S w) (hy : YieldsIf P ops S oi v a) (h : wpAnyZ P md ops Q z S fuel (listed.setIfInBounds i true) (a.put oi.dst v) w)
  (hQ : ∀ c a w,Q (.panic c) (a.put oi.dst v) w → Q (.panic c) a w:=by exact fun _ _ _ h=>h)
  (hs : Region.noSelect ops = true:=by kernel_rfl) (hf : Region.free md ops listed i = true:=by kernel_rfl) (hr : (Region.ready md ops listed).contains i = true:=by kernel_rfl)
  (hiz : (i == z) = false:=by kernel_rfl) (hzu : listed.getD z true = false:=by kernel_rfl) (hku : awaitB md ops listed z i ks = true:=by kernel_rfl) :
  wpAnyZ P md ops Q z S (fuel + 1) listed a w:=wpAnyZ_first hi (Region.noSelect_spec hs) hQ ks (by simpa using hiz) fuel listed a w hzu hku (Region.free_spec hi hf) (by simpa using hr) hy hS h
def AllReadyZ (P : Program) (md : Region.Mode) (ops : Array Oper) (Q : Exit → Go.Act → World → Prop) (z : Nat) (S : World → Prop) (fuel : Nat) (listed : Array Bool) (a : Go.Act) (w : World) (rs : List Nat) : Prop :=
 ∀ i ∈ rs,wpOp P ops Q i (fun a' w'=>((listed.setIfInBounds i true).getD z true = true ∨ S w') ∧ wpAnyZ P md ops Q z S fuel (listed.setIfInBounds i true) a' w') a w
theorem AllReadyZ.nil {fuel : Nat} {listed : Array Bool} {a : Go.Act} {w : World} : AllReadyZ P md ops Q z S fuel listed a w []:=fun _ h=>by cases h
theorem AllReadyZ.cons {fuel : Nat} {listed : Array Bool} {a : Go.Act} {w : World} {i : Nat} {o : Oper} {rs : List Nat} (ho : ops[i]? = some o)
  (h : ∀ K' : Go.Act → World → Prop,Shut (∀ a w,S w → (S w → wpAnyZ P md ops Q z S fuel (listed.setIfInBounds i true) a w) → K' a w) → if Region.wanted o (yielded ops a.tmps) = true then Oper.wp P o a w K' Q else K' (a.put o.dst undef) w)
  (hs : AllReadyZ P md ops Q z S fuel listed a w rs) : AllReadyZ P md ops Q z S fuel listed a w (i :: rs):=fun j hj=>by
 rcases List.mem_cons.1 hj with rfl | hj
 ·exact wpOp_step ho (fun K' hK=>h K' (fun a w hS hW=>hK a w ⟨.inr hS,hW hS⟩))
 ·exact hs j hj
theorem wpAnyZ_ready {rs : List Nat} {fuel : Nat} {listed : Array Bool} {a : Go.Act} {w : World} (hr : Region.ready md ops listed = rs) (hne : rs ≠ []) (h : AllReadyZ P md ops Q z S fuel listed a w rs) : wpAnyZ P md ops Q z S (fuel + 1) listed a w :=
 ⟨fun h0=>absurd (hr ▸ h0) hne,hr ▸ h⟩
/-- The last one, z itself: no fact is asked behind it. -/
theorem wpAnyZ_last {fuel : Nat} {listed : Array Bool} {a : Go.Act} {w : World} {o : Oper} (hr : Region.ready md ops listed = [z]) (hz : (listed.setIfInBounds z true).getD z true = true) (ho : ops[z]? = some o)
  (h : ∀ K' : Go.Act → World → Prop,Shut (∀ a w,wpAnyZ P md ops Q z S fuel (listed.setIfInBounds z true) a w → K' a w) → if Region.wanted o (yielded ops a.tmps) = true then Oper.wp P o a w K' Q else K' (a.put o.dst undef) w) : wpAnyZ P md ops Q z S (fuel + 1) listed a w :=
 ⟨fun h0=>absurd (hr ▸ h0) (by simp),fun i hi=>by
  rw [hr] at hi
  obtain rfl : i = z:=by simpa using hi
  exact wpOp_step ho (fun K' hK=>h K' (fun a w hW=>hK a w ⟨.inl hz,hW⟩))⟩
theorem wpAnyZ_done {listed : Array Bool} {a : Go.Act} {w : World} (hr : Region.ready md ops listed = []) (h : Q .normal a w) : ∀ fuel,wpAnyZ P md ops Q z S fuel listed a w
 | 0=>⟨hr,h⟩
 | _ + 1=>⟨fun _=>h,by rw [hr];simp⟩
theorem wp_region_Z (z : Nat) {id : Nat} {a : Go.Act} {w : World} (hm : P.follows .mixedOrders = true) (hS : S w.drew)
  (h : S w.drew → wpAnyZ P .any ops Q z S ops.size (Array.replicate ops.size false) a w.drew) : (Code.region id ops true).wp P Q a w :=
 wp_region_any hm (wpAny_of_Z _ _ _ _ (h hS))
end
end
section
open Go.WideMaps Go.Maps
attribute [local go_sem] Oper.semAt_some
section
variable {P : Program} {md : Region.Mode} {ops : Array Oper} {Q : Exit → Go.Act → World → Prop} {z : Nat} {S : World → Prop}
/-- a drawn region; what stands behind it by a letter -/
theorem wp_region_cont {id : Nat} {a : Go.Act} {w : World} (hm : P.follows .mixedOrders = true) (hS : S w.drew)
  (h : S w.drew → ∀ QQ,Hid (QQ = Q) → Hid (∀ c a1 k v w,QQ (.panic c) (Go.Act.put a1 (some k) v) w → QQ (.panic c) a1 w) → ∀ OPS,Hid (OPS = ops) → ∀ aa,Hid (aa = a) → wpAnyH P .any ops QQ S ops.size (Array.replicate ops.size false) a w.drew)
  (hP : ∀ c a1 k v w,Q (.panic c) (Go.Act.put a1 (some k) v) w → Q (.panic c) a1 w:=by exact fun _ _ _ _ _ h=>h) : (Code.region id ops true).wp P Q a w :=
 wp_region_held_drew hm hS (fun h'=>h h' Q rfl hP ops rfl a rfl)
end
theorem isz_upl : (Tryz.prog.info? 101).map (·.size) = some 3:=by kernel_rfl
theorem r_cells {α : Type} {d : Kd α} {e : Nat} {w : World} {base : Nat} {ok : Nat → Prop} {v : Value} {xs : List α} (h : d.R e w base ok v xs) : v.cells.toList = [v]:=by
 obtain ⟨A,c,rfl⟩:=Kd.R_slice h;rfl
theorem r_one {α : Type} {d : Kd α} {e : Nat} {w : World} {base : Nat} {ok : Nat → Prop} {v : Value} {xs : List α} (h : d.R e w base ok v xs) : ∀ q ∈ [v],q.oneCell' = true:=by
 obtain ⟨A,c,rfl⟩:=Kd.R_slice h;simp [Value.oneCell']
theorem grown_size {w w' : World} {r : Option Nat} (h : w.grownBy w' r) : w.heap.size ≤ w'.heap.size:=h.size
theorem fewU.walk (A : Option Addr) (c : Nat) (l : List S101) (w : World) (hr : Kd.C k101 w A l.length l) :
  Calls Tryz.prog 31 #[.slice A l.length c] w fun e w'=>∃ v,e = .returned v ∧ Kd.R k101 101 w' w.heap.size (fun _=>True) v (fewUs l) ∧ Below w.heap.size w w':=by
 have HR:=zh hr
 have hlen : (l.length : Int) ≤ 9223372036854775807:=by have:=hr.2.1;omega
 have HB:=zh (Below.refl w.heap.size w)
 clear hr
 go_enter Tryz.func31,Tryz.ntmps31
 go_wp2
 go_loopw [3,4] (fun v3 v4 wr=>∃ k : Nat,v4 = .int .i64 k ∧ k ≤ l.length ∧ k ≤ 11 ∧ Hid (Kd.R k101 101 wr w.heap.size (fun _=>True) v3 ((l.take k).map cutU)) ∧ Hid (Below w.heap.size w wr)) (fun _ v4 _=>l.length - (intOf v4).toNat)
 case atStart=>exact ⟨0,rfl,Nat.zero_le _,by decide,Kd.R_nil _ _ _ _ _,HB⟩
 case round =>
  obtain ⟨k,rfl,hk,hkm,HO,HB⟩:=hrel
  by_cases hlt : k < l.length
  ·by_cases hm : k < 11
   ·have p0 : (0 : Int) ≤ (k : Int):=by omega
    have p1 : (k : Int) < (l.length : Int):=by omega
    have p2 : (k : Int) < 11:=by omega
    have HL:=zh hm
    have HTS:=zh (tk_snoc cutU l k hlt)
    obtain ⟨ad,A2,c2,e',d0,d1,d2,hle2,hC2⟩:=atUpload HR.out (Below.refl _ _) k hlt
    subst e'
    generalize l[k] = x at *
    go_wp2
    have HNE:=zh (fun q hq=>((Kd.R_bound HO.out).1 q hq).2.2.1)
    have HO:=zh (Kd.R_drew (Kd.R_mono (Kd.R_bound HO.out) (fun q hq=>(hq.2.2.1 : q < wr.heap.size))))
    have HW0:=zh (show w.heap.size ≤ wr.heap.size from HB.out.size)
    obtain ⟨W0,hW0⟩ : ∃ n,n = wr.heap.size:=⟨_,rfl⟩
    have hS0 : W0 ≤ wr.drew.heap.size:=by rw [hW0];exact Nat.le_refl _
    rw [← hW0] at HNE HO HW0
    clear hW0
    refine wp_region_cont (S:=fun W=>Below w.heap.size w W ∧ W0 ≤ W.heap.size) (by kernel_rfl) ⟨HB.out.drew,hS0⟩ (fun hHeld QQ hQQ hPQ OPS hOP aa haa=>?_)
    clear HB hS0
    have CONT : ∀ (g : Nat) (w1 : World),(Below w.heap.size w w1 ∧ W0 ≤ w1.heap.size) → Hid (w1.heap[g]? = some (.cells #[.int .u64 0,.string ⟨#[]⟩,.slice none 0 0] 101 (0,0))) → Hid (W0 ≤ g) → Hid (Kd.R k101 101 w1 w.heap.size (fun q=>q < W0) u3 ((l.take k).map cutU)) → wpAnyH Tryz.prog .any OPS QQ (fun W=>Below w.heap.size w W ∧ W0 ≤ W.heap.size) 1 #[true,true,true,true,true,true,true,true,true,true,true,true,true,false] (((((((((((((aa.put (some 17) (.slice (some ad) l.length c)).put (some 18) (.int .i64 (k : Int))).put (some 19) (.pointer (some (ad.add (k * 3))))).put (some 20) (.pointer (some (ad.add (k * 3))))).put (some 21) (.int .u64 x.f0)).put (some 22) (.slice (some ad) l.length c)).put (some 23) (.int .i64 (k : Int))).put (some 24) (.pointer (some (ad.add (k * 3))))).put (some 25) (.pointer (some ⟨(ad.add (k * 3)).block,(ad.add (k * 3)).off + 1,none⟩))).put (some 26) (.string x.f1)).put (some 27) (.string (fewKey x.f1))).put (some 28) (.agg #[.int .u64 x.f0,.string (fewKey x.f1),.slice none 0 0])).put (some 5) (.pointer (some ⟨g,0,none⟩))) w1:=by
     intro g w1 hHeld Kg Lg HO
     rw [hOP.out,haa.out,hQQ.out]
     clear hOP haa hQQ hPQ
     try simp only [zA,zB,zC,Act.put,zD,zE,zF]
     refine wpAnyH_ready (rs:=[13]) (by kernel_rfl) (by simp) ?_
     refine AllReadyH.cons (o:=_) rfl (fun K hK=>?_) AllReadyH.nil
     rw [if_pos (by rfl)]
     refine wp_store_row rfl 101 (.tmp 5) (.tmp 28) rfl g 0 _ 101 (.agg #[.int .u64 x.f0,.string (fewKey x.f1),.slice none 0 0]) [.int .u64 x.f0,.string (fewKey x.f1),.slice none 0 0] rfl rfl Kg.out rfl isz_upl (by show 0 + 3 ≤ 3;decide) (by simp [Value.oneCell']) ?_
     intro w2 hk ho
     have HO:=zh (Kd.R_step HO.out (fun q hq hlt=>ho.out.block q hlt (by have:=Lg.out;omega)))
     have Kg : Hid (w2.heap[g]? = some (.cells #[.int .u64 x.f0,.string (fewKey x.f1),.slice none 0 0] 101 (0,0))):=hk
     refine hK.out _ _ ⟨ho.out.below hHeld.1 hHeld.1.size (Nat.le_trans HW0.out Lg.out),Nat.le_trans hHeld.2 ho.out.size⟩ (fun hHeld=>?_)
     clear hK K hk ho
     try simp only [zA,zB,zC,Act.put,zD,zE,zF]
     refine wpAnyH_done (by kernel_rfl) ?_ _
     have HB : Hid (Below w.heap.size w w2):=hHeld.1
     have HS : Hid (W0 ≤ w2.heap.size):=hHeld.2
     clear hHeld
     go_wp2
     go_loopw [6] (fun v6 wi=>∃ (j : Nat) (v : Value),v6 = .int .i64 j ∧ j ≤ x.f2.length ∧ j ≤ 31 ∧ Hid (wi.heap[g]? = some (.cells #[.int .u64 x.f0,.string (fewKey x.f1),v] 101 (0,0))) ∧ Hid (Kd.R k40 40 wi w.heap.size (fun q=>W0 ≤ q ∧ q ≠ g) v ((x.f2.take j).map cutP)) ∧ Hid (Kd.R k101 101 wi w.heap.size (fun q=>q < W0) u3 ((l.take k).map cutU)) ∧ Hid (Below w.heap.size w wi) ∧ Hid (W0 ≤ wi.heap.size)) (fun v6 _=>x.f2.length - (intOf v6).toNat)
     case atStart=>exact ⟨0,_,rfl,Nat.zero_le _,by decide,Kg,Kd.R_nil _ _ _ _ _,HO,HB,HS⟩
     case round =>
      obtain ⟨j,v,rfl,hj,hj31,Kg,HV,HO,HB,HS⟩:=hrel
      obtain ⟨Av,cv,rfl⟩:=Kd.R_slice HV.out
      obtain ⟨XS,hXS⟩ : ∃ L,(x.f2.take j).map cutP = L:=⟨_,rfl⟩
      have HXL : Hid (XS.length ≤ j):=by unfold Hid;rw [← hXS,List.length_map,List.length_take];omega
      rw [hXS] at HV Kg
      have b2:=keepc HB.out d2
      by_cases jl : j < x.f2.length
      ·by_cases jm : j < 31
       ·obtain ⟨ap,e',f0,f1⟩:=atPart hC2 (Below.refl _ _) j jl
        have r0 : (0 : Int) ≤ (j : Int):=by omega
        have r1 : (j : Int) < (x.f2.length : Int):=by omega
        have r2 : (j : Int) < 31:=by omega
        have HTP:=zh ((tk_snoc cutP x.f2 j jl).trans (by rw [hXS]))
        clear hXS
        have HJ:=zh jm
        subst e'
        generalize x.f2[j] = y at *
        go_wp2
        clear b2
        have Kg:=zh (blk_drew Kg.out)
        have HV:=zh (Kd.R_drew HV.out)
        have HO:=zh (Kd.R_drew HO.out)
        refine wp_region_Z 14 (S:=fun W=>(Below w.heap.size w W ∧ W0 ≤ W.heap.size) ∧ W.cell? ⟨g,2,none⟩ = some (.slice Av XS.length cv)) (by kernel_rfl) ⟨⟨HB.out.drew,HS.out⟩,zj Kg 2⟩ (fun hHeld=>?_)
        clear HB HS
        refine tkz [1,12] (i:=0) (v:=?v0P) rfl hHeld (Or.inl ⟨rfl,?y0P⟩) ?r0P
        case y0P=>(intro w' h;go_simp;try with_reducible rfl)
        try simp only [zA,zB,zC,Act.put,zD,zE,zF]
        refine tkz [12] (i:=1) (v:=?v1P) rfl hHeld (Or.inl ⟨rfl,?y1P⟩) ?r1P
        case y1P=>(intro w' h;have g2:=h.2;go_simp;try with_reducible rfl)
        try simp only [zA,zB,zC,Act.put,zD,zE,zF]
        refine tkz [4,5,6,8,9,10,12] (i:=2) (v:=?v2P) rfl hHeld (Or.inl ⟨rfl,?y2P⟩) ?r2P
        case y2P=>(intro w' h;go_simp;try with_reducible rfl)
        try simp only [zA,zB,zC,Act.put,zD,zE,zF]
        refine tkz [4,5,6,8,9,10,12] (i:=3) (v:=?v3P) rfl hHeld (Or.inl ⟨rfl,?y3P⟩) ?r3P
        case y3P=>(intro w' h;go_simp;try with_reducible rfl)
        try simp only [zA,zB,zC,Act.put,zD,zE,zF]
        refine tkz [5,6,8,9,10,12] (i:=4) (v:=?v4P) rfl hHeld (Or.inl ⟨rfl,?y4P⟩) ?r4P
        case y4P=>(intro w' h;go_simp;try with_reducible rfl)
        try simp only [zA,zB,zC,Act.put,zD,zE,zF]
        refine tkz [6,8,9,10,12] (i:=5) (v:=?v5P) rfl hHeld (Or.inl ⟨rfl,?y5P⟩) ?r5P
        case y5P=>(intro w' h;go_simp;try with_reducible rfl)
        try simp only [zA,zB,zC,Act.put,zD,zE,zF]
        refine tkz [8,9,10,12] (i:=6) (v:=?v6P) rfl hHeld (Or.inl ⟨rfl,?y6P⟩) ?r6P
        case y6P=>(intro w' h;have a2:=keepc h.1.1 d2;go_simp;try with_reducible rfl)
        try simp only [zA,zB,zC,Act.put,zD,zE,zF]
        refine tkz [8,9,10,12] (i:=7) (v:=?v7P) rfl hHeld (Or.inl ⟨rfl,?y7P⟩) ?r7P
        case y7P=>(intro w' h;go_simp;try with_reducible rfl)
        try simp only [zA,zB,zC,Act.put,zD,zE,zF]
        refine tkz [9,10,12] (i:=8) (v:=?v8P) rfl hHeld (Or.inl ⟨rfl,?y8P⟩) ?r8P
        case y8P=>(intro w' h;go_simp;try with_reducible rfl)
        try simp only [zA,zB,zC,Act.put,zD,zE,zF]
        refine tkz [10,12] (i:=9) (v:=?v9P) rfl hHeld (Or.inl ⟨rfl,?y9P⟩) ?r9P
        case y9P=>(intro w' h;have a0:=keepc h.1.1 f0;have a1:=keepc h.1.1 f1;go_simp;try with_reducible rfl)
        try simp only [zA,zB,zC,Act.put,zD,zE,zF]
        refine wpAnyZ_ready (rs:=[10]) (by kernel_rfl) (by simp) ?_
        refine AllReadyZ.cons (o:=_) rfl (fun K hK=>?_) AllReadyZ.nil
        rw [if_pos (by rfl)]
        go_simp
        refine (cellarerlaw08_One.calls y.f0 y.f1 _ _ _ (one_part y)).mono ?_
        rintro e8 w8 ⟨rfl,hb⟩
        have HO:=zh (Kd.R_below HO.out hb)
        have HV:=zh (Kd.R_below HV.out hb)
        have Kg:=zk Kg hb
        refine hK.out _ _ ⟨⟨Below.trans hHeld.1.1 (hb.mono (Below.size hHeld.1.1)),Nat.le_trans hHeld.1.2 hb.size⟩,keepc hb hHeld.2⟩ (fun hHeld=>?_)
        clear hK K hb
        try simp only [zA,zB,zC,Act.put,zD,zE,zF]
        refine wpAnyZ_ready (rs:=[11]) (by kernel_rfl) (by simp) ?_
        refine AllReadyZ.cons (o:=_) rfl (fun K hK=>?_) AllReadyZ.nil
        rw [if_pos (by rfl)]
        go_simp
        have hH0:=hHeld
        have hb:=belowA w8 (.cells #[.int .i64 (cutP y).f0,.string (cutP y).f1] 40)
        refine hK.out _ _ ⟨⟨Below.trans hHeld.1.1 (hb.mono (Below.size hHeld.1.1)),Nat.le_trans hHeld.1.2 hb.size⟩,keepc hb hHeld.2⟩ (fun hHeld=>?_)
        clear hK K hb
        try simp only [zA,zB,zC,Act.put,zD,zE,zF]
        refine wpAnyZ_ready (rs:=[12]) (by kernel_rfl) (by simp) ?_
        refine AllReadyZ.cons (o:=_) rfl (fun K hK=>?_) AllReadyZ.nil
        refine Kd.R_append_step k40 (w0:=w) w.heap.size (by rfl) (.tmp 44) (.tmp 54) 99 40 (.agg #[(.int .i64 0),(.string ⟨#[]⟩)]) 24 rfl Tryz.underlying99 info40 rfl (by decide) (by decide) (.slice Av XS.length cv) XS (cutP y) [.int .i64 (cutP y).f0,.string (cutP y).f1] (fun q=>W0 ≤ q ∧ q ≠ g) (fun _=>False) rfl rfl (k40_mkM _ _ _ (cutP y)) (fun _ hk=>hk.elim) (fun q hq=>⟨Nat.le_trans hH0.1.2 hq,by have:=blk_lt Kg.out;omega⟩) HV.out hH0.1.1 (Below.size hH0.1.1) (by have:=HJ.out;have:=HXL.out;omega) ?_
        intro v9 w9 ho hb hg hat
        rw [← HTP.out] at ho
        have Kg:=zh (blk_grown Kg.out hg (fun e=>(HV.out.1 g e.symm).2 rfl))
        have HO:=zh (Kd.R_grown HO.out hg (fun q hq e=>by have:=(HV.out.1 q e.symm).1;omega))
        have HV:=zh ho
        refine hK.out _ _ ⟨⟨hb,Nat.le_trans hH0.1.2 (grown_size hg)⟩,zj Kg 2⟩ (fun hHeld=>?_)
        clear hK K ho hg hat hH0 hb
        try simp only [zA,zB,zC,Act.put,zD,zE,zF]
        refine tkz [] (i:=13) (v:=?v13P) rfl hHeld (Or.inl ⟨rfl,?y13P⟩) ?r13P
        case y13P=>(intro w' h;go_simp;try with_reducible rfl)
        try simp only [zA,zB,zC,Act.put,zD,zE,zF]
        refine wpAnyZ_last (o:=_) (by kernel_rfl) (by kernel_rfl) rfl (fun K hK=>?_)
        rw [if_pos (by rfl)]
        refine wp_store_row rfl 99 (.tmp 56) (.tmp 55) rfl g 2 _ 101 v9 [v9] rfl rfl Kg.out (r_cells HV.out) (by kernel_rfl) (by show 2 + 1 ≤ 3;decide) (r_one HV.out) ?_
        intro wz hk ho
        have HO:=zh (Kd.R_step HO.out (fun q hq hlt=>ho.out.block q hlt (by have:=Lg.out;omega)))
        have HV:=zh (Kd.R_step HV.out (fun q hq hlt=>ho.out.block q hlt hq.2))
        have HB:=zh (ho.out.below hHeld.1.1 (Below.size hHeld.1.1) (Nat.le_trans HW0.out Lg.out))
        have HS:=zh (Nat.le_trans hHeld.1.2 ho.out.size)
        have Kg : Hid (wz.heap[g]? = some (.cells #[.int .u64 x.f0,.string (fewKey x.f1),v9] 101 (0,0))):=hk
        refine hK.out _ _ ?_
        clear hK K hk ho hHeld
        try simp only [zA,zB,zC,Act.put,zD,zE,zF]
        refine wpAnyZ_done (by kernel_rfl) ?_ _
        go_wp2
        go_roundw
        case rel=>exact ⟨j + 1,v9,by go_num,jl,jm,Kg,HV,HO,HB,HS⟩
        case measure=>simp [intOf];omega
       ·obtain rfl : j = 31:=by omega
        have r1 : (31 : Int) < (x.f2.length : Int):=by omega
        have HE : Kd.R k40 40 wr w.heap.size (fun q=>W0 ≤ q ∧ q ≠ g) (.slice Av XS.length cv) ((x.f2.take 31).map cutP):=by rw [← tk_end cutP x.f2 _ 31 (Or.inr rfl) hj31,hXS];exact HV.out
        have z0:=zb Kg.out 0 (.int .u64 x.f0)
        have z1:=zb Kg.out 1 (.string (fewKey x.f1))
        have z2:=zb Kg.out 2 (.slice Av XS.length cv)
        go_wp2_with (((with_reducible refine gate_builtin (b:=.append) (xs:=#[.tmp 57,.tmp 59]) rfl ?_);at_builtin;go_must (refine Kd.R_append k101 (w0:=w) w.heap.size rfl (.tmp 57) (.tmp 59) 23 101 (.agg #[(.int .u64 0),(.string ⟨#[]⟩),(.slice none 0 0)]) 48 rfl Tryz.underlying23 info101 rfl (by decide) (by decide) u3 ((l.take k).map cutU) (cutU x) [.int .u64 x.f0,.string (fewKey x.f1),.slice Av XS.length cv] (fun _=>True) (fun q=>W0 ≤ q ∧ q ≠ g) rfl rfl (k101_mkM _ _ _ (cutU x) HE) (fun q hq=>⟨trivial,fun e=>by have:=HNE.out q e.symm;omega⟩) (fun _ _=>trivial) (Kd.R_mono HO.out (fun _ _=>trivial)) HB.out HB.out.size (by have:=HL.out;rw [List.length_map,List.length_take];omega) ?_;intro v8 w8 ho hb hg hat;rw [← HTS.out] at ho;have HO:=zh ho;have HB:=zh hb;clear ho hb hg hat)))
        go_roundw
        case rel=>exact ⟨k + 1,by go_num,hlt,hm,HO,HB⟩
        case measure=>simp [intOf];omega
      ·obtain rfl : j = x.f2.length:=by omega
       have HE : Kd.R k40 40 wr w.heap.size (fun q=>W0 ≤ q ∧ q ≠ g) (.slice Av XS.length cv) ((x.f2.take 31).map cutP):=by rw [← tk_end cutP x.f2 _ 31 (Or.inl rfl) hj31,hXS];exact HV.out
       have z0:=zb Kg.out 0 (.int .u64 x.f0)
       have z1:=zb Kg.out 1 (.string (fewKey x.f1))
       have z2:=zb Kg.out 2 (.slice Av XS.length cv)
       go_wp2_with (((with_reducible refine gate_builtin (b:=.append) (xs:=#[.tmp 57,.tmp 59]) rfl ?_);at_builtin;go_must (refine Kd.R_append k101 (w0:=w) w.heap.size rfl (.tmp 57) (.tmp 59) 23 101 (.agg #[(.int .u64 0),(.string ⟨#[]⟩),(.slice none 0 0)]) 48 rfl Tryz.underlying23 info101 rfl (by decide) (by decide) u3 ((l.take k).map cutU) (cutU x) [.int .u64 x.f0,.string (fewKey x.f1),.slice Av XS.length cv] (fun _=>True) (fun q=>W0 ≤ q ∧ q ≠ g) rfl rfl (k101_mkM _ _ _ (cutU x) HE) (fun q hq=>⟨trivial,fun e=>by have:=HNE.out q e.symm;omega⟩) (fun _ _=>trivial) (Kd.R_mono HO.out (fun _ _=>trivial)) HB.out HB.out.size (by have:=HL.out;rw [List.length_map,List.length_take];omega) ?_;intro v8 w8 ho hb hg hat;rw [← HTS.out] at ho;have HO:=zh ho;have HB:=zh hb;clear ho hb hg hat)))
       go_roundw
       case rel=>exact ⟨k + 1,by go_num,hlt,hm,HO,HB⟩
       case measure=>simp [intOf];omega
    refine tk (i:=0) (v:=?v0U) rfl hHeld (Or.inl ⟨rfl,?y0U⟩) ?r0U (hQ:=fun c _ w h=>hPQ.out c _ _ _ w h)
    case y0U=>(intro w' h;go_simp;try with_reducible rfl)
    try simp only [zA,zB,zC,Act.put,zD,zE,zF]
    refine tk (i:=1) (v:=?v1U) rfl hHeld (Or.inl ⟨rfl,?y1U⟩) ?r1U (hQ:=fun c _ w h=>hPQ.out c _ _ _ w h)
    case y1U=>(intro w' h;go_simp;try with_reducible rfl)
    try simp only [zA,zB,zC,Act.put,zD,zE,zF]
    refine tk (i:=2) (v:=?v2U) rfl hHeld (Or.inl ⟨rfl,?y2U⟩) ?r2U (hQ:=fun c _ w h=>hPQ.out c _ _ _ w h)
    case y2U=>(intro w' h;go_simp;try with_reducible rfl)
    try simp only [zA,zB,zC,Act.put,zD,zE,zF]
    refine tk (i:=3) (v:=?v3U) rfl hHeld (Or.inl ⟨rfl,?y3U⟩) ?r3U (hQ:=fun c _ w h=>hPQ.out c _ _ _ w h)
    case y3U=>(intro w' h;go_simp;try with_reducible rfl)
    try simp only [zA,zB,zC,Act.put,zD,zE,zF]
    refine tk (i:=4) (v:=?v4U) rfl hHeld (Or.inl ⟨rfl,?y4U⟩) ?r4U (hQ:=fun c _ w h=>hPQ.out c _ _ _ w h)
    case y4U=>(intro w' h;have a0:=keepc h.1 d0;go_simp;try with_reducible rfl)
    try simp only [zA,zB,zC,Act.put,zD,zE,zF]
    refine tk (i:=5) (v:=?v5U) rfl hHeld (Or.inl ⟨rfl,?y5U⟩) ?r5U (hQ:=fun c _ w h=>hPQ.out c _ _ _ w h)
    case y5U=>(intro w' h;go_simp;try with_reducible rfl)
    try simp only [zA,zB,zC,Act.put,zD,zE,zF]
    refine tk (i:=6) (v:=?v6U) rfl hHeld (Or.inl ⟨rfl,?y6U⟩) ?r6U (hQ:=fun c _ w h=>hPQ.out c _ _ _ w h)
    case y6U=>(intro w' h;go_simp;try with_reducible rfl)
    try simp only [zA,zB,zC,Act.put,zD,zE,zF]
    refine tk (i:=7) (v:=?v7U) rfl hHeld (Or.inl ⟨rfl,?y7U⟩) ?r7U (hQ:=fun c _ w h=>hPQ.out c _ _ _ w h)
    case y7U=>(intro w' h;go_simp;try with_reducible rfl)
    try simp only [zA,zB,zC,Act.put,zD,zE,zF]
    refine tk (i:=8) (v:=?v8U) rfl hHeld (Or.inl ⟨rfl,?y8U⟩) ?r8U (hQ:=fun c _ w h=>hPQ.out c _ _ _ w h)
    case y8U=>(intro w' h;go_simp;try with_reducible rfl)
    try simp only [zA,zB,zC,Act.put,zD,zE,zF]
    refine tk (i:=9) (v:=?v9U) rfl hHeld (Or.inl ⟨rfl,?y9U⟩) ?r9U (hQ:=fun c _ w h=>hPQ.out c _ _ _ w h)
    case y9U=>(intro w' h;have a1:=keepc h.1 d1;go_simp;try with_reducible rfl)
    try simp only [zA,zB,zC,Act.put,zD,zE,zF]
    refine wpAnyH_ready (rs:=[10,12]) (by kernel_rfl) (by simp) ?_
    refine AllReadyH.cons (o:=_) rfl (fun K hK=>?_) (AllReadyH.cons (o:=_) rfl (fun K hK=>?_) AllReadyH.nil)
    ·skip
     rw [if_pos (by rfl)]
     go_simp
     refine (cellarerlaw01_Few.calls x.f1 _ _ (few_key x.f1)).mono ?_
     rintro e8 w8 ⟨rfl,hd⟩
     have hb:=outD hd
     have HO:=zh (Kd.R_below HO.out hb)
     refine hK.out _ _ ⟨Below.trans hHeld.1 (hb.mono (Below.size hHeld.1)),Nat.le_trans hHeld.2 hb.size⟩ (fun hHeld=>?_)
     clear hK K hb hd
     try simp only [zA,zB,zC,Act.put,zD,zE,zF]
     refine tk (i:=11) (v:=?v11Ua) rfl hHeld (Or.inl ⟨rfl,?y11Ua⟩) ?r11Ua (hQ:=fun c _ w h=>hPQ.out c _ _ _ w h)
     case y11Ua=>(intro w' h;go_simp;try with_reducible rfl)
     try simp only [zA,zB,zC,Act.put,zD,zE,zF]
     refine wpAnyH_ready (rs:=[12]) (by kernel_rfl) (by simp) ?_
     refine AllReadyH.cons (o:=_) rfl (fun K hK=>?_) AllReadyH.nil
     rw [if_pos (by rfl)]
     refine wp_box_row (N:=5) rfl (cs:=#[.int .u64 0,.string ⟨#[]⟩,.slice none 0 0]) (t:=101) (by first | (go_simp;done) | (go_simp;rfl)) ?_
     intro g hg w9 hk hb
     have HO:=zh (Kd.R_below HO.out hb)
     have Kg:=zh hk
     have Lg : Hid (W0 ≤ g):=by rw [hg];exact hHeld.2
     refine hK.out _ _ ⟨Below.trans hHeld.1 (hb.mono (Below.size hHeld.1)),Nat.le_trans hHeld.2 hb.size⟩ (fun hHeld=>?_)
     clear hK K hk hb hg
     try simp only [zA,zB,zC,Act.put,zD,zE,zF]
     have hc:=CONT g _ hHeld Kg Lg HO
     rw [hOP.out,haa.out] at hc
     try simp only [zA,zB,zC,Act.put,zD,zE,zF] at hc
     exact hc
    ·skip
     rw [if_pos (by rfl)]
     refine wp_box_row (N:=5) rfl (cs:=#[.int .u64 0,.string ⟨#[]⟩,.slice none 0 0]) (t:=101) (by first | (go_simp;done) | (go_simp;rfl)) ?_
     intro g hg w9 hk hb
     have HO:=zh (Kd.R_below HO.out hb)
     have Kg:=zh hk
     have Lg : Hid (W0 ≤ g):=by rw [hg];exact hHeld.2
     refine hK.out _ _ ⟨Below.trans hHeld.1 (hb.mono (Below.size hHeld.1)),Nat.le_trans hHeld.2 hb.size⟩ (fun hHeld=>?_)
     clear hK K hk hb hg
     try simp only [zA,zB,zC,Act.put,zD,zE,zF]
     refine wpAnyH_ready (rs:=[10]) (by kernel_rfl) (by simp) ?_
     refine AllReadyH.cons (o:=_) rfl (fun K hK=>?_) AllReadyH.nil
     rw [if_pos (by rfl)]
     go_simp
     refine (cellarerlaw01_Few.calls x.f1 _ _ (few_key x.f1)).mono ?_
     rintro e8 w8 ⟨rfl,hd⟩
     have hb:=outD hd
     have HO:=zh (Kd.R_below HO.out hb)
     have Kg:=zk Kg hb
     refine hK.out _ _ ⟨Below.trans hHeld.1 (hb.mono (Below.size hHeld.1)),Nat.le_trans hHeld.2 hb.size⟩ (fun hHeld=>?_)
     clear hK K hb hd
     try simp only [zA,zB,zC,Act.put,zD,zE,zF]
     refine tk (i:=11) (v:=?v11Ub) rfl hHeld (Or.inl ⟨rfl,?y11Ub⟩) ?r11Ub (hQ:=fun c _ w h=>hPQ.out c _ _ _ w h)
     case y11Ub=>(intro w' h;go_simp;try with_reducible rfl)
     try simp only [zA,zB,zC,Act.put,zD,zE,zF]
     have hc:=CONT g _ hHeld Kg Lg HO
     rw [hOP.out,haa.out] at hc
     try simp only [zA,zB,zC,Act.put,zD,zE,zF] at hc
     exact hc
   ·obtain rfl : k = 11:=by omega
    have p1 : (11 : Int) < (l.length : Int):=by omega
    have HE:=HO.out
    rw [tk_end cutU l _ 11 (Or.inr rfl) hkm] at HE
    go_wp2
    go_ret
    exact ⟨_,rfl,HE,HB.out⟩
  ·obtain rfl : k = l.length:=by omega
   have HE:=HO.out
   rw [tk_end cutU l _ 11 (Or.inl rfl) hkm] at HE
   go_wp2
   go_ret
   exact ⟨_,rfl,HE,HB.out⟩
end
section
open Go.WideMaps Go.Maps
theorem wr1 {i : Nat} (h : i ≤ 1000000) : wrap64 ((i : Int) + 1) = ((i + 1 : Nat) : Int):=by rw [wrap64_of (by omega) (by omega)];omega
theorem same5_l0 {l : List S47} (hl : l.length ≤ 1000) : ∀ (d i k : Nat),i + d = l.length → d < k → cellarerref05_Same.l0 k l l (i : Int) = some true
 | _,_,0,_,h=>by omega
 | 0,i,k + 1,h,_=>by
  unfold cellarerref05_Same.l0
  rw [if_neg (by omega)]
 | d + 1,i,k + 1,h,hk=>by
  unfold cellarerref05_Same.l0
  rw [if_pos (by omega),if_pos (by omega),if_pos (by omega),if_neg (by simp),wr1 (by omega)]
  exact same5_l0 hl d (i + 1) k (by omega) (by omega)
theorem same5_self {l : List S47} (hl : l.length ≤ 1000) (k : Nat) (hk : 1000 < k) : cellarerref05_Same.f k l l = some true:=by
 unfold cellarerref05_Same.f
 rw [if_pos rfl]
 exact same5_l0 hl l.length 0 k (by omega) (by omega)
theorem same6_l0 {l : List S56} (hl : l.length ≤ 1000) (hx : ∀ x ∈ l,x.f1.length ≤ 1000) : ∀ (d i k : Nat),i + d = l.length → d + 1001 < k → cellarerref06_Same.l0 k l l (i : Int) = some true
 | _,_,0,_,h=>by omega
 | 0,i,k + 1,h,_=>by
  unfold cellarerref06_Same.l0
  rw [if_neg (by omega)]
 | d + 1,i,k + 1,h,hk=>by
  unfold cellarerref06_Same.l0
  have hm : (rd_T56 l (i : Int)).f1.length ≤ 1000:=by
   rw [rdEntry l i (by omega)]
   exact hx _ (List.getElem_mem _)
  rw [if_pos (by omega),if_pos (by omega),if_pos (by omega),if_pos rfl,same5_self hm k (by omega),Option.bind_some,if_pos rfl,wr1 (by omega)]
  exact same6_l0 hl hx d (i + 1) k (by omega) (by omega)
theorem same6_self {l : List S56} (hl : l.length ≤ 1000) (hx : ∀ x ∈ l,x.f1.length ≤ 1000) (k : Nat) (hk : 2001 < k) : cellarerref06_Same.f k l l = some true:=by
 unfold cellarerref06_Same.f
 rw [if_pos rfl]
 exact same6_l0 hl hx l.length 0 k (by omega) (by omega)
theorem same8_l1 {l : List S101} {i : Nat} (hi : i < l.length) (hl : l.length ≤ 1000) (hm : l[i].f2.length ≤ 1000) (k : Nat) : ∀ (d j : Nat),j + d = l[i].f2.length → cellarerref08_Same.l1 (k + d + 1) l l (i : Int) (j : Int) = cellarerref08_Same.l0 k l l ((i + 1 : Nat) : Int)
 | 0,j,h=>by
  rw [show k + 0 + 1 = k + 1 from rfl]
  simp only [cellarerref08_Same.l1]
  rw [rdUpload l i hi,if_pos (by omega),if_pos (by omega),if_neg (by omega),wr1 (by omega)]
 | d + 1,j,h=>by
  rw [show k + (d + 1) + 1 = (k + d + 1) + 1 from rfl]
  generalize hK : k + d + 1 = K
  simp only [cellarerref08_Same.l1]
  subst hK
  rw [rdUpload l i hi,if_pos (by omega),if_pos (by omega),if_pos (by omega),if_pos (by omega),if_pos (by omega),if_pos (by omega),if_neg (by simp),wr1 (by omega)]
  exact same8_l1 hi hl hm k d (j + 1) (by omega)
theorem same8_l0 {l : List S101} (hl : l.length ≤ 1000) (hx : ∀ x ∈ l,x.f2.length ≤ 1000) (d : Nat) : ∀ (i k : Nat),i + d = l.length → d * 1010 < k → cellarerref08_Same.l0 k l l (i : Int) = some true:=by
 induction d with
 | zero =>
  intro i k h hk
  obtain ⟨k,rfl⟩ : ∃ q,k = q + 1:=⟨k - 1,by omega⟩
  simp only [cellarerref08_Same.l0]
  rw [if_neg (by omega)]
 | succ d ih =>
  intro i k h hk
  have hi : i < l.length:=by omega
  have hm : l[i].f2.length ≤ 1000:=hx _ (List.getElem_mem _)
  rw [Nat.succ_mul] at hk
  generalize d * 1010 = D at *
  obtain ⟨q,hq,hq2⟩ : ∃ q,k = (q + l[i].f2.length + 1) + 1 + 1 ∧ D < q:=by
   refine ⟨k - l[i].f2.length - 3,?_,?_⟩ <;> omega
  rw [hq]
  generalize hK : (q + l[i].f2.length + 1) + 1 = K
  simp only [cellarerref08_Same.l0]
  rw [rdUpload l i hi,if_pos (by omega),if_pos (by omega),if_pos (by omega),if_pos trivial,if_pos trivial,bne_self_eq_false]
  subst hK
  generalize hK : q + l[i].f2.length + 1 = K
  simp only [cellarerref08_Same.j1]
  rw [if_neg (by simp)]
  subst hK
  have:=same8_l1 hi hl hm q l[i].f2.length 0 (by omega)
  rw [show ((0 : Nat) : Int) = 0 from rfl] at this
  rw [this]
  exact ih (i + 1) q (by omega) hq2
theorem same8_self {l : List S101} (hl : l.length ≤ 1000) (hx : ∀ x ∈ l,x.f2.length ≤ 1000) (k : Nat) (hk : 1010000 < k) : cellarerref08_Same.f k l l = some true:=by
 unfold cellarerref08_Same.f
 rw [if_pos rfl]
 exact same8_l0 hl hx l.length 0 k (by omega) (by omega)
def Small (b : S26) : Prop:=b.f2.length ≤ 1000 ∧ (∀ x ∈ b.f2,x.f1.length ≤ 1000) ∧ b.f3.length ≤ 1000 ∧ ∀ x ∈ b.f3,x.f2.length ≤ 1000
theorem small_bucket {b : S26} (h : bucketB b = true) : Small b:=by
 obtain ⟨q1,q2,q3,_,_,_⟩:=bucket_at h
 obtain ⟨i1,_,i3⟩:=(index_iff _).1 q2
 obtain ⟨c1,_,c3⟩:=(check_iff _).1 q3
 refine ⟨by omega,fun x hx=>?_,by omega,fun u hu=>?_⟩
 ·have:=chain_len (i3 x hx).2.2;omega
 ·have:=((fine_iff _ _ _).1 (c3 u hu)).2.2.1;omega
theorem same9_self {b : S26} (h : Small b) (k : Nat) (hk : 1010000 < k) : cellarerref09_Same.f k b.f0 b.f1 b.f2 b.f3 b.f4 b.f0 b.f1 b.f2 b.f3 b.f4 = some true:=by
 unfold cellarerref09_Same.f
 rw [if_pos rfl,if_pos rfl,if_pos rfl,same6_self h.1 h.2.1 k (by omega),Option.bind_some,if_pos rfl,same8_self h.2.2.1 h.2.2.2 k hk,Option.bind_some]
end
section
open Go.WideMaps Go.Maps
attribute [local go_sem] Oper.semAt_some
theorem few.walk (b : S26) (A2 A3 : Option Addr) (c2 c3 : Nat) (w : World) (h2 : Kd.C k56 w A2 b.f2.length b.f2) (g2 : b.f2.length ≤ c2) (h3 : Kd.C k101 w A3 b.f3.length b.f3) (g3 : b.f3.length ≤ c3) :
  Calls Tryz.prog 10 #[.agg #[.string b.f0,.int .i64 b.f1,.slice A2 b.f2.length c2,.slice A3 b.f3.length c3,.int .u64 b.f4]] w fun e w'=>∃ A5 c5 A6 c6,e = .returned (.agg #[.string (cutB b).f0,.int .i64 (cutB b).f1,.slice A5 (cutB b).f2.length c5,.slice A6 (cutB b).f3.length c6,.int .u64 (cutB b).f4]) ∧ (cutB b).f2.length ≤ c5 ∧ (cutB b).f3.length ≤ c6 ∧ Kd.C k56 w' A5 (cutB b).f2.length (cutB b).f2 ∧ Kd.C k101 w' A6 (cutB b).f3.length (cutB b).f3 ∧ Below w.heap.size w w':=by
 have HFE:=zh (fun (W : World) (h : Below w.heap.size w W)=>fewE.walk A2 c2 b.f2 W (Kd.C_below h2 h))
 have HFU:=zh (fun (W : World) (h : Below w.heap.size w W)=>fewU.walk A3 c3 b.f3 W (Kd.C_below h3 h))
 have HB:=zh (Below.refl w.heap.size w)
 clear h2 g2 h3 g3
 go_enter Tryz.func10,Tryz.ntmps10
 go_wp2_with (first
  | ((with_reducible refine gate_dst (N:=1) rfl ?_);go_must (refine zx HB (N:=1) (cs:=#[.string b.f0,.int .i64 b.f1,.slice A2 b.f2.length c2,.slice A3 b.f3.length c3,.int .u64 b.f4]) (t:=26) ?hr ?_;(case hr=>first | (go_simp;done) | (go_simp;rfl));intro gb w1 Kgb Lgb HB hbelgb hqgb;clear hbelgb hqgb))
  | ((with_reducible refine gate_dst (N:=2) rfl ?_);go_must (refine zx HB (N:=2) (cs:=#[.string ⟨#[]⟩,.int .i64 0,.slice none 0 0,.slice none 0 0,.int .u64 0]) (t:=26) ?hr ?_;(case hr=>first | (go_simp;done) | (go_simp;rfl));intro go w2 Kgo Lgo HB hbelgo hqgo;have M2:=zh (show gb < go by rw [hqgo];exact blk_lt Kgb.out);have Kgb:=zk Kgb hbelgo;clear hbelgo hqgo)))
 refine wp_region_held_drew (S:=fun W=>Below w.heap.size w W ∧ W.heap[gb]? = some (.cells #[.string b.f0,.int .i64 b.f1,.slice A2 b.f2.length c2,.slice A3 b.f3.length c3,.int .u64 b.f4] 26 (0,0))) (by kernel_rfl) ⟨HB.out.drew,blk_drew Kgb.out⟩ (fun hHeld=>?_)
 have Kgo:=zh (blk_drew Kgo.out)
 clear HB Kgb
 refine zt 0 (v:=?v0Y) ?y0Y ?r0Y
 case y0Y=>(intro w' h;go_simp;try with_reducible rfl)
 try simp only [zA,zB,zC,Act.put,zD,zE,zF]
 refine zt 1 (v:=?v1Y) ?y1Y ?r1Y
 case y1Y=>(intro w' h;have a0:=blk_cell h.2 0;go_simp;try with_reducible rfl)
 try simp only [zA,zB,zC,Act.put,zD,zE,zF]
 refine zt 3 (v:=?v3Y) ?y3Y ?r3Y
 case y3Y=>(intro w' h;go_simp;try with_reducible rfl)
 try simp only [zA,zB,zC,Act.put,zD,zE,zF]
 refine zt 4 (v:=?v4Y) ?y4Y ?r4Y
 case y4Y=>(intro w' h;have a1:=blk_cell h.2 1;go_simp;try with_reducible rfl)
 try simp only [zA,zB,zC,Act.put,zD,zE,zF]
 refine zt 5 (v:=?v5Y) ?y5Y ?r5Y
 case y5Y=>(intro w' h;go_simp;try with_reducible rfl)
 try simp only [zA,zB,zC,Act.put,zD,zE,zF]
 refine zt 6 (v:=?v6Y) ?y6Y ?r6Y
 case y6Y=>(intro w' h;have a2:=blk_cell h.2 2;go_simp;try with_reducible rfl)
 try simp only [zA,zB,zC,Act.put,zD,zE,zF]
 refine zt 8 (v:=?v8Y) ?y8Y ?r8Y
 case y8Y=>(intro w' h;go_simp;try with_reducible rfl)
 try simp only [zA,zB,zC,Act.put,zD,zE,zF]
 refine zt 9 (v:=?v9Y) ?y9Y ?r9Y
 case y9Y=>(intro w' h;have a3:=blk_cell h.2 3;go_simp;try with_reducible rfl)
 try simp only [zA,zB,zC,Act.put,zD,zE,zF]
 refine zt 11 (v:=?v11Y) ?y11Y ?r11Y
 case y11Y=>(intro w' h;go_simp;try with_reducible rfl)
 try simp only [zA,zB,zC,Act.put,zD,zE,zF]
 refine zt 12 (v:=?v12Y) ?y12Y ?r12Y
 case y12Y=>(intro w' h;have a4:=blk_cell h.2 4;go_simp;try with_reducible rfl)
 try simp only [zA,zB,zC,Act.put,zD,zE,zF]
 refine wpAnyH_ready (rs:=[2]) (by kernel_rfl) (by simp) ?_
 refine AllReadyH.cons (o:=_) rfl (fun K hK=>?_) AllReadyH.nil
 rw [if_pos (by rfl)]
 go_simp
 refine (cellarerlaw01_Few.calls b.f0 _ _ (few_key b.f0)).mono ?_
 rintro e8 w8 ⟨rfl,hd⟩
 have hb:=outD hd
 clear hd
 have Kgo:=zk Kgo hb
 refine hK.out _ _ ⟨Below.trans hHeld.1 (hb.mono (Below.size hHeld.1)),blk_below hHeld.2 hb⟩ (fun hHeld=>?_)
 clear hK K hb
 try simp only [zA,zB,zC,Act.put,zD,zE,zF]
 refine wpAnyH_ready (rs:=[7]) (by kernel_rfl) (by simp) ?_
 refine AllReadyH.cons (o:=_) rfl (fun K hK=>?_) AllReadyH.nil
 rw [if_pos (by rfl)]
 go_simp
 refine (HFE.out _ hHeld.1).mono ?_
 rintro e8 w8 ⟨v1,rfl,hv,hb⟩
 obtain ⟨A5,c5,rfl,l5,C5⟩:=Kd.R_reads hv
 have Y3:=zh C5
 clear hv C5
 have Kgo:=zk Kgo hb
 refine hK.out _ _ ⟨Below.trans hHeld.1 (hb.mono (Below.size hHeld.1)),blk_below hHeld.2 hb⟩ (fun hHeld=>?_)
 clear hK K hb
 try simp only [zA,zB,zC,Act.put,zD,zE,zF]
 refine wpAnyH_ready (rs:=[10]) (by kernel_rfl) (by simp) ?_
 refine AllReadyH.cons (o:=_) rfl (fun K hK=>?_) AllReadyH.nil
 rw [if_pos (by rfl)]
 go_simp
 refine (HFU.out _ hHeld.1).mono ?_
 rintro e8 w8 ⟨v2,rfl,hv,hb⟩
 obtain ⟨A6,c6,rfl,l6,C6⟩:=Kd.R_reads hv
 have Y3:=zc Y3 hb
 have Y4:=zh C6
 clear hv C6
 have Kgo:=zk Kgo hb
 refine hK.out _ _ ⟨Below.trans hHeld.1 (hb.mono (Below.size hHeld.1)),blk_below hHeld.2 hb⟩ (fun hHeld=>?_)
 clear hK K hb
 try simp only [zA,zB,zC,Act.put,zD,zE,zF]
 refine zt 13 (v:=?v13Y) ?y13Y ?r13Y
 case y13Y=>(intro w' h;go_simp;try with_reducible rfl)
 try simp only [zA,zB,zC,Act.put,zD,zE,zF]
 refine wpAnyH_ready (rs:=[14]) (by kernel_rfl) (by simp) ?_
 refine AllReadyH.cons (o:=_) rfl (fun K hK=>?_) AllReadyH.nil
 rw [if_pos (by rfl)]
 refine wp_store_row rfl 26 (.tmp 2) (.tmp 16) rfl go 0 _ 26 (.agg #[.string (fewKey b.f0),.int .i64 b.f1,.slice A5 (fewE b.f2).length c5,.slice A6 (fewUs b.f3).length c6,.int .u64 b.f4]) [.string (fewKey b.f0),.int .i64 b.f1,.slice A5 (fewE b.f2).length c5,.slice A6 (fewUs b.f3).length c6,.int .u64 b.f4] rfl rfl Kgo.out rfl isz_bucket (by show 0 + 5 ≤ 5;decide) (by simp [Value.oneCell']) ?_
 intro w9 hk ho
 have Y3:=zh (keepE Y3.out Kgo.out (bk_like _ _ _ _ _ _ _ _ _) ho.out)
 have Y4:=zh (keepU Y4.out Kgo.out (bk_like _ _ _ _ _ _ _ _ _) ho.out)
 refine hK.out _ _ ⟨ho.out.below hHeld.1 (Below.size hHeld.1) Lgo.out,ho.out.blk hHeld.2 (by have:=M2.out;omega)⟩ (fun hHeld=>?_)
 have z0:=zb hk.out 0 (.string (fewKey b.f0))
 have z1:=zb hk.out 1 (.int .i64 b.f1)
 have z2:=zb hk.out 2 (.slice A5 (fewE b.f2).length c5)
 have z3:=zb hk.out 3 (.slice A6 (fewUs b.f3).length c6)
 have z4:=zb hk.out 4 (.int .u64 b.f4)
 clear hK K hk ho
 try simp only [zA,zB,zC,Act.put,zD,zE,zF]
 refine wpAnyH_done (by kernel_rfl) ?_ _
 go_wp2
 refine bodyPost_ret (v:=.agg #[.string (fewKey b.f0),.int .i64 b.f1,.slice A5 (fewE b.f2).length c5,.slice A6 (fewUs b.f3).length c6,.int .u64 b.f4]) (by simp [results,Tryz.results10,go_sem,z0,z1,z2,z3,z4]) rfl ?_
 exact ⟨A5,c5,A6,c6,rfl,l5,l6,Y3.out,Y4.out,hHeld.1⟩
theorem cut_small (b : S26) : Small (cutB b):=by
 unfold cutB fewE fewUs Small
 simp only [List.length_map,List.length_take]
 refine ⟨by omega,fun x hx=>?_,by omega,fun x hx=>?_⟩
 ·obtain ⟨y,_,rfl⟩:=List.mem_map.1 hx
  unfold cutE fewV
  simp only [List.length_map,List.length_take]
  omega
 ·obtain ⟨y,_,rfl⟩:=List.mem_map.1 hx
  unfold cutU
  simp only [List.length_map,List.length_take]
  omega
end
section
open Go.WideMaps Go.Maps
def kB : Kd S26:=Kd.iso (Kd.pair Kd.string (Kd.pair (Kd.int .i64) (Kd.pair (Kd.slice 56 k56) (Kd.pair (Kd.slice 101 k101) (Kd.int .u64))))) (fun x : S26=>(x.f0,x.f1,x.f2,x.f3,x.f4))
theorem kB_open {w : World} {x : S26} {cs : List Value} (h : kB.K w x cs) : ∃ A2 c2 A3 c3,cs = [.string x.f0,.int .i64 x.f1,.slice A2 x.f2.length c2,.slice A3 x.f3.length c3,.int .u64 x.f4] ∧ x.f2.length ≤ c2 ∧ k56.C w A2 x.f2.length x.f2 ∧ x.f3.length ≤ c3 ∧ k101.C w A3 x.f3.length x.f3:=by
 obtain ⟨_,_,rfl,rfl,⟨_,_,rfl,rfl,⟨_,_,rfl,⟨A2,c2,rfl,l2,g2⟩,⟨_,_,rfl,⟨A3,c3,rfl,l3,g3⟩,rfl⟩⟩⟩⟩:=h
 exact ⟨A2,c2,A3,c3,rfl,l2,g2,l3,g3⟩
theorem kB_mk (w : World) (x : S26) {A2 : Option Addr} {c2 : Nat} (l2 : x.f2.length ≤ c2) (g2 : k56.C w A2 x.f2.length x.f2) {A3 : Option Addr} {c3 : Nat} (l3 : x.f3.length ≤ c3) (g3 : k101.C w A3 x.f3.length x.f3) : kB.K w x [.string x.f0,.int .i64 x.f1,.slice A2 x.f2.length c2,.slice A3 x.f3.length c3,.int .u64 x.f4]:=⟨[.string x.f0],[.int .i64 x.f1,.slice A2 x.f2.length c2,.slice A3 x.f3.length c3,.int .u64 x.f4],rfl,rfl,⟨[.int .i64 x.f1],[.slice A2 x.f2.length c2,.slice A3 x.f3.length c3,.int .u64 x.f4],rfl,rfl,⟨[.slice A2 x.f2.length c2],[.slice A3 x.f3.length c3,.int .u64 x.f4],rfl,⟨A2,c2,rfl,l2,g2⟩,⟨[.slice A3 x.f3.length c3],[.int .u64 x.f4],rfl,⟨A3,c3,rfl,l3,g3⟩,rfl⟩⟩⟩⟩
end
section
open Go.WideMaps Go.Maps
def wfu (n : Int) : Prop:=0 ≤ n ∧ n ≤ 18446744073709551615
def wfi (n : Int) : Prop:=-9223372036854775808 ≤ n ∧ n ≤ 9223372036854775807
theorem wfu_of {n : Int} (h : (Lit.int .u64 n).wf = true) : wfu n:=by
 have h2 : (decide ((IntKind.u64).min ≤ n) && decide (n ≤ (IntKind.u64).max)) = true:=h
 rw [Bool.and_eq_true,decide_eq_true_eq,decide_eq_true_eq,show (IntKind.u64).min = 0 from rfl,show (IntKind.u64).max = 18446744073709551615 from rfl] at h2
 exact h2
theorem wfi_of {n : Int} (h : (Lit.int .i64 n).wf = true) : wfi n:=by
 have h2 : (decide ((IntKind.i64).min ≤ n) && decide (n ≤ (IntKind.i64).max)) = true:=h
 rw [Bool.and_eq_true,decide_eq_true_eq,decide_eq_true_eq,show (IntKind.i64).min = -9223372036854775808 from rfl,show (IntKind.i64).max = 9223372036854775807 from rfl] at h2
 exact h2
theorem tstruct5 {H : Type} {enc : TypeId × Value → H} {P : Program} {w : World} {base : Nat} {spare : Nat → Bool} {held : Bool} {t : TypeId} {f0 f1 f2 f3 f4 : Field} {fuel : Nat} {cs : List Value} {x : DataW H × List MemPlace} (ht : P.underlying t = some (.struct #[f0,f1,f2,f3,f4])) (h : DataW.trod enc P w base spare held fuel t cs = some x) :
  ∃ y0 y1 y2 y3 y4 n,cs.length = P.cellsOf t ∧ DataW.trod enc P w base spare held n f0.type ((cs.drop f0.offset).take (P.cellsOf f0.type)) = some y0 ∧ DataW.trod enc P w base spare held n f1.type ((cs.drop f1.offset).take (P.cellsOf f1.type)) = some y1 ∧
   DataW.trod enc P w base spare held n f2.type ((cs.drop f2.offset).take (P.cellsOf f2.type)) = some y2 ∧ DataW.trod enc P w base spare held n f3.type ((cs.drop f3.offset).take (P.cellsOf f3.type)) = some y3 ∧ DataW.trod enc P w base spare held n f4.type ((cs.drop f4.offset).take (P.cellsOf f4.type)) = some y4:=by
 obtain ⟨xs,n,_,_,hl,hlen,hf⟩:=DataW.trod_struct ht h
 match xs,hlen with
 | [y0,y1,y2,y3,y4],_=>exact ⟨y0,y1,y2,y3,y4,n,hl,hf 0 f0 rfl,hf 1 f1 rfl,hf 2 f2 rfl,hf 3 f3 rfl,hf 4 f4 rfl⟩
theorem tstruct4 {H : Type} {enc : TypeId × Value → H} {P : Program} {w : World} {base : Nat} {spare : Nat → Bool} {held : Bool} {t : TypeId} {f0 f1 f2 f3 : Field} {fuel : Nat} {cs : List Value} {x : DataW H × List MemPlace} (ht : P.underlying t = some (.struct #[f0,f1,f2,f3])) (h : DataW.trod enc P w base spare held fuel t cs = some x) :
  ∃ y0 y1 y2 y3 n,cs.length = P.cellsOf t ∧ DataW.trod enc P w base spare held n f0.type ((cs.drop f0.offset).take (P.cellsOf f0.type)) = some y0 ∧ DataW.trod enc P w base spare held n f1.type ((cs.drop f1.offset).take (P.cellsOf f1.type)) = some y1 ∧
   DataW.trod enc P w base spare held n f2.type ((cs.drop f2.offset).take (P.cellsOf f2.type)) = some y2 ∧ DataW.trod enc P w base spare held n f3.type ((cs.drop f3.offset).take (P.cellsOf f3.type)) = some y3:=by
 obtain ⟨xs,n,_,_,hl,hlen,hf⟩:=DataW.trod_struct ht h
 match xs,hlen with
 | [y0,y1,y2,y3],_=>exact ⟨y0,y1,y2,y3,n,hl,hf 0 f0 rfl,hf 1 f1 rfl,hf 2 f2 rfl,hf 3 f3 rfl⟩
theorem tstruct3 {H : Type} {enc : TypeId × Value → H} {P : Program} {w : World} {base : Nat} {spare : Nat → Bool} {held : Bool} {t : TypeId} {f0 f1 f2 : Field} {fuel : Nat} {cs : List Value} {x : DataW H × List MemPlace} (ht : P.underlying t = some (.struct #[f0,f1,f2])) (h : DataW.trod enc P w base spare held fuel t cs = some x) :
  ∃ y0 y1 y2 n,cs.length = P.cellsOf t ∧ DataW.trod enc P w base spare held n f0.type ((cs.drop f0.offset).take (P.cellsOf f0.type)) = some y0 ∧ DataW.trod enc P w base spare held n f1.type ((cs.drop f1.offset).take (P.cellsOf f1.type)) = some y1 ∧
   DataW.trod enc P w base spare held n f2.type ((cs.drop f2.offset).take (P.cellsOf f2.type)) = some y2:=by
 obtain ⟨xs,n,_,_,hl,hlen,hf⟩:=DataW.trod_struct ht h
 match xs,hlen with
 | [y0,y1,y2],_=>exact ⟨y0,y1,y2,n,hl,hf 0 f0 rfl,hf 1 f1 rfl,hf 2 f2 rfl⟩
theorem tstruct2 {H : Type} {enc : TypeId × Value → H} {P : Program} {w : World} {base : Nat} {spare : Nat → Bool} {held : Bool} {t : TypeId} {f0 f1 : Field} {fuel : Nat} {cs : List Value} {x : DataW H × List MemPlace} (ht : P.underlying t = some (.struct #[f0,f1])) (h : DataW.trod enc P w base spare held fuel t cs = some x) :
  ∃ y0 y1 n,cs.length = P.cellsOf t ∧ DataW.trod enc P w base spare held n f0.type ((cs.drop f0.offset).take (P.cellsOf f0.type)) = some y0 ∧ DataW.trod enc P w base spare held n f1.type ((cs.drop f1.offset).take (P.cellsOf f1.type)) = some y1:=by
 obtain ⟨xs,n,_,_,hl,hlen,hf⟩:=DataW.trod_struct ht h
 match xs,hlen with
 | [y0,y1],_=>exact ⟨y0,y1,n,hl,hf 0 f0 rfl,hf 1 f1 rfl⟩
def OpensQ {α : Type} (P : Program) (d : Kd α) (t : TypeId) (Q : α → Prop) : Prop :=
 ∀ (H : Type) (enc : TypeId × Value → H) (W : World) (n : Nat) (cs : List Value) (x : DataW H × List MemPlace),DataW.trod enc P W 0 (fun _=>true) true n t cs = some x → ∃ y : α,d.K W y cs ∧ Q y
theorem opensQ_C {α : Type} {P : Program} {d : Kd α} {t e : TypeId} (ht : P.underlying t = some (.slice e)) (hs : P.cellsOf e = d.sz) {Q : α → Prop} (he : OpensQ P d e Q) (z : α) (H : Type) (enc : TypeId × Value → H) (W : World) (n : Nat) (cs : List Value) (x : DataW H × List MemPlace)
  (h : DataW.trod enc P W 0 (fun _=>true) true n t cs = some x) : ∃ (l : List α) (A : Option Addr) (c : Nat),cs = [.slice A l.length c] ∧ l.length ≤ c ∧ d.C W A l.length l ∧ ∀ x ∈ l,Q x:=by
 rcases DataW.trod_slice ht h with ⟨rfl,_⟩ | ⟨a,len,cap,elems,rest,m,_,rfl,_,_,hl,hm,hlen,hel,_,_⟩
 ·exact ⟨[],none,0,rfl,Nat.le_refl _,⟨rfl,by simp,fun h0=>by simp at h0⟩,fun x hx=>by cases hx⟩
 have each : ∀ i : Nat,∃ p : α,i < len → Q p ∧ ∃ c : List Value,c.length = d.sz ∧ d.K W p c ∧ ∀ j u,c[j]? = some u → W.cell? (a.add (i * d.sz + j)) = some u:=by
  intro i
  by_cases hi : i < len
  ·have h1:=hel i hi
   rw [List.getElem?_eq_getElem (by omega),Option.bind_eq_some_iff] at h1
   obtain ⟨c,hc,ht'⟩:=h1
   obtain ⟨y,hy,hq⟩:=he H enc W m c _ ht'
   refine ⟨y,fun _=>⟨hq,c,d.K_len hy,hy,fun j u hu=>?_⟩⟩
   obtain ⟨_,hcl,hcell⟩:=World.cells?_some hc
   have:=hcell j (by have:=(List.getElem?_eq_some_iff.1 hu).1;omega)
   rw [hs,add_add] at this
   rw [this,hu]
  ·exact ⟨z,fun h=>absurd h hi⟩
 obtain ⟨f,hf⟩:=Classical.skolem.1 each
 refine ⟨(List.range len).map f,some a,cap,by simp,by simpa using hl,⟨by simp,by simp [maxLen] at hm ⊢;omega,fun _=>⟨a,rfl,fun j p hj=>?_⟩⟩,fun x hx=>by
  obtain ⟨j,hj,rfl⟩:=List.mem_map.1 hx
  exact (hf j (List.mem_range.1 hj)).1⟩
 rw [List.getElem?_map] at hj
 have hjl : j < len:=by
  rcases Nat.lt_or_ge j len with h | h
  ·exact h
  ·rw [List.getElem?_eq_none (by simpa using h)] at hj;cases hj
 rw [List.getElem?_range hjl] at hj
 injection hj with hj
 subst hj
 exact (hf j hjl).2
theorem cellsT_uint64 : Tryz.prog.cellsOf 24 = 1:=by kernel_rfl
theorem cellsT_3 : Tryz.prog.cellsOf 3 = 1:=by kernel_rfl
theorem cellsT_9 : Tryz.prog.cellsOf 9 = 1:=by kernel_rfl
theorem cellsT_4 : Tryz.prog.cellsOf 4 = 1:=by kernel_rfl
theorem cellsT_Version : Tryz.prog.cellsOf 54 = 1:=by kernel_rfl
theorem cellsT_Entry : Tryz.prog.cellsOf 22 = 1:=by kernel_rfl
theorem cellsT_Part : Tryz.prog.cellsOf 99 = 1:=by kernel_rfl
theorem cellsT_Upload : Tryz.prog.cellsOf 23 = 1:=by kernel_rfl
theorem cellsS_Version : Tryz.prog.cellsOf 47 = 4:=by kernel_rfl
def wfVersion (x : S47) : Prop:=wfu x.f0 ∧ wfi x.f3
theorem opensQVersion : OpensQ Tryz.prog k47 47 wfVersion:=by
 intro H enc W n cs x h
 obtain ⟨y0,y1,y2,y3,m,hl,t0,t1,t2,t3⟩:=tstruct4 Tryz.underlying47 h
 rw [cellsS_Version] at hl
 match cs,hl with
 | [a,b,c,d],_ =>
  simp only [cellsT_3,cellsT_4,cellsT_9,cellsT_uint64,List.drop,List.take] at t0 t1 t2 t3
  obtain ⟨s0,e0,_,w0⟩:=DataW.trod_int Tryz.underlying24 t0
  obtain ⟨s1,e1,_,_⟩:=DataW.trod_string Tryz.underlying9 t1
  obtain ⟨s2,e2,_⟩:=DataW.trod_bool Tryz.underlying4 t2
  obtain ⟨s3,e3,_,w3⟩:=DataW.trod_int Tryz.underlying3 t3
  injection e0 with e0;injection e1 with e1;injection e2 with e2;injection e3 with e3
  subst e0 e1 e2 e3
  exact ⟨⟨s0,s1,s2,s3⟩,k47_mk W ⟨s0,s1,s2,s3⟩ ,wfu_of w0,wfi_of w3⟩
theorem cellsS_Entry : Tryz.prog.cellsOf 56 = 2:=by kernel_rfl
def wfEntry (x : S56) : Prop:=(∀ y ∈ x.f1,wfVersion y)
theorem opensQEntry : OpensQ Tryz.prog k56 56 wfEntry:=by
 intro H enc W n cs x h
 obtain ⟨y0,y1,m,hl,t0,t1⟩:=tstruct2 Tryz.underlying56 h
 rw [cellsS_Entry] at hl
 match cs,hl with
 | [a,b],_ =>
  simp only [cellsT_9,cellsT_Version,List.drop,List.take] at t0 t1
  obtain ⟨s0,e0,_,_⟩:=DataW.trod_string Tryz.underlying9 t0
  obtain ⟨s1,A1,c1,e1,hle1,hC1,w1⟩:=opensQ_C Tryz.underlying54 cellsS_Version opensQVersion z47 _ _ _ _ _ _ t1
  injection e0 with e0;injection e1 with e1
  subst e0 e1
  exact ⟨⟨s0,s1⟩,k56_mk W ⟨s0,s1⟩ hle1 hC1,w1⟩
theorem cellsS_Part : Tryz.prog.cellsOf 40 = 2:=by kernel_rfl
def wfPart (x : S40) : Prop:=wfi x.f0
theorem opensQPart : OpensQ Tryz.prog k40 40 wfPart:=by
 intro H enc W n cs x h
 obtain ⟨y0,y1,m,hl,t0,t1⟩:=tstruct2 Tryz.underlying40 h
 rw [cellsS_Part] at hl
 match cs,hl with
 | [a,b],_ =>
  simp only [cellsT_3,cellsT_9,List.drop,List.take] at t0 t1
  obtain ⟨s0,e0,_,w0⟩:=DataW.trod_int Tryz.underlying3 t0
  obtain ⟨s1,e1,_,_⟩:=DataW.trod_string Tryz.underlying9 t1
  injection e0 with e0;injection e1 with e1
  subst e0 e1
  exact ⟨⟨s0,s1⟩,k40_mk W ⟨s0,s1⟩ ,wfi_of w0⟩
theorem cellsS_Upload : Tryz.prog.cellsOf 101 = 3:=by kernel_rfl
def wfUpload (x : S101) : Prop:=wfu x.f0 ∧ (∀ y ∈ x.f2,wfPart y)
theorem opensQUpload : OpensQ Tryz.prog k101 101 wfUpload:=by
 intro H enc W n cs x h
 obtain ⟨y0,y1,y2,m,hl,t0,t1,t2⟩:=tstruct3 Tryz.underlying101 h
 rw [cellsS_Upload] at hl
 match cs,hl with
 | [a,b,c],_ =>
  simp only [cellsT_9,cellsT_Part,cellsT_uint64,List.drop,List.take] at t0 t1 t2
  obtain ⟨s0,e0,_,w0⟩:=DataW.trod_int Tryz.underlying24 t0
  obtain ⟨s1,e1,_,_⟩:=DataW.trod_string Tryz.underlying9 t1
  obtain ⟨s2,A2,c2,e2,hle2,hC2,w2⟩:=opensQ_C Tryz.underlying99 cellsS_Part opensQPart z40 _ _ _ _ _ _ t2
  injection e0 with e0;injection e1 with e1;injection e2 with e2
  subst e0 e1 e2
  exact ⟨⟨s0,s1,s2⟩,k101_mk W ⟨s0,s1,s2⟩ hle2 hC2,wfu_of w0,w2⟩
theorem cellsS_Bucket : Tryz.prog.cellsOf 26 = 5:=by kernel_rfl
def wfBucket (x : S26) : Prop:=wfi x.f1 ∧ (∀ y ∈ x.f2,wfEntry y) ∧ (∀ y ∈ x.f3,wfUpload y) ∧ wfu x.f4
theorem opensQBucket : OpensQ Tryz.prog kB 26 wfBucket:=by
 intro H enc W n cs x h
 obtain ⟨y0,y1,y2,y3,y4,m,hl,t0,t1,t2,t3,t4⟩:=tstruct5 Tryz.underlying26 h
 rw [cellsS_Bucket] at hl
 match cs,hl with
 | [a,b,c,d,e],_ =>
  simp only [cellsT_3,cellsT_9,cellsT_Entry,cellsT_Upload,cellsT_uint64,List.drop,List.take] at t0 t1 t2 t3 t4
  obtain ⟨s0,e0,_,_⟩:=DataW.trod_string Tryz.underlying9 t0
  obtain ⟨s1,e1,_,w1⟩:=DataW.trod_int Tryz.underlying3 t1
  obtain ⟨s2,A2,c2,e2,hle2,hC2,w2⟩:=opensQ_C Tryz.underlying22 cellsS_Entry opensQEntry z56 _ _ _ _ _ _ t2
  obtain ⟨s3,A3,c3,e3,hle3,hC3,w3⟩:=opensQ_C Tryz.underlying23 cellsS_Upload opensQUpload z101 _ _ _ _ _ _ t3
  obtain ⟨s4,e4,_,w4⟩:=DataW.trod_int Tryz.underlying24 t4
  injection e0 with e0;injection e1 with e1;injection e2 with e2;injection e3 with e3;injection e4 with e4
  subst e0 e1 e2 e3 e4
  exact ⟨⟨s0,s1,s2,s3,s4⟩,kB_mk W ⟨s0,s1,s2,s3,s4⟩ hle2 hC2 hle3 hC3,wfi_of w1,w2,w3,wfu_of w4⟩
theorem open_bucket {H : Type} {enc : TypeId × Value → H} {W : World} {base : Nat} {v : Value} {d : DataW H} {p : List MemPlace} (hv : Value.okWide Tryz.prog W .any base 26 v) (h : DataW.Trod enc Tryz.prog W 0 (fun _=>true) true 26 v d p) :
  ∃ (x : S26) (A2 : Option Addr) (c2 : Nat) (A3 : Option Addr) (c3 : Nat),v = .agg #[.string x.f0,.int .i64 x.f1,.slice A2 x.f2.length c2,.slice A3 x.f3.length c3,.int .u64 x.f4] ∧ x.f2.length ≤ c2 ∧ Kd.C k56 W A2 x.f2.length x.f2 ∧ x.f3.length ≤ c3 ∧ Kd.C k101 W A3 x.f3.length x.f3 ∧ wfBucket x:=by
 obtain ⟨cs,rfl,hsz⟩:=Go.WideShapes.okWide_struct Tryz.underlying26 hv
 obtain ⟨n,hn⟩:=h
 obtain ⟨y,hy,hq⟩:=opensQBucket _ _ _ _ _ _ hn
 obtain ⟨A2,c2,A3,c3,hk,h2,g2,h3,g3⟩:=kB_open hy
 refine ⟨y,A2,c2,A3,c3,?_,h2,g2,h3,g3,hq⟩
 have e2 : cs.toList = [.string y.f0,.int .i64 y.f1,.slice A2 y.f2.length c2,.slice A3 y.f3.length c3,.int .u64 y.f4]:=by simpa [Value.cells] using hk
 rw [← Array.toArray_toList (xs:=cs),e2]
end
section
open Go.WideMaps Go.Maps
theorem weightsAll_mem {H : Type} {P : Program} {e : TypeId} : ∀ {l : List (DataW H)} {d : DataW H},d ∈ l → ∀ n ∈ d.weights P e,n ∈ DataW.weightsAll P e l
 | d' :: r,d,hd,n,hn=>by
  simp only [DataW.weightsAll,List.mem_append]
  rcases List.mem_cons.1 hd with rfl | h
  ·exact Or.inl hn
  ·exact Or.inr (weightsAll_mem h n hn)
theorem open_strings {H : Type} {enc : TypeId × Value → H} {W : World} {base : Nat} {v : Value} {d : DataW H} {p : List MemPlace} (hv : Value.okWide Tryz.prog W .any base 27 v) (h : DataW.Trod enc Tryz.prog W 0 (fun _=>true) true 27 v d p) (hz : ∀ n ∈ d.weights Tryz.prog 27,n ≤ reachBytes) :
  ∃ (l : List ByteArray) (A : Option Addr) (c : Nat),v = .slice A l.length c ∧ l.length ≤ c ∧ Kd.C Kd.string W A l.length l ∧ ∀ s ∈ l,s.size ≤ 140737488351232:=by
 obtain ⟨a,n,c,rfl⟩:=Go.WideShapes.okWide_slice Tryz.underlying27 hv
 obtain ⟨m,hm⟩:=h
 rcases Go.Deep.open_strs Tryz.underlying27 Tryz.underlying9 cellsT_9 hm with ⟨e,_⟩ | ⟨a',len,cap,m',Sx,e,_,hl,hmx,hmm,ex,hx⟩
 ·refine ⟨[],none,0,?_,Nat.le_refl _,⟨rfl,by simp,fun h0=>by simp at h0⟩,fun x hx=>by cases hx⟩
  simpa [Value.cells] using e
 ·have hlm : len ≤ m':=by rw [hmm];split <;> omega
  refine ⟨(List.range len).map Sx,some a',cap,?_,by simpa using hl,⟨by simp,by simp [maxLen] at hmx ⊢;omega,fun _=>⟨a',rfl,fun j q hj=>?_⟩⟩,fun s hs=>?_⟩
  ·simpa [Value.cells] using e
  ·rw [List.getElem?_map] at hj
   have hjl : j < len:=by
    rcases Nat.lt_or_ge j len with h | h
    ·exact h
    ·rw [List.getElem?_eq_none (by simpa using h)] at hj;cases hj
   rw [List.getElem?_range hjl] at hj
   injection hj with hj
   subst hj
   refine ⟨[.string (Sx j)],rfl,rfl,fun i u hu=>?_⟩
   have hi : i = 0:=by have:=(List.getElem?_eq_some_iff.1 hu).1;simpa using this
   subst hi
   have:=(hx j (by omega)).1
   simp only [List.getElem?_cons_zero,Option.some.injEq] at hu
   subst hu
   rw [← this]
   congr 2
   show j * 1 + 0 = j
   omega
  ·obtain ⟨j,hj,rfl⟩:=List.mem_map.1 hs
   have hd:=(Prod.mk.inj ex).1
   refine hz _ ?_
   subst hd
   simp only [DataW.weights,Tryz.underlying27,List.mem_cons,List.mem_append]
   exact Or.inr (Or.inl (weightsAll_mem (List.mem_map.2 ⟨j,hj,rfl⟩) _ (by rw [show (Sx j).size = (Sx j).data.toList.length from Array.length_toList.symm];simp only [DataW.weights,List.mem_singleton])))
end
section
open Go.WideMaps Go.Maps
attribute [local go_sem] Oper.semAt_some
theorem appP {ops : Array Oper} {rest : List Oper} {o : Oper} {a : Go.Act} {Q : Exit → Go.Act → World → Prop} {w0 W : World} (base : Nat) (hgd : o.guard = none) (s x : Operand) (ho : o.op = .call { callee:=.builtin .append,args:=#[s,x],argTypes:=#[35,35] })
  (v : Value) (xs ys : List S43) (A : Option Addr) (m c : Nat) (ok : Nat → Prop) (hs : a.eval s = v) (hx : a.eval x = .slice A m c) (HO : Kd.R k43 43 W base ok v xs) (HR : Kd.C k43 W A m ys) (hfresh : ∀ k,W.heap.size ≤ k → ok k) (HB : Below base w0 W) (hbase : base ≤ W.heap.size) (hl : xs.length + m ≤ 1000000)
  (h : ∀ v1 w1,Kd.R k43 43 w1 base ok v1 (xs ++ ys) → Below base w0 w1 → wpList Tryz.prog ops Q rest (a.put o.dst v1) w1) :
  wpList Tryz.prog ops Q (o :: rest) a W :=
 Kd.R_append_rows k43 base hgd s x 35 43 (.agg #[(.int .i64 0),(.int .u32 0)]) 16 ho Tryz.underlying35 info43 rfl (by decide) (by decide) v xs ys A m c ok (fun _=>False) hs hx HO HR (fun _ _ h=>h) (fun _ h=>h.elim) hfresh HB hbase (by omega) (fun v1 w1 h1 h2 _ _=>h v1 w1 h1 h2)
theorem pc_lit1 {W : World} {base : Nat} {okp : Nat → Prop} (x : S43) : Reps (Kd.M k43 W base okp) (Kd.sz k43) [x] [.int .i64 x.f0,.int .u32 x.f1]:=Reps.snoc (ps:=[]) (cs:=[]) (Reps.none _ _) (k43_mkM _ _ _ x) rfl
theorem bk_no32 (s : ByteArray) (i : Int) (A2 : Option Addr) (n2 c2 : Nat) (A3 : Option Addr) (n3 c3 : Nat) (l : Int) (j : Nat) (q : Int) : (#[.string s,.int .i64 i,.slice A2 n2 c2,.slice A3 n3 c3,.int .u64 l] : Array Value)[j]? ≠ some (.int .u32 q):=by
 intro h
 rcases j with _ | _ | _ | _ | _ | j <;> simp at h
theorem keepPc {w w1 : World} {g : Nat} {A : Option Addr} {n : Nat} {l : List S43} {cs : Array Value} {ty : TypeId} (h : Kd.C k43 w A n l) (hg : w.heap[g]? = some (.cells cs ty (0,0))) (hl : ∀ (j : Nat) (q : Int),cs[j]? ≠ some (.int .u32 q)) (ho : Only g w w1) : Kd.C k43 w1 A n l :=
 C_sep h hg ho (fun x c o hk hc=>by obtain rfl:=k43_open hk;exact hl _ _ (hc 1 _ rfl)) (fun x c hk=>by obtain rfl:=k43_open hk;exact k43_mk w1 x)
theorem parts.walk (b : S26) (A2 A3 : Option Addr) (c2 c3 : Nat) (key : ByteArray) (A : Option Addr) (c : Nat) (l : List ByteArray) (w : World) (h2 : Kd.C k56 w A2 b.f2.length b.f2) (g2 : b.f2.length ≤ c2) (h3 : Kd.C k101 w A3 b.f3.length b.f3) (g3 : b.f3.length ≤ c3) (hb4 : 0 ≤ b.f4) (hr : Kd.C Kd.string w A l.length l) (hc : l.length ≤ c) (hw : ∀ s ∈ l,s.size ≤ 140737488351232) :
  Calls Tryz.prog 3 #[.agg #[.string b.f0,.int .i64 b.f1,.slice A2 b.f2.length c2,.slice A3 b.f3.length c3,.int .u64 b.f4],.string key,.slice A l.length c] w fun e w'=>e = .returned (.bool true) ∧ Below w.heap.size w w':=by
 have HR:=zh hr
 have HW:=zh hw
 have hlen : (l.length : Int) ≤ 9223372036854775807:=by have:=hr.2.1;omega
 have HFW:=zh (fun (W : World) (h : Below w.heap.size w W)=>few.walk b A2 A3 c2 c3 W (Kd.C_below h2 h) g2 (Kd.C_below h3 h) g3)
 have HZ:=zh (fun (W : World)=>awake.walk W)
 have HLK : Hid (∀ (W : World),Calls Tryz.prog 11 #[.string key] W (fun e w'=>e = .returned (.string (fewKey key)) ∧ Below W.heap.size W w')):=fun W=>(cellarerlaw01_Few.calls key _ W (few_key key)).mono (fun e w' hz=>⟨hz.1,outD hz.2⟩)
 have H4b : Hid (0 ≤ (cutB b).f4):=hb4
 have hsm:=cut_small b
 generalize fewKey key = kk at *
 generalize cutB b = cb at *
 have HSM : Hid (∀ (A5 D5 B5 F5 : Option Addr) (c5 d5 e5 f5 : Nat) (W : World),Kd.C k56 W A5 cb.f2.length cb.f2 → cb.f2.length ≤ c5 → Kd.C k101 W D5 cb.f3.length cb.f3 → cb.f3.length ≤ d5 → Kd.C k56 W B5 cb.f2.length cb.f2 → cb.f2.length ≤ e5 → Kd.C k101 W F5 cb.f3.length cb.f3 → cb.f3.length ≤ f5 → Calls Tryz.prog 13 #[.agg #[.string cb.f0,.int .i64 cb.f1,.slice A5 cb.f2.length c5,.slice D5 cb.f3.length d5,.int .u64 cb.f4],.agg #[.string cb.f0,.int .i64 cb.f1,.slice B5 cb.f2.length e5,.slice F5 cb.f3.length f5,.int .u64 cb.f4]] W (fun e w'=>e = .returned (.bool true) ∧ Below W.heap.size W w')):=fun A5 D5 B5 F5 c5 d5 e5 f5 W h2 g2 h3 g3 h4 g4 h5 g5=>cellarerref09_Same.calls 1010001 cb.f0 cb.f1 A5 c5 cb.f2 D5 d5 cb.f3 cb.f4 cb.f0 cb.f1 B5 e5 cb.f2 F5 f5 cb.f3 cb.f4 true W h2 g2 h3 g3 h4 g4 h5 g5 (same9_self hsm _ (by decide))
 have HBG:=zh (fun (A D : Option Addr) (c d : Nat) (W : World) h2 g2 h3 g3=>beginB.walk cb A D c d kk W h2 g2 h3 g3)
 have hbo:=begin_x (b:=cb) (key:=kk) H4b.out
 have hbn:=begin_no (b:=cb) (key:=kk)
 generalize beginB cb kk = r at *
 obtain ⟨x0,bid,be⟩:=r
 have HG:=zh (Below.refl w.heap.size w)
 clear hr hw h2 g2 h3 g3 hb4 hsm
 have te0 : (be != 0) = !(be == 0):=rfl
 by_cases hbe : be = 0
 rotate_left
 ·have e0 : (be == 0) = false:=beq_eq_false_iff_ne.2 hbe
  rw [e0] at te0
  have hx0 : cb = x0:=(hbn hbe).symm
  subst hx0
  clear hbo hbn
  go_enter Tryz.func3,Tryz.ntmps3
  go_wp2_with (first
   | ((with_reducible refine gate_dst (N:=3) rfl ?_);go_must (refine zx HG (N:=3) (cs:=#[.string b.f0,.int .i64 b.f1,.slice A2 b.f2.length c2,.slice A3 b.f3.length c3,.int .u64 b.f4]) (t:=26) ?hr ?_;(case hr=>first | (go_simp;done) | (go_simp;rfl));intro gB w1 KgB LgB HG hbelgB hqgB;obtain ⟨a0,a1,a2,a3,a4⟩:=zz5 KgB.out;clear hbelgB hqgB))
   | (go_at_call 10;go_must (refine (HFW.out _ HG.out).mono ?_;rintro e w2 ⟨A7,c7,D7,d7,rfl,x7,y7,z3,z4,hb⟩;have E7:=zh z3;have U7:=zh z4;have HG:=keepB HG hb;have KgB:=zk KgB hb;clear hb z3 z4 a0 a1 a2 a3 a4))
   | (go_at_call 11;go_must (refine (HLK.out _).mono ?_;rintro e w3 ⟨rfl,hb⟩;have HG:=keepB HG hb;have KgB:=zk KgB hb;have E7:=zc E7 hb;have U7:=zc U7 hb;clear hb))
   | ((with_reducible refine gate_store (t:=26) (p:=3) (v:=.tmp 25) rfl ?_);go_must (refine zs 26 (.tmp 3) (.tmp 25) gB 0 26 [.string cb.f0,.int .i64 cb.f1,.slice A7 cb.f2.length c7,.slice D7 cb.f3.length d7,.int .u64 cb.f4] KgB isz_bucket ?_;intro w4 hk ho;have E7:=zh (keepE E7.out KgB.out (bk_like _ _ _ _ _ _ _ _ _) ho.out);have U7:=zh (keepU U7.out KgB.out (bk_like _ _ _ _ _ _ _ _ _) ho.out);have KgB : Hid (w4.heap[gB]? = some (.cells #[.string cb.f0,.int .i64 cb.f1,.slice A7 cb.f2.length c7,.slice D7 cb.f3.length d7,.int .u64 cb.f4] 26 (0,0))):=hk;have HG:=zo ho HG LgB;obtain ⟨a0,a1,a2,a3,a4⟩:=zz5 KgB.out;clear hk ho))
   | (go_at_call 12;go_must (refine (HBG.out A7 D7 c7 d7 _ E7.out x7 U7.out y7).mono ?_;rintro e w5 ⟨vt,rfl,⟨A4,c4,D4,d4,rfl,X4,Y4_,z3,z4⟩,hb⟩;have E4:=zh z3;have U4:=zh z4;have HG:=keepB HG hb;have E7:=zc E7 hb;have U7:=zc U7 hb;have KgB:=zk KgB hb;clear hb z3 z4 a0 a1 a2 a3 a4))
   | ((with_reducible refine gate_dst (N:=7) rfl ?_);go_must (refine zx HG (N:=7) (cs:=#[.string ⟨#[]⟩,.int .i64 0,.slice none 0 0,.slice none 0 0,.int .u64 0]) (t:=26) ?hr ?_;(case hr=>first | (go_simp;done) | (go_simp;rfl));intro g7 w6 Kg7 Lg7 HG hbelg7 hqg7;have N7:=zh (show gB < g7 by rw [hqg7];exact blk_lt KgB.out);have E7:=zc E7 hbelg7;have U7:=zc U7 hbelg7;have E4:=zc E4 hbelg7;have U4:=zc U4 hbelg7;have KgB:=zk KgB hbelg7;clear hbelg7 hqg7))
   | ((with_reducible refine gate_store (t:=26) (p:=7) (v:=.tmp 32) rfl ?_);go_must (refine zs 26 (.tmp 7) (.tmp 32) g7 0 26 [.string cb.f0,.int .i64 cb.f1,.slice A4 cb.f2.length c4,.slice D4 cb.f3.length d4,.int .u64 cb.f4] Kg7 isz_bucket ?_;intro w7 hk ho;have E7:=zh (keepE E7.out Kg7.out (bk_like _ _ _ _ _ _ _ _ _) ho.out);have U7:=zh (keepU U7.out Kg7.out (bk_like _ _ _ _ _ _ _ _ _) ho.out);have E4:=zh (keepE E4.out Kg7.out (bk_like _ _ _ _ _ _ _ _ _) ho.out);have U4:=zh (keepU U4.out Kg7.out (bk_like _ _ _ _ _ _ _ _ _) ho.out);have KgB:=zl ho KgB (by have:=N7.out;omega);have Kg7 : Hid (w7.heap[g7]? = some (.cells #[.string cb.f0,.int .i64 cb.f1,.slice A4 cb.f2.length c4,.slice D4 cb.f3.length d4,.int .u64 cb.f4] 26 (0,0))):=hk;have HG:=zo ho HG Lg7;obtain ⟨a0,a1,a2,a3,a4⟩:=zz5 KgB.out;obtain ⟨f0,f1,f2,f3,f4⟩:=zz5 Kg7.out;clear hk ho))
   | (go_at_call 13;go_must (refine (HSM.out A4 D4 A7 D7 c4 d4 c7 d7 _ E4.out X4 U4.out Y4_ E7.out x7 U7.out y7).mono ?_;rintro e w8 ⟨rfl,hb⟩;have HG:=keepB HG hb;clear hb))
   | (go_at_call 14;go_must (refine (HZ.out _).mono ?_;rintro e w20 ⟨rfl,hb⟩;have HG:=keepB HG hb;clear hb)))
  go_ret
  exact ⟨rfl,HG.out⟩
 subst hbe
 obtain ⟨q1,q2,q3,q4,q5⟩:=hbo rfl
 obtain ⟨hx0,hbid⟩ : x0 = upX cb kk [] ∧ bid = cb.f4 + 1:=⟨(Prod.mk.inj q4).1,(Prod.mk.inj (Prod.mk.inj q4).2).1⟩
 rw [← hx0] at q5
 subst hbid
 have HX0:=zh hx0
 have HBX0:=zh q5
 have HCB : Hid (bucketB cb = true ∧ keyB kk = true ∧ 0 ≤ cb.f4):=⟨q1,q2,H4b.out⟩
 clear te0 hbo hbn q1 q2 q3 q4 q5 hx0 H4b
 go_enter Tryz.func3,Tryz.ntmps3
 go_wp2_with (first
  | ((with_reducible refine gate_dst (N:=3) rfl ?_);go_must (refine zx HG (N:=3) (cs:=#[.string b.f0,.int .i64 b.f1,.slice A2 b.f2.length c2,.slice A3 b.f3.length c3,.int .u64 b.f4]) (t:=26) ?hr ?_;(case hr=>first | (go_simp;done) | (go_simp;rfl));intro gB w1 KgB LgB HG hbelgB hqgB;obtain ⟨a0,a1,a2,a3,a4⟩:=zz5 KgB.out;clear hbelgB hqgB))
  | (go_at_call 10;go_must (refine (HFW.out _ HG.out).mono ?_;rintro e w2 ⟨A7,c7,D7,d7,rfl,x7,y7,z3,z4,hb⟩;have E7:=zh z3;have U7:=zh z4;have HG:=keepB HG hb;have KgB:=zk KgB hb;clear hb z3 z4 a0 a1 a2 a3 a4))
  | (go_at_call 11;go_must (refine (HLK.out _).mono ?_;rintro e w3 ⟨rfl,hb⟩;have HG:=keepB HG hb;have KgB:=zk KgB hb;have E7:=zc E7 hb;have U7:=zc U7 hb;clear hb))
  | ((with_reducible refine gate_store (t:=26) (p:=3) (v:=.tmp 25) rfl ?_);go_must (refine zs 26 (.tmp 3) (.tmp 25) gB 0 26 [.string cb.f0,.int .i64 cb.f1,.slice A7 cb.f2.length c7,.slice D7 cb.f3.length d7,.int .u64 cb.f4] KgB isz_bucket ?_;intro w4 hk ho;have E7:=zh (keepE E7.out KgB.out (bk_like _ _ _ _ _ _ _ _ _) ho.out);have U7:=zh (keepU U7.out KgB.out (bk_like _ _ _ _ _ _ _ _ _) ho.out);have KgB : Hid (w4.heap[gB]? = some (.cells #[.string cb.f0,.int .i64 cb.f1,.slice A7 cb.f2.length c7,.slice D7 cb.f3.length d7,.int .u64 cb.f4] 26 (0,0))):=hk;have HG:=zo ho HG LgB;obtain ⟨a0,a1,a2,a3,a4⟩:=zz5 KgB.out;clear hk ho))
  | (go_at_call 12;go_must (refine (HBG.out A7 D7 c7 d7 _ E7.out x7 U7.out y7).mono ?_;rintro e w5 ⟨vt,rfl,⟨A4,c4,D4,d4,rfl,X4,Y4_,z3,z4⟩,hb⟩;have E4:=zh z3;have U4:=zh z4;have HG:=keepB HG hb;have E7:=zc E7 hb;have U7:=zc U7 hb;have KgB:=zk KgB hb;clear hb z3 z4 a0 a1 a2 a3 a4))
  | ((with_reducible refine gate_dst (N:=7) rfl ?_);go_must (refine zx HG (N:=7) (cs:=#[.string ⟨#[]⟩,.int .i64 0,.slice none 0 0,.slice none 0 0,.int .u64 0]) (t:=26) ?hr ?_;(case hr=>first | (go_simp;done) | (go_simp;rfl));intro g7 w6 Kg7 Lg7 HG hbelg7 hqg7;have N7:=zh (show gB < g7 by rw [hqg7];exact blk_lt KgB.out);have E7:=zc E7 hbelg7;have U7:=zc U7 hbelg7;have E4:=zc E4 hbelg7;have U4:=zc U4 hbelg7;have KgB:=zk KgB hbelg7;clear hbelg7 hqg7))
  | ((with_reducible refine gate_store (t:=26) (p:=7) (v:=.tmp 32) rfl ?_);go_must (refine zs 26 (.tmp 7) (.tmp 32) g7 0 26 [.string x0.f0,.int .i64 x0.f1,.slice A4 x0.f2.length c4,.slice D4 x0.f3.length d4,.int .u64 x0.f4] Kg7 isz_bucket ?_;intro w7 hk ho;have E7:=zh (keepE E7.out Kg7.out (bk_like _ _ _ _ _ _ _ _ _) ho.out);have U7:=zh (keepU U7.out Kg7.out (bk_like _ _ _ _ _ _ _ _ _) ho.out);have E4:=zh (keepE E4.out Kg7.out (bk_like _ _ _ _ _ _ _ _ _) ho.out);have U4:=zh (keepU U4.out Kg7.out (bk_like _ _ _ _ _ _ _ _ _) ho.out);have KgB:=zl ho KgB (by have:=N7.out;omega);have Kg7 : Hid (w7.heap[g7]? = some (.cells #[.string x0.f0,.int .i64 x0.f1,.slice A4 x0.f2.length c4,.slice D4 x0.f3.length d4,.int .u64 x0.f4] 26 (0,0))):=hk;have HG:=zo ho HG Lg7;clear hk ho)))
 go_loopw [10,11,12] (fun s pv i wr=>∃ (k : Nat) (ps : List S40) (x : S26) (AB DB : Option Addr) (cB dB : Nat) (Ap : Option Addr) (cp : Nat),s = .string (catP ps) ∧ pv = .slice Ap (pcs ps).length cp ∧ i = .int .i64 k ∧ k ≤ l.length ∧ k ≤ 8 ∧ ps.length = k ∧ Hid (x = upX cb kk ps) ∧ Hid (bucketB x = true) ∧ Hid (∀ p ∈ ps,(l.length : Int) - (k : Int) < p.f0 ∧ 6 ≤ p.f1.size ∧ p.f1.size ≤ 200) ∧ Hid (wr.heap[gB]? = some (.cells #[.string cb.f0,.int .i64 cb.f1,.slice A7 cb.f2.length c7,.slice D7 cb.f3.length d7,.int .u64 cb.f4] 26 (0,0))) ∧ Hid (wr.heap[g7]? = some (.cells #[.string x.f0,.int .i64 x.f1,.slice AB x.f2.length cB,.slice DB x.f3.length dB,.int .u64 x.f4] 26 (0,0))) ∧ x.f2.length ≤ cB ∧ x.f3.length ≤ dB ∧ Hid (Kd.C k56 wr AB x.f2.length x.f2) ∧ Hid (Kd.C k101 wr DB x.f3.length x.f3) ∧ (pcs ps).length ≤ cp ∧ Hid (Kd.C k43 wr Ap (pcs ps).length (pcs ps)) ∧ Hid (Below w.heap.size w wr)) (fun _ _ i _=>l.length - (intOf i).toNat)
 case atStart=>exact ⟨0,[],x0,A4,D4,c4,d4,none,0,rfl,rfl,rfl,Nat.zero_le _,by decide,rfl,HX0,HBX0,(fun p hp=>by cases hp),KgB,Kg7,X4,Y4_,E4,U4,Nat.le_refl _,C_mt _ _ _,HG⟩
 case round =>
  clear HX0 HBX0 KgB Kg7 E4 U4 E7 U7 HG
  obtain ⟨k,ps,x,AB,DB,cB,dB,Ap,cp,rfl,rfl,rfl,hk,hk8,hpsl,HX,HBX,HPS,KgB,Kg7,XB,YB,EB,UB,hcp,PB,HG⟩:=hrel
  obtain ⟨f0,f1,f2,f3,f4⟩:=zz5 Kg7.out;
  by_cases hlt : k < l.length
  ·by_cases h8 : k < 8
   ·have p0 : (0 : Int) ≤ (k : Int):=by omega
    have p1 : (k : Int) < (l.length : Int):=by omega
    have p2 : (k : Int) < 8:=by omega
    obtain ⟨ad,e',d0⟩  :=Kd.at_string (Kd.C_below HR.out HG.out) (k : Int) p0 p1
    subst e'
    rw [Int.toNat_natCast] at d0
    have hs1 : (rdOf ByteArray.empty l (k : Int)).size ≤ 140737488351232:=HW.out _ (by
     have e : rdOf ByteArray.empty l (k : Int) = l[k]:=by unfold rdOf;rw [Int.toNat_natCast];simp [List.getD_eq_getElem?_getD,hlt]
     rw [e];exact List.getElem_mem hlt)
    generalize rdOf ByteArray.empty l (k : Int) = s1 at *
    have gs1 : (9223372036854775807 < 6 + s1.size) = False:=eq_false (by omega)
    obtain ⟨s0,hs0⟩ : ∃ s0,(⟨#[112,97,114,116,115,32]⟩ : ByteArray) ++ s1 = s0:=⟨_,rfl⟩
    have hz0 : s0.size = 6 + s1.size:=by rw [← hs0,ByteArray.size_append];rfl
    have hcs : (catP ps).size ≤ 2000:=by have:=cat_size (fun p hp=>(HPS.out p hp).2.2);omega
    have hpl : (pcs ps).length ≤ 8:=by rw [pcs_len];omega
    obtain ⟨n,hn⟩ : ∃ n : Int,(l.length : Int) - (k : Int) = n:=⟨_,rfl⟩
    have hly : ∀ {s : ByteArray},n ≤ 1000 → 6 ≤ s.size → s.size ≤ 200 → ((layB x (cb.f4 + 1) ⟨n,s⟩).2.2 = 0 ∧ layB x (cb.f4 + 1) ⟨n,s⟩ = (upX cb kk (⟨n,s⟩ :: ps),tagOf s,0) ∧ bucketB (upX cb kk (⟨n,s⟩ :: ps)) = true) ∨ (layB x (cb.f4 + 1) ⟨n,s⟩).2.2 = 6:=by
     intro s hn1 hs6 hs2
     have hm : mayB (⟨n,s⟩ : S40) = true:=by
      unfold mayB
      simp only [Bool.and_eq_true,decide_eq_true_eq]
      exact ⟨by omega,hn1,by omega⟩
     have:=lay_x (b:=cb) (key:=kk) (ps:=ps) (p:=⟨n,s⟩) HCB.out.1 (by rw [← HX.out];exact HBX.out) hm (by omega) (fun z hz=>by have:=(HPS.out z hz).1;show n < z.f0;omega)
     rw [← HX.out] at this
     exact this
    by_cases hz : 200 < s0.size
    ·have vz : decide (200 < (s0.size : Int)) = true:=decide_eq_true (by omega)
     have pz : (200 : Int) ≤ (s0.size : Int):=by omega
     obtain ⟨s,hs⟩ : ∃ s,s0.extract 0 200 = s:=⟨_,rfl⟩
     have hs6 : 6 ≤ s.size:=by rw [← hs,ByteArray.size_extract];omega
     have hs200 : s.size ≤ 200:=by rw [← hs,ByteArray.size_extract];omega
     have HPL:=zh hpl
     have HOF : Hid (∀ (W : World),Calls Tryz.prog 16 #[.string s] W (fun e w'=>e = .returned (.int .u32 (tagOf s)) ∧ Below W.heap.size W w')):=fun W=>(cellarerref04_Of.calls (s.size + 10) s _ W (ref_of s (by omega) _ (by omega))).mono (fun e w' hz=>⟨hz.1,outD hz.2⟩)
     have gs2 : (9223372036854775807 < s.size + (catP ps).size) = False:=eq_false (by omega)
     by_cases hN : 1000 < n
     ·have vN : decide (1000 < n) = true:=decide_eq_true hN
      clear hly
      go_wp2_with (first
       | (go_at_call 14;go_must (refine (HZ.out _).mono ?_;rintro e w20 ⟨rfl,hb⟩;have HG:=keepB HG hb;clear hb)))
      go_ret
      exact ⟨rfl,HG.out⟩
     ·have vN : decide (1000 < n) = false:=decide_eq_false hN
      have hly0:=hly (by omega) hs6 hs200
      clear hly
      have HLY:=zh (fun (A D : Option Addr) (c d : Nat) (W : World) h2 g2 h3 g3=>layB.walk x A D c d (cb.f4 + 1) (⟨n,s⟩ : S40) W h2 g2 h3 g3)
      generalize layB x (cb.f4 + 1) (⟨n,s⟩ : S40) = r at *
      obtain ⟨y,tg,fe⟩:=r
      rcases hly0 with ⟨he,hy,hby⟩ | he
      ·obtain ⟨rfl,rfl,_⟩ : y = upX cb kk (⟨n,s⟩ :: ps) ∧ tg = tagOf s ∧ True:=⟨(Prod.mk.inj hy).1,(Prod.mk.inj (Prod.mk.inj hy).2).1,trivial⟩
       change fe = 0 at he
       subst he
       obtain ⟨y,hyX⟩ : ∃ y,upX cb kk (⟨n,s⟩ :: ps) = y:=⟨_,rfl⟩
       rw [hyX] at HLY hby
       have HYX:=zh hyX.symm
       have HBY:=zh hby
       have HPN : Hid (∀ p ∈ (⟨n,s⟩ :: ps : List S40),(l.length : Int) - ((k + 1 : Nat) : Int) < p.f0 ∧ 6 ≤ p.f1.size ∧ p.f1.size ≤ 200):=by
        intro p hp
        rcases List.mem_cons.1 hp with rfl | hp
        ·exact ⟨by show _ < n;omega,hs6,hs200⟩
        ·have:=HPS.out p hp;exact ⟨by omega,this.2⟩
       clear hy hyX hby
       go_wp2_with (first
        | (go_at_call 15;go_must (refine (HLY.out AB DB cB dB _ EB.out XB UB.out YB).mono ?_;rintro e w5 ⟨vt,rfl,⟨A5,c5,D5,d5,rfl,X5,Y5,z3,z4⟩,hb⟩;have E5:=zh z3;have U5:=zh z4;have HG:=keepB HG hb;have PB:=zc PB hb;have KgB:=zk KgB hb;have Kg7:=zk Kg7 hb;clear hb z3 z4 f0 f1 f2 f3 f4))
        | ((with_reducible refine gate_dst (N:=15) rfl ?_);go_must (refine zx HG (N:=15) (cs:=#[.string ⟨#[]⟩,.int .i64 0,.slice none 0 0,.slice none 0 0,.int .u64 0]) (t:=26) ?hr ?_;(case hr=>first | (go_simp;done) | (go_simp;rfl));intro gY w6 KgY LgY HG hbelgY hqgY;have M1:=zh (show gB < gY by rw [hqgY];exact blk_lt KgB.out);have M2:=zh (show g7 < gY by rw [hqgY];exact blk_lt Kg7.out);have E5:=zc E5 hbelgY;have U5:=zc U5 hbelgY;have PB:=zc PB hbelgY;have KgB:=zk KgB hbelgY;have Kg7:=zk Kg7 hbelgY;clear hbelgY hqgY))
        | ((with_reducible refine gate_store (t:=26) (p:=15) (v:=.tmp 77) rfl ?_);go_must (refine zs 26 (.tmp 15) (.tmp 77) gY 0 26 [.string y.f0,.int .i64 y.f1,.slice A5 y.f2.length c5,.slice D5 y.f3.length d5,.int .u64 y.f4] KgY isz_bucket ?_;intro w7 hk ho;have E5:=zh (keepE E5.out KgY.out (bk_like _ _ _ _ _ _ _ _ _) ho.out);have U5:=zh (keepU U5.out KgY.out (bk_like _ _ _ _ _ _ _ _ _) ho.out);have PB:=zh (keepPc PB.out KgY.out (bk_no32 _ _ _ _ _ _ _ _ _) ho.out);have KgB:=zl ho KgB (by have:=M1.out;omega);have Kg7:=zl ho Kg7 (by have:=M2.out;omega);have KgY : Hid (w7.heap[gY]? = some (.cells #[.string y.f0,.int .i64 y.f1,.slice A5 y.f2.length c5,.slice D5 y.f3.length d5,.int .u64 y.f4] 26 (0,0))):=hk;have HG:=zo ho HG LgY;obtain ⟨m0,m1,m2,m3,m4⟩:=zz5 KgY.out;clear hk ho))
        | ((with_reducible refine gate_store (t:=26) (p:=7) (v:=.tmp 87) rfl ?_);go_must (refine zs 26 (.tmp 7) (.tmp 87) g7 0 26 [.string y.f0,.int .i64 y.f1,.slice A5 y.f2.length c5,.slice D5 y.f3.length d5,.int .u64 y.f4] Kg7 isz_bucket ?_;intro w8 hk ho;have E5:=zh (keepE E5.out Kg7.out (bk_like _ _ _ _ _ _ _ _ _) ho.out);have U5:=zh (keepU U5.out Kg7.out (bk_like _ _ _ _ _ _ _ _ _) ho.out);have PB:=zh (keepPc PB.out Kg7.out (bk_no32 _ _ _ _ _ _ _ _ _) ho.out);have KgB:=zl ho KgB (by have:=N7.out;omega);have Kg7 : Hid (w8.heap[g7]? = some (.cells #[.string y.f0,.int .i64 y.f1,.slice A5 y.f2.length c5,.slice D5 y.f3.length d5,.int .u64 y.f4] 26 (0,0))):=hk;have HG:=zo ho HG Lg7;clear m0 m1 m2 m3 m4;clear hk ho))
        | (go_at_call 16;go_must (refine (HOF.out _).mono ?_;rintro e w9 ⟨rfl,hb⟩;have HG:=keepB HG hb;have E5:=zc E5 hb;have U5:=zc U5 hb;have PB:=zc PB hb;have KgB:=zk KgB hb;have Kg7:=zk Kg7 hb;clear hb))
        | ((with_reducible refine gate_dst (N:=95) rfl ?_);go_must (refine Kd.R_lit k43 (w0:=w9) w9.heap.size 43 ?hg (N:=95) ?hd (xs:=[(⟨n,tagOf s⟩ : S43)]) (inner:=[.int .i64 n,.int .u32 (tagOf s)]) (ok:=fun _=>True) (okp:=fun _=>True) ?hr ?hp (fun _ hk=>hk) trivial ?hB ?hS (by show (1 : Nat) ≤ _;decide) ?_;(case hd=>rfl);(case hg=>rfl);(case hr=>first | (go_simp;done) | (go_simp;rfl));(case hp=>exact pc_lit1 _);(case hB=>exact Below.refl _ _);(case hS=>exact Nat.le_refl _);intro v10 w10 ho hb10 hgr _;have HO:=zh ho;have PB:=zc PB (grown_below hgr);have HB10:=zh hb10;have HS10:=zh (show w9.heap.size ≤ w10.heap.size from hb10.size);clear ho hb10 hgr))
        | ((with_reducible refine gate_builtin (b:=.append) (xs:=#[.tmp 95,.tmp 96]) rfl ?_);at_builtin;go_must (refine appP (w0:=w9) w9.heap.size rfl (.tmp 95) (.tmp 96) rfl _ [(⟨n,tagOf s⟩ : S43)] (pcs ps) Ap (pcs ps).length cp (fun _=>True) rfl rfl HO.out PB.out (fun _ _=>trivial) HB10.out HS10.out (by have:=HPL.out;rw [List.length_singleton];omega) ?_;intro v11 w11 ho hb;obtain ⟨Aq,cq,rfl⟩:=Kd.R_slice ho;have PB:=zh ((Kd.R_reads' ho).2.2);have XQ:=zh ((Kd.R_reads' ho).2.1);have HG:=keepB HG hb;have E5:=zc E5 hb;have U5:=zc U5 hb;have KgB:=zk KgB hb;have Kg7:=zk Kg7 hb;clear ho hb HO HB10 HS10)))
       go_roundw
       case rel=>exact ⟨k + 1,⟨n,s⟩ :: ps,y,A5,D5,c5,d5,Aq,cq,rfl,rfl,by go_num,hlt,h8,by rw [List.length_cons,hpsl],HYX,HBY,HPN,KgB,Kg7,X5,Y5,E5,U5,XQ.out,PB,HG⟩
       case measure=>simp [intOf];omega
      ·change fe = 6 at he
       subst he
       clear HPL
       go_wp2_with (first
        | (go_at_call 15;go_must (refine (HLY.out AB DB cB dB _ EB.out XB UB.out YB).mono ?_;rintro e w5 ⟨vt,rfl,⟨A5,c5,D5,d5,rfl,X5,Y5,z3,z4⟩,hb⟩;have E5:=zh z3;have U5:=zh z4;have HG:=keepB HG hb;have PB:=zc PB hb;have KgB:=zk KgB hb;have Kg7:=zk Kg7 hb;clear hb z3 z4 f0 f1 f2 f3 f4))
        | ((with_reducible refine gate_dst (N:=15) rfl ?_);go_must (refine zx HG (N:=15) (cs:=#[.string ⟨#[]⟩,.int .i64 0,.slice none 0 0,.slice none 0 0,.int .u64 0]) (t:=26) ?hr ?_;(case hr=>first | (go_simp;done) | (go_simp;rfl));intro gY w6 KgY LgY HG hbelgY hqgY;have M1:=zh (show gB < gY by rw [hqgY];exact blk_lt KgB.out);have M2:=zh (show g7 < gY by rw [hqgY];exact blk_lt Kg7.out);have E5:=zc E5 hbelgY;have U5:=zc U5 hbelgY;have PB:=zc PB hbelgY;have KgB:=zk KgB hbelgY;have Kg7:=zk Kg7 hbelgY;clear hbelgY hqgY))
        | ((with_reducible refine gate_store (t:=26) (p:=15) (v:=.tmp 77) rfl ?_);go_must (refine zs 26 (.tmp 15) (.tmp 77) gY 0 26 [.string y.f0,.int .i64 y.f1,.slice A5 y.f2.length c5,.slice D5 y.f3.length d5,.int .u64 y.f4] KgY isz_bucket ?_;intro w7 hk ho;have E5:=zh (keepE E5.out KgY.out (bk_like _ _ _ _ _ _ _ _ _) ho.out);have U5:=zh (keepU U5.out KgY.out (bk_like _ _ _ _ _ _ _ _ _) ho.out);have PB:=zh (keepPc PB.out KgY.out (bk_no32 _ _ _ _ _ _ _ _ _) ho.out);have KgB:=zl ho KgB (by have:=M1.out;omega);have Kg7:=zl ho Kg7 (by have:=M2.out;omega);have KgY : Hid (w7.heap[gY]? = some (.cells #[.string y.f0,.int .i64 y.f1,.slice A5 y.f2.length c5,.slice D5 y.f3.length d5,.int .u64 y.f4] 26 (0,0))):=hk;have HG:=zo ho HG LgY;clear hk ho))
        | (go_at_call 14;go_must (refine (HZ.out _).mono ?_;rintro e w20 ⟨rfl,hb⟩;have HG:=keepB HG hb;clear hb)))
       go_ret
       exact ⟨rfl,HG.out⟩
    ·have vz : decide (200 < (s0.size : Int)) = false:=decide_eq_false (by omega)
     have hs6 : 6 ≤ s0.size:=by omega
     have hs200 : s0.size ≤ 200:=by omega
     have HPL:=zh hpl
     have HOF : Hid (∀ (W : World),Calls Tryz.prog 16 #[.string s0] W (fun e w'=>e = .returned (.int .u32 (tagOf s0)) ∧ Below W.heap.size W w')):=fun W=>(cellarerref04_Of.calls (s0.size + 10) s0 _ W (ref_of s0 (by omega) _ (by omega))).mono (fun e w' hz=>⟨hz.1,outD hz.2⟩)
     have gs2 : (9223372036854775807 < s0.size + (catP ps).size) = False:=eq_false (by omega)
     by_cases hN : 1000 < n
     ·have vN : decide (1000 < n) = true:=decide_eq_true hN
      clear hly
      go_wp2_with (first
       | (go_at_call 14;go_must (refine (HZ.out _).mono ?_;rintro e w20 ⟨rfl,hb⟩;have HG:=keepB HG hb;clear hb)))
      go_ret
      exact ⟨rfl,HG.out⟩
     ·have vN : decide (1000 < n) = false:=decide_eq_false hN
      have hly0:=hly (by omega) hs6 hs200
      clear hly
      have HLY:=zh (fun (A D : Option Addr) (c d : Nat) (W : World) h2 g2 h3 g3=>layB.walk x A D c d (cb.f4 + 1) (⟨n,s0⟩ : S40) W h2 g2 h3 g3)
      generalize layB x (cb.f4 + 1) (⟨n,s0⟩ : S40) = r at *
      obtain ⟨y,tg,fe⟩:=r
      rcases hly0 with ⟨he,hy,hby⟩ | he
      ·obtain ⟨rfl,rfl,_⟩ : y = upX cb kk (⟨n,s0⟩ :: ps) ∧ tg = tagOf s0 ∧ True:=⟨(Prod.mk.inj hy).1,(Prod.mk.inj (Prod.mk.inj hy).2).1,trivial⟩
       change fe = 0 at he
       subst he
       obtain ⟨y,hyX⟩ : ∃ y,upX cb kk (⟨n,s0⟩ :: ps) = y:=⟨_,rfl⟩
       rw [hyX] at HLY hby
       have HYX:=zh hyX.symm
       have HBY:=zh hby
       have HPN : Hid (∀ p ∈ (⟨n,s0⟩ :: ps : List S40),(l.length : Int) - ((k + 1 : Nat) : Int) < p.f0 ∧ 6 ≤ p.f1.size ∧ p.f1.size ≤ 200):=by
        intro p hp
        rcases List.mem_cons.1 hp with rfl | hp
        ·exact ⟨by show _ < n;omega,hs6,hs200⟩
        ·have:=HPS.out p hp;exact ⟨by omega,this.2⟩
       clear hy hyX hby
       go_wp2_with (first
        | (go_at_call 15;go_must (refine (HLY.out AB DB cB dB _ EB.out XB UB.out YB).mono ?_;rintro e w5 ⟨vt,rfl,⟨A5,c5,D5,d5,rfl,X5,Y5,z3,z4⟩,hb⟩;have E5:=zh z3;have U5:=zh z4;have HG:=keepB HG hb;have PB:=zc PB hb;have KgB:=zk KgB hb;have Kg7:=zk Kg7 hb;clear hb z3 z4 f0 f1 f2 f3 f4))
        | ((with_reducible refine gate_dst (N:=15) rfl ?_);go_must (refine zx HG (N:=15) (cs:=#[.string ⟨#[]⟩,.int .i64 0,.slice none 0 0,.slice none 0 0,.int .u64 0]) (t:=26) ?hr ?_;(case hr=>first | (go_simp;done) | (go_simp;rfl));intro gY w6 KgY LgY HG hbelgY hqgY;have M1:=zh (show gB < gY by rw [hqgY];exact blk_lt KgB.out);have M2:=zh (show g7 < gY by rw [hqgY];exact blk_lt Kg7.out);have E5:=zc E5 hbelgY;have U5:=zc U5 hbelgY;have PB:=zc PB hbelgY;have KgB:=zk KgB hbelgY;have Kg7:=zk Kg7 hbelgY;clear hbelgY hqgY))
        | ((with_reducible refine gate_store (t:=26) (p:=15) (v:=.tmp 77) rfl ?_);go_must (refine zs 26 (.tmp 15) (.tmp 77) gY 0 26 [.string y.f0,.int .i64 y.f1,.slice A5 y.f2.length c5,.slice D5 y.f3.length d5,.int .u64 y.f4] KgY isz_bucket ?_;intro w7 hk ho;have E5:=zh (keepE E5.out KgY.out (bk_like _ _ _ _ _ _ _ _ _) ho.out);have U5:=zh (keepU U5.out KgY.out (bk_like _ _ _ _ _ _ _ _ _) ho.out);have PB:=zh (keepPc PB.out KgY.out (bk_no32 _ _ _ _ _ _ _ _ _) ho.out);have KgB:=zl ho KgB (by have:=M1.out;omega);have Kg7:=zl ho Kg7 (by have:=M2.out;omega);have KgY : Hid (w7.heap[gY]? = some (.cells #[.string y.f0,.int .i64 y.f1,.slice A5 y.f2.length c5,.slice D5 y.f3.length d5,.int .u64 y.f4] 26 (0,0))):=hk;have HG:=zo ho HG LgY;obtain ⟨m0,m1,m2,m3,m4⟩:=zz5 KgY.out;clear hk ho))
        | ((with_reducible refine gate_store (t:=26) (p:=7) (v:=.tmp 87) rfl ?_);go_must (refine zs 26 (.tmp 7) (.tmp 87) g7 0 26 [.string y.f0,.int .i64 y.f1,.slice A5 y.f2.length c5,.slice D5 y.f3.length d5,.int .u64 y.f4] Kg7 isz_bucket ?_;intro w8 hk ho;have E5:=zh (keepE E5.out Kg7.out (bk_like _ _ _ _ _ _ _ _ _) ho.out);have U5:=zh (keepU U5.out Kg7.out (bk_like _ _ _ _ _ _ _ _ _) ho.out);have PB:=zh (keepPc PB.out Kg7.out (bk_no32 _ _ _ _ _ _ _ _ _) ho.out);have KgB:=zl ho KgB (by have:=N7.out;omega);have Kg7 : Hid (w8.heap[g7]? = some (.cells #[.string y.f0,.int .i64 y.f1,.slice A5 y.f2.length c5,.slice D5 y.f3.length d5,.int .u64 y.f4] 26 (0,0))):=hk;have HG:=zo ho HG Lg7;clear m0 m1 m2 m3 m4;clear hk ho))
        | (go_at_call 16;go_must (refine (HOF.out _).mono ?_;rintro e w9 ⟨rfl,hb⟩;have HG:=keepB HG hb;have E5:=zc E5 hb;have U5:=zc U5 hb;have PB:=zc PB hb;have KgB:=zk KgB hb;have Kg7:=zk Kg7 hb;clear hb))
        | ((with_reducible refine gate_dst (N:=95) rfl ?_);go_must (refine Kd.R_lit k43 (w0:=w9) w9.heap.size 43 ?hg (N:=95) ?hd (xs:=[(⟨n,tagOf s0⟩ : S43)]) (inner:=[.int .i64 n,.int .u32 (tagOf s0)]) (ok:=fun _=>True) (okp:=fun _=>True) ?hr ?hp (fun _ hk=>hk) trivial ?hB ?hS (by show (1 : Nat) ≤ _;decide) ?_;(case hd=>rfl);(case hg=>rfl);(case hr=>first | (go_simp;done) | (go_simp;rfl));(case hp=>exact pc_lit1 _);(case hB=>exact Below.refl _ _);(case hS=>exact Nat.le_refl _);intro v10 w10 ho hb10 hgr _;have HO:=zh ho;have PB:=zc PB (grown_below hgr);have HB10:=zh hb10;have HS10:=zh (show w9.heap.size ≤ w10.heap.size from hb10.size);clear ho hb10 hgr))
        | ((with_reducible refine gate_builtin (b:=.append) (xs:=#[.tmp 95,.tmp 96]) rfl ?_);at_builtin;go_must (refine appP (w0:=w9) w9.heap.size rfl (.tmp 95) (.tmp 96) rfl _ [(⟨n,tagOf s0⟩ : S43)] (pcs ps) Ap (pcs ps).length cp (fun _=>True) rfl rfl HO.out PB.out (fun _ _=>trivial) HB10.out HS10.out (by have:=HPL.out;rw [List.length_singleton];omega) ?_;intro v11 w11 ho hb;obtain ⟨Aq,cq,rfl⟩:=Kd.R_slice ho;have PB:=zh ((Kd.R_reads' ho).2.2);have XQ:=zh ((Kd.R_reads' ho).2.1);have HG:=keepB HG hb;have E5:=zc E5 hb;have U5:=zc U5 hb;have KgB:=zk KgB hb;have Kg7:=zk Kg7 hb;clear ho hb HO HB10 HS10)))
       go_roundw
       case rel=>exact ⟨k + 1,⟨n,s0⟩ :: ps,y,A5,D5,c5,d5,Aq,cq,rfl,rfl,by go_num,hlt,h8,by rw [List.length_cons,hpsl],HYX,HBY,HPN,KgB,Kg7,X5,Y5,E5,U5,XQ.out,PB,HG⟩
       case measure=>simp [intOf];omega
      ·change fe = 6 at he
       subst he
       clear HPL
       go_wp2_with (first
        | (go_at_call 15;go_must (refine (HLY.out AB DB cB dB _ EB.out XB UB.out YB).mono ?_;rintro e w5 ⟨vt,rfl,⟨A5,c5,D5,d5,rfl,X5,Y5,z3,z4⟩,hb⟩;have E5:=zh z3;have U5:=zh z4;have HG:=keepB HG hb;have PB:=zc PB hb;have KgB:=zk KgB hb;have Kg7:=zk Kg7 hb;clear hb z3 z4 f0 f1 f2 f3 f4))
        | ((with_reducible refine gate_dst (N:=15) rfl ?_);go_must (refine zx HG (N:=15) (cs:=#[.string ⟨#[]⟩,.int .i64 0,.slice none 0 0,.slice none 0 0,.int .u64 0]) (t:=26) ?hr ?_;(case hr=>first | (go_simp;done) | (go_simp;rfl));intro gY w6 KgY LgY HG hbelgY hqgY;have M1:=zh (show gB < gY by rw [hqgY];exact blk_lt KgB.out);have M2:=zh (show g7 < gY by rw [hqgY];exact blk_lt Kg7.out);have E5:=zc E5 hbelgY;have U5:=zc U5 hbelgY;have PB:=zc PB hbelgY;have KgB:=zk KgB hbelgY;have Kg7:=zk Kg7 hbelgY;clear hbelgY hqgY))
        | ((with_reducible refine gate_store (t:=26) (p:=15) (v:=.tmp 77) rfl ?_);go_must (refine zs 26 (.tmp 15) (.tmp 77) gY 0 26 [.string y.f0,.int .i64 y.f1,.slice A5 y.f2.length c5,.slice D5 y.f3.length d5,.int .u64 y.f4] KgY isz_bucket ?_;intro w7 hk ho;have E5:=zh (keepE E5.out KgY.out (bk_like _ _ _ _ _ _ _ _ _) ho.out);have U5:=zh (keepU U5.out KgY.out (bk_like _ _ _ _ _ _ _ _ _) ho.out);have PB:=zh (keepPc PB.out KgY.out (bk_no32 _ _ _ _ _ _ _ _ _) ho.out);have KgB:=zl ho KgB (by have:=M1.out;omega);have Kg7:=zl ho Kg7 (by have:=M2.out;omega);have KgY : Hid (w7.heap[gY]? = some (.cells #[.string y.f0,.int .i64 y.f1,.slice A5 y.f2.length c5,.slice D5 y.f3.length d5,.int .u64 y.f4] 26 (0,0))):=hk;have HG:=zo ho HG LgY;clear hk ho))
        | (go_at_call 14;go_must (refine (HZ.out _).mono ?_;rintro e w20 ⟨rfl,hb⟩;have HG:=keepB HG hb;clear hb)))
       go_ret
       exact ⟨rfl,HG.out⟩
   ·obtain rfl : k = 8:=by omega
    have p1 : (8 : Int) < (l.length : Int):=by omega
    have hwx:=whole_x HCB.out.1 HCB.out.2.2 HCB.out.2.1 (by rw [← HX.out];exact HBX.out) (by omega) (fun p hp=>(HPS.out p hp).2)
    rw [← HX.out] at hwx
    have hl100 : (pcs ps).length < 100:=by rw [pcs_len];omega
    have HWH:=zh (fun (A D : Option Addr) (c d : Nat) (Ap : Option Addr) (cp : Nat) (W : World) h2 g2 h3 g3 h4=>wholeB.walk x A D c d (cb.f4 + 1) (pcs ps) Ap cp 1099511627775 W h2 g2 h3 g3 hl100 h4)
    have HSX : Hid (∀ (A5 D5 B5 F5 : Option Addr) (c5 d5 e5 f5 : Nat) (W : World),Kd.C k56 W A5 x.f2.length x.f2 → x.f2.length ≤ c5 → Kd.C k101 W D5 x.f3.length x.f3 → x.f3.length ≤ d5 → Kd.C k56 W B5 x.f2.length x.f2 → x.f2.length ≤ e5 → Kd.C k101 W F5 x.f3.length x.f3 → x.f3.length ≤ f5 → Calls Tryz.prog 13 #[.agg #[.string x.f0,.int .i64 x.f1,.slice A5 x.f2.length c5,.slice D5 x.f3.length d5,.int .u64 x.f4],.agg #[.string x.f0,.int .i64 x.f1,.slice B5 x.f2.length e5,.slice F5 x.f3.length f5,.int .u64 x.f4]] W (fun e w'=>e = .returned (.bool true) ∧ Below W.heap.size W w')):=fun A5 D5 B5 F5 c5 d5 e5 f5 W h2 g2 h3 g3 h4 g4 h5 g5=>cellarerref09_Same.calls 1010001 x.f0 x.f1 A5 c5 x.f2 D5 d5 x.f3 x.f4 x.f0 x.f1 B5 e5 x.f2 F5 f5 x.f3 x.f4 true W h2 g2 h3 g3 h4 g4 h5 g5 (same9_self (small_bucket HBX.out) _ (by decide))
    clear hl100
    generalize wholeB x (cb.f4 + 1) (pcs ps) 1099511627775 = r at *
    obtain ⟨y,yn,yt,fe⟩:=r
    rcases hwx with ⟨he,⟨v,hv,hvd⟩,hlen3⟩ | ⟨he,h6 | ⟨h6,h0⟩⟩
    ·change fe = 0 at he
     change y.f3.length = cb.f3.length at hlen3
     subst he
     have HGT:=zh (fun (A D : Option Addr) (c d : Nat) (W : World) h2 g2 h3 g3=>getB.walk y A D c d kk W h2 g2 h3 g3)
     change getB y kk = _ at hv
     rw [hv] at HGT
     have vq1 : (v.f1.toList == (catP ps).toList) = true:=by rw [hvd];simp
     have vq3 : ((y.f3.length : Int) == (cb.f3.length : Int)) = true:=by rw [hlen3];exact beq_self_eq_true _
     clear hv hvd hlen3 HX HBX HPS HSX HCB HSM
     go_wp2_with (first
      | (go_at_call 17;go_must (refine (HWH.out AB DB cB dB Ap cp _ EB.out XB UB.out YB PB.out).mono ?_;rintro e w5 ⟨vt,rfl,⟨A5,c5,D5,d5,rfl,X5,Y5,z3,z4⟩,hb⟩;have E5:=zh z3;have U5:=zh z4;have HG:=keepB HG hb;have EB:=zc EB hb;have UB:=zc UB hb;have KgB:=zk KgB hb;have Kg7:=zk Kg7 hb;clear hb z3 z4 f0 f1 f2 f3 f4))
      | ((with_reducible refine gate_dst (N:=18) rfl ?_);go_must (refine zx HG (N:=18) (cs:=#[.string ⟨#[]⟩,.int .i64 0,.slice none 0 0,.slice none 0 0,.int .u64 0]) (t:=26) ?hr ?_;(case hr=>first | (go_simp;done) | (go_simp;rfl));intro gW w6 KgW LgW HG hbelgW hqgW;have M1:=zh (show gB < gW by rw [hqgW];exact blk_lt KgB.out);have M2:=zh (show g7 < gW by rw [hqgW];exact blk_lt Kg7.out);have E5:=zc E5 hbelgW;have U5:=zc U5 hbelgW;have EB:=zc EB hbelgW;have UB:=zc UB hbelgW;have KgB:=zk KgB hbelgW;have Kg7:=zk Kg7 hbelgW;clear hbelgW hqgW))
      | ((with_reducible refine gate_store (t:=26) (p:=18) (v:=.tmp 107) rfl ?_);go_must (refine zs 26 (.tmp 18) (.tmp 107) gW 0 26 [.string y.f0,.int .i64 y.f1,.slice A5 y.f2.length c5,.slice D5 y.f3.length d5,.int .u64 y.f4] KgW isz_bucket ?_;intro w7 hk ho;have E5:=zh (keepE E5.out KgW.out (bk_like _ _ _ _ _ _ _ _ _) ho.out);have U5:=zh (keepU U5.out KgW.out (bk_like _ _ _ _ _ _ _ _ _) ho.out);have EB:=zh (keepE EB.out KgW.out (bk_like _ _ _ _ _ _ _ _ _) ho.out);have UB:=zh (keepU UB.out KgW.out (bk_like _ _ _ _ _ _ _ _ _) ho.out);have KgB:=zl ho KgB (by have:=M1.out;omega);have Kg7:=zl ho Kg7 (by have:=M2.out;omega);have KgW : Hid (w7.heap[gW]? = some (.cells #[.string y.f0,.int .i64 y.f1,.slice A5 y.f2.length c5,.slice D5 y.f3.length d5,.int .u64 y.f4] 26 (0,0))):=hk;have HG:=zo ho HG LgW;obtain ⟨m0,m1,m2,m3,m4⟩:=zz5 KgW.out;clear hk ho))
      | (go_at_call 18;go_must (refine (HGT.out A5 D5 c5 d5 _ E5.out X5 U5.out Y5).mono ?_;rintro e w8 ⟨rfl,hb⟩;have HG:=keepB HG hb;have KgB:=zk KgB hb;have KgW:=zk KgW hb;clear hb m0 m1 m2 m3 m4))
      | ((with_reducible refine gate_dst (N:=22) rfl ?_);go_must (refine zx HG (N:=22) (cs:=#[.int .u64 0,.string ⟨#[]⟩,.bool false,.int .i64 0]) (t:=47) ?hr ?_;(case hr=>first | (go_simp;done) | (go_simp;rfl));intro gV w9 KgV LgV HG hbelgV hqgV;have M3:=zh (show gB < gV by rw [hqgV];exact blk_lt KgB.out);have M4:=zh (show gW < gV by rw [hqgV];exact blk_lt KgW.out);have KgB:=zk KgB hbelgV;have KgW:=zk KgW hbelgV;clear hbelgV hqgV))
      | ((with_reducible refine gate_store (t:=47) (p:=22) (v:=.tmp 136) rfl ?_);go_must (refine zs 47 (.tmp 22) (.tmp 136) gV 0 47 [.int .u64 v.f0,.string v.f1,.bool v.f2,.int .i64 v.f3] KgV (by kernel_rfl) ?_;intro wa hk ho;have KgB:=zl ho KgB (by have:=M3.out;omega);have KgW:=zl ho KgW (by have:=M4.out;omega);have KgV : Hid (wa.heap[gV]? = some (.cells #[.int .u64 v.f0,.string v.f1,.bool v.f2,.int .i64 v.f3] 47 (0,0))):=hk;have HG:=zo ho HG LgV;obtain ⟨n0,n1,n2,n3⟩:=zz4 KgV.out;obtain ⟨m0,m1,m2,m3,m4⟩:=zz5 KgW.out;obtain ⟨q0,q1,q2,q3,q4⟩:=zz5 KgB.out;clear hk ho))
      | (go_at_call 14;go_must (refine (HZ.out _).mono ?_;rintro e w20 ⟨rfl,hb⟩;have HG:=keepB HG hb;clear hb)))
     go_ret
     exact ⟨rfl,HG.out⟩
    ·change y = x at he
     change fe = 6 at h6
     subst he h6
     clear HX HBX HPS HCB HSM
     go_wp2_with (first
      | (go_at_call 17;go_must (refine (HWH.out AB DB cB dB Ap cp _ EB.out XB UB.out YB PB.out).mono ?_;rintro e w5 ⟨vt,rfl,⟨A5,c5,D5,d5,rfl,X5,Y5,z3,z4⟩,hb⟩;have E5:=zh z3;have U5:=zh z4;have HG:=keepB HG hb;have EB:=zc EB hb;have UB:=zc UB hb;have KgB:=zk KgB hb;have Kg7:=zk Kg7 hb;clear hb z3 z4 f0 f1 f2 f3 f4))
      | ((with_reducible refine gate_dst (N:=18) rfl ?_);go_must (refine zx HG (N:=18) (cs:=#[.string ⟨#[]⟩,.int .i64 0,.slice none 0 0,.slice none 0 0,.int .u64 0]) (t:=26) ?hr ?_;(case hr=>first | (go_simp;done) | (go_simp;rfl));intro gW w6 KgW LgW HG hbelgW hqgW;have M1:=zh (show gB < gW by rw [hqgW];exact blk_lt KgB.out);have M2:=zh (show g7 < gW by rw [hqgW];exact blk_lt Kg7.out);have E5:=zc E5 hbelgW;have U5:=zc U5 hbelgW;have EB:=zc EB hbelgW;have UB:=zc UB hbelgW;have KgB:=zk KgB hbelgW;have Kg7:=zk Kg7 hbelgW;clear hbelgW hqgW))
      | ((with_reducible refine gate_store (t:=26) (p:=18) (v:=.tmp 107) rfl ?_);go_must (refine zs 26 (.tmp 18) (.tmp 107) gW 0 26 [.string y.f0,.int .i64 y.f1,.slice A5 y.f2.length c5,.slice D5 y.f3.length d5,.int .u64 y.f4] KgW isz_bucket ?_;intro w7 hk ho;have E5:=zh (keepE E5.out KgW.out (bk_like _ _ _ _ _ _ _ _ _) ho.out);have U5:=zh (keepU U5.out KgW.out (bk_like _ _ _ _ _ _ _ _ _) ho.out);have EB:=zh (keepE EB.out KgW.out (bk_like _ _ _ _ _ _ _ _ _) ho.out);have UB:=zh (keepU UB.out KgW.out (bk_like _ _ _ _ _ _ _ _ _) ho.out);have KgB:=zl ho KgB (by have:=M1.out;omega);have Kg7:=zl ho Kg7 (by have:=M2.out;omega);have KgW : Hid (w7.heap[gW]? = some (.cells #[.string y.f0,.int .i64 y.f1,.slice A5 y.f2.length c5,.slice D5 y.f3.length d5,.int .u64 y.f4] 26 (0,0))):=hk;have HG:=zo ho HG LgW;obtain ⟨m0,m1,m2,m3,m4⟩:=zz5 KgW.out;obtain ⟨f0,f1,f2,f3,f4⟩:=zz5 Kg7.out;clear hk ho))
      | (go_at_call 13;go_must (refine (HSX.out A5 D5 AB DB c5 d5 cB dB _ E5.out X5 U5.out Y5 EB.out XB UB.out YB).mono ?_;rintro e w8 ⟨rfl,hb⟩;have HG:=keepB HG hb;clear hb))
      | (go_at_call 14;go_must (refine (HZ.out _).mono ?_;rintro e w20 ⟨rfl,hb⟩;have HG:=keepB HG hb;clear hb)))
     go_ret
     exact ⟨rfl,HG.out⟩
    ·rw [h0] at hpsl;cases hpsl
  ·obtain rfl : k = l.length:=by omega
   have hwx:=whole_x HCB.out.1 HCB.out.2.2 HCB.out.2.1 (by rw [← HX.out];exact HBX.out) (by omega) (fun p hp=>(HPS.out p hp).2)
   rw [← HX.out] at hwx
   have hl100 : (pcs ps).length < 100:=by rw [pcs_len];omega
   have HWH:=zh (fun (A D : Option Addr) (c d : Nat) (Ap : Option Addr) (cp : Nat) (W : World) h2 g2 h3 g3 h4=>wholeB.walk x A D c d (cb.f4 + 1) (pcs ps) Ap cp 1099511627775 W h2 g2 h3 g3 hl100 h4)
   have HSX : Hid (∀ (A5 D5 B5 F5 : Option Addr) (c5 d5 e5 f5 : Nat) (W : World),Kd.C k56 W A5 x.f2.length x.f2 → x.f2.length ≤ c5 → Kd.C k101 W D5 x.f3.length x.f3 → x.f3.length ≤ d5 → Kd.C k56 W B5 x.f2.length x.f2 → x.f2.length ≤ e5 → Kd.C k101 W F5 x.f3.length x.f3 → x.f3.length ≤ f5 → Calls Tryz.prog 13 #[.agg #[.string x.f0,.int .i64 x.f1,.slice A5 x.f2.length c5,.slice D5 x.f3.length d5,.int .u64 x.f4],.agg #[.string x.f0,.int .i64 x.f1,.slice B5 x.f2.length e5,.slice F5 x.f3.length f5,.int .u64 x.f4]] W (fun e w'=>e = .returned (.bool true) ∧ Below W.heap.size W w')):=fun A5 D5 B5 F5 c5 d5 e5 f5 W h2 g2 h3 g3 h4 g4 h5 g5=>cellarerref09_Same.calls 1010001 x.f0 x.f1 A5 c5 x.f2 D5 d5 x.f3 x.f4 x.f0 x.f1 B5 e5 x.f2 F5 f5 x.f3 x.f4 true W h2 g2 h3 g3 h4 g4 h5 g5 (same9_self (small_bucket HBX.out) _ (by decide))
   clear hl100
   generalize wholeB x (cb.f4 + 1) (pcs ps) 1099511627775 = r at *
   obtain ⟨y,yn,yt,fe⟩:=r
   rcases hwx with ⟨he,⟨v,hv,hvd⟩,hlen3⟩ | ⟨he,h6 | ⟨h6,h0⟩⟩
   ·change fe = 0 at he
    change y.f3.length = cb.f3.length at hlen3
    subst he
    have HGT:=zh (fun (A D : Option Addr) (c d : Nat) (W : World) h2 g2 h3 g3=>getB.walk y A D c d kk W h2 g2 h3 g3)
    change getB y kk = _ at hv
    rw [hv] at HGT
    have vq1 : (v.f1.toList == (catP ps).toList) = true:=by rw [hvd];simp
    have vq3 : ((y.f3.length : Int) == (cb.f3.length : Int)) = true:=by rw [hlen3];exact beq_self_eq_true _
    clear hv hvd hlen3 HX HBX HPS HSX HCB HSM
    go_wp2_with (first
     | (go_at_call 17;go_must (refine (HWH.out AB DB cB dB Ap cp _ EB.out XB UB.out YB PB.out).mono ?_;rintro e w5 ⟨vt,rfl,⟨A5,c5,D5,d5,rfl,X5,Y5,z3,z4⟩,hb⟩;have E5:=zh z3;have U5:=zh z4;have HG:=keepB HG hb;have EB:=zc EB hb;have UB:=zc UB hb;have KgB:=zk KgB hb;have Kg7:=zk Kg7 hb;clear hb z3 z4 f0 f1 f2 f3 f4))
     | ((with_reducible refine gate_dst (N:=18) rfl ?_);go_must (refine zx HG (N:=18) (cs:=#[.string ⟨#[]⟩,.int .i64 0,.slice none 0 0,.slice none 0 0,.int .u64 0]) (t:=26) ?hr ?_;(case hr=>first | (go_simp;done) | (go_simp;rfl));intro gW w6 KgW LgW HG hbelgW hqgW;have M1:=zh (show gB < gW by rw [hqgW];exact blk_lt KgB.out);have M2:=zh (show g7 < gW by rw [hqgW];exact blk_lt Kg7.out);have E5:=zc E5 hbelgW;have U5:=zc U5 hbelgW;have EB:=zc EB hbelgW;have UB:=zc UB hbelgW;have KgB:=zk KgB hbelgW;have Kg7:=zk Kg7 hbelgW;clear hbelgW hqgW))
     | ((with_reducible refine gate_store (t:=26) (p:=18) (v:=.tmp 107) rfl ?_);go_must (refine zs 26 (.tmp 18) (.tmp 107) gW 0 26 [.string y.f0,.int .i64 y.f1,.slice A5 y.f2.length c5,.slice D5 y.f3.length d5,.int .u64 y.f4] KgW isz_bucket ?_;intro w7 hk ho;have E5:=zh (keepE E5.out KgW.out (bk_like _ _ _ _ _ _ _ _ _) ho.out);have U5:=zh (keepU U5.out KgW.out (bk_like _ _ _ _ _ _ _ _ _) ho.out);have EB:=zh (keepE EB.out KgW.out (bk_like _ _ _ _ _ _ _ _ _) ho.out);have UB:=zh (keepU UB.out KgW.out (bk_like _ _ _ _ _ _ _ _ _) ho.out);have KgB:=zl ho KgB (by have:=M1.out;omega);have Kg7:=zl ho Kg7 (by have:=M2.out;omega);have KgW : Hid (w7.heap[gW]? = some (.cells #[.string y.f0,.int .i64 y.f1,.slice A5 y.f2.length c5,.slice D5 y.f3.length d5,.int .u64 y.f4] 26 (0,0))):=hk;have HG:=zo ho HG LgW;obtain ⟨m0,m1,m2,m3,m4⟩:=zz5 KgW.out;clear hk ho))
     | (go_at_call 18;go_must (refine (HGT.out A5 D5 c5 d5 _ E5.out X5 U5.out Y5).mono ?_;rintro e w8 ⟨rfl,hb⟩;have HG:=keepB HG hb;have KgB:=zk KgB hb;have KgW:=zk KgW hb;clear hb m0 m1 m2 m3 m4))
     | ((with_reducible refine gate_dst (N:=22) rfl ?_);go_must (refine zx HG (N:=22) (cs:=#[.int .u64 0,.string ⟨#[]⟩,.bool false,.int .i64 0]) (t:=47) ?hr ?_;(case hr=>first | (go_simp;done) | (go_simp;rfl));intro gV w9 KgV LgV HG hbelgV hqgV;have M3:=zh (show gB < gV by rw [hqgV];exact blk_lt KgB.out);have M4:=zh (show gW < gV by rw [hqgV];exact blk_lt KgW.out);have KgB:=zk KgB hbelgV;have KgW:=zk KgW hbelgV;clear hbelgV hqgV))
     | ((with_reducible refine gate_store (t:=47) (p:=22) (v:=.tmp 136) rfl ?_);go_must (refine zs 47 (.tmp 22) (.tmp 136) gV 0 47 [.int .u64 v.f0,.string v.f1,.bool v.f2,.int .i64 v.f3] KgV (by kernel_rfl) ?_;intro wa hk ho;have KgB:=zl ho KgB (by have:=M3.out;omega);have KgW:=zl ho KgW (by have:=M4.out;omega);have KgV : Hid (wa.heap[gV]? = some (.cells #[.int .u64 v.f0,.string v.f1,.bool v.f2,.int .i64 v.f3] 47 (0,0))):=hk;have HG:=zo ho HG LgV;obtain ⟨n0,n1,n2,n3⟩:=zz4 KgV.out;obtain ⟨m0,m1,m2,m3,m4⟩:=zz5 KgW.out;obtain ⟨q0,q1,q2,q3,q4⟩:=zz5 KgB.out;clear hk ho))
     | (go_at_call 14;go_must (refine (HZ.out _).mono ?_;rintro e w20 ⟨rfl,hb⟩;have HG:=keepB HG hb;clear hb)))
    go_ret
    exact ⟨rfl,HG.out⟩
   ·change y = x at he
    change fe = 6 at h6
    subst he h6
    clear HX HBX HPS HCB HSM
    go_wp2_with (first
     | (go_at_call 17;go_must (refine (HWH.out AB DB cB dB Ap cp _ EB.out XB UB.out YB PB.out).mono ?_;rintro e w5 ⟨vt,rfl,⟨A5,c5,D5,d5,rfl,X5,Y5,z3,z4⟩,hb⟩;have E5:=zh z3;have U5:=zh z4;have HG:=keepB HG hb;have EB:=zc EB hb;have UB:=zc UB hb;have KgB:=zk KgB hb;have Kg7:=zk Kg7 hb;clear hb z3 z4 f0 f1 f2 f3 f4))
     | ((with_reducible refine gate_dst (N:=18) rfl ?_);go_must (refine zx HG (N:=18) (cs:=#[.string ⟨#[]⟩,.int .i64 0,.slice none 0 0,.slice none 0 0,.int .u64 0]) (t:=26) ?hr ?_;(case hr=>first | (go_simp;done) | (go_simp;rfl));intro gW w6 KgW LgW HG hbelgW hqgW;have M1:=zh (show gB < gW by rw [hqgW];exact blk_lt KgB.out);have M2:=zh (show g7 < gW by rw [hqgW];exact blk_lt Kg7.out);have E5:=zc E5 hbelgW;have U5:=zc U5 hbelgW;have EB:=zc EB hbelgW;have UB:=zc UB hbelgW;have KgB:=zk KgB hbelgW;have Kg7:=zk Kg7 hbelgW;clear hbelgW hqgW))
     | ((with_reducible refine gate_store (t:=26) (p:=18) (v:=.tmp 107) rfl ?_);go_must (refine zs 26 (.tmp 18) (.tmp 107) gW 0 26 [.string y.f0,.int .i64 y.f1,.slice A5 y.f2.length c5,.slice D5 y.f3.length d5,.int .u64 y.f4] KgW isz_bucket ?_;intro w7 hk ho;have E5:=zh (keepE E5.out KgW.out (bk_like _ _ _ _ _ _ _ _ _) ho.out);have U5:=zh (keepU U5.out KgW.out (bk_like _ _ _ _ _ _ _ _ _) ho.out);have EB:=zh (keepE EB.out KgW.out (bk_like _ _ _ _ _ _ _ _ _) ho.out);have UB:=zh (keepU UB.out KgW.out (bk_like _ _ _ _ _ _ _ _ _) ho.out);have KgB:=zl ho KgB (by have:=M1.out;omega);have Kg7:=zl ho Kg7 (by have:=M2.out;omega);have KgW : Hid (w7.heap[gW]? = some (.cells #[.string y.f0,.int .i64 y.f1,.slice A5 y.f2.length c5,.slice D5 y.f3.length d5,.int .u64 y.f4] 26 (0,0))):=hk;have HG:=zo ho HG LgW;obtain ⟨m0,m1,m2,m3,m4⟩:=zz5 KgW.out;obtain ⟨f0,f1,f2,f3,f4⟩:=zz5 Kg7.out;clear hk ho))
     | (go_at_call 13;go_must (refine (HSX.out A5 D5 AB DB c5 d5 cB dB _ E5.out X5 U5.out Y5 EB.out XB UB.out YB).mono ?_;rintro e w8 ⟨rfl,hb⟩;have HG:=keepB HG hb;clear hb))
     | (go_at_call 14;go_must (refine (HZ.out _).mono ?_;rintro e w20 ⟨rfl,hb⟩;have HG:=keepB HG hb;clear hb)))
    go_ret
    exact ⟨rfl,HG.out⟩
   ·change y = x at he
    change fe = 1 at h6
    subst he h6 h0
    clear HX HBX HPS HCB HSM
    go_wp2_with (first
     | (go_at_call 17;go_must (refine (HWH.out AB DB cB dB Ap cp _ EB.out XB UB.out YB PB.out).mono ?_;rintro e w5 ⟨vt,rfl,⟨A5,c5,D5,d5,rfl,X5,Y5,z3,z4⟩,hb⟩;have E5:=zh z3;have U5:=zh z4;have HG:=keepB HG hb;have EB:=zc EB hb;have UB:=zc UB hb;have KgB:=zk KgB hb;have Kg7:=zk Kg7 hb;clear hb z3 z4 f0 f1 f2 f3 f4))
     | ((with_reducible refine gate_dst (N:=18) rfl ?_);go_must (refine zx HG (N:=18) (cs:=#[.string ⟨#[]⟩,.int .i64 0,.slice none 0 0,.slice none 0 0,.int .u64 0]) (t:=26) ?hr ?_;(case hr=>first | (go_simp;done) | (go_simp;rfl));intro gW w6 KgW LgW HG hbelgW hqgW;have M1:=zh (show gB < gW by rw [hqgW];exact blk_lt KgB.out);have M2:=zh (show g7 < gW by rw [hqgW];exact blk_lt Kg7.out);have E5:=zc E5 hbelgW;have U5:=zc U5 hbelgW;have EB:=zc EB hbelgW;have UB:=zc UB hbelgW;have KgB:=zk KgB hbelgW;have Kg7:=zk Kg7 hbelgW;clear hbelgW hqgW))
     | ((with_reducible refine gate_store (t:=26) (p:=18) (v:=.tmp 107) rfl ?_);go_must (refine zs 26 (.tmp 18) (.tmp 107) gW 0 26 [.string y.f0,.int .i64 y.f1,.slice A5 y.f2.length c5,.slice D5 y.f3.length d5,.int .u64 y.f4] KgW isz_bucket ?_;intro w7 hk ho;have E5:=zh (keepE E5.out KgW.out (bk_like _ _ _ _ _ _ _ _ _) ho.out);have U5:=zh (keepU U5.out KgW.out (bk_like _ _ _ _ _ _ _ _ _) ho.out);have EB:=zh (keepE EB.out KgW.out (bk_like _ _ _ _ _ _ _ _ _) ho.out);have UB:=zh (keepU UB.out KgW.out (bk_like _ _ _ _ _ _ _ _ _) ho.out);have KgB:=zl ho KgB (by have:=M1.out;omega);have Kg7:=zl ho Kg7 (by have:=M2.out;omega);have KgW : Hid (w7.heap[gW]? = some (.cells #[.string y.f0,.int .i64 y.f1,.slice A5 y.f2.length c5,.slice D5 y.f3.length d5,.int .u64 y.f4] 26 (0,0))):=hk;have HG:=zo ho HG LgW;obtain ⟨m0,m1,m2,m3,m4⟩:=zz5 KgW.out;obtain ⟨f0,f1,f2,f3,f4⟩:=zz5 Kg7.out;clear hk ho))
     | (go_at_call 13;go_must (refine (HSX.out A5 D5 AB DB c5 d5 cB dB _ E5.out X5 U5.out Y5 EB.out XB UB.out YB).mono ?_;rintro e w8 ⟨rfl,hb⟩;have HG:=keepB HG hb;clear hb))
     | (go_at_call 14;go_must (refine (HZ.out _).mono ?_;rintro e w20 ⟨rfl,hb⟩;have HG:=keepB HG hb;clear hb)))
    go_ret
    exact ⟨rfl,HG.out⟩
end
end Go.Proofs.YtekooapbdgippaaGreatDoor.Q
namespace Go.Proofs.YtekooapbdgippaaGreatDoor.Q
open Go.ChangeShapes Go.WideShapes Go.ChangeAt Go.WideMaps Go.WideElems Go.RowKit
set_option linter.unusedVariables false

theorem own : ownKnob Tryz.prog.godebug = none := by kernel_rfl
theorem laidOut : laidOutB Tryz.prog = true := by kernel_rfl
noncomputable abbrev laid3 := Rows.bucketOffRow.laid
/-- The door's own heap meets the condition. -/
theorem door_met (os : Os) (args : Array Value) : laidMetH Tryz.prog laid3 ((World.doorLaid Tryz.prog 400 os).forCall (fun _ _ => 0) ⟨#[], args, []⟩).memory :=
 laidMetH_of_parts3 (fuel := 8) (laidMet_of_run' 8 (by kernel_rfl) (by kernel_rfl)) (by kernel_rfl) (by kernel_rfl)
end Go.Proofs.YtekooapbdgippaaGreatDoor.Q
