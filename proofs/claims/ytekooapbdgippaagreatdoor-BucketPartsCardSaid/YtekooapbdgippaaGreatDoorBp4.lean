/- What comes in parts is in the end what a Put of it would be: the latest version of the key has those octets, and the upload is gone; whatever the input, as the row says. Part 25 of 26. -/
import Derived.Test.YtekooapbdgippaaGreatDoorBp3
namespace Go.Proofs.YtekooapbdgippaaGreatDoor.Q
open Go.RowKit Go.Proofs.YtekooapbdgippaaGreatDoorW.PrintWords Go.Proofs.YtekooapbdgippaaGreatDoorW.PrintLast Go.Proofs.YtekooapbdgippaaGreatDoorW.PrintMore
open List renaming getElem_toArray → zA, getElem_cons_zero → zB, getElem_cons_succ → zC, setIfInBounds_toArray → zD, set_cons_zero → zE, set_cons_succ → zF
set_option linter.unusedVariables false
set_option linter.unusedSimpArgs false
set_option maxHeartbeats 8000000
set_option maxRecDepth 100000
section
open Go.WideMaps Go.Maps
attribute [local go_sem] Oper.semAt_some
theorem put_yes1 (A : Option Addr) (c : Nat) (l : List S47) (st : Int) (x : S47) (w : World) (hr : Kd.C k47 w A l.length l) (fr : Option (Nat × Value)) (hf : Instr.findNow (.int .i64) (.int .i64 st) laysE.toList 0 = some fr) (h1 : chainB l = true) (fid : Nat) (L : List S47) (er : Int) (res : List S47) (rer : Int) (hlv : lookOf .nilFunc fr = (.func (.func fid) #[] #[],true)) (eg : ∀ args w,(callFunc fid args).run Tryz.prog w = .ok (.enter fid args) w) (hl : ∀ W,Below w.heap.size w W → Calls Tryz.prog fid #[.slice A l.length c,.agg #[.int .u64 x.f0,.string x.f1,.bool x.f2,.int .i64 x.f3]] W (VPost L er W)) (hres : (er == 0) = false ∧ res = [] ∧ rer = er ∨ (er == 0) = true ∧ 20 < L.length ∧ res = [] ∧ rer = 6 ∨ (er == 0) = true ∧ L.length ≤ 20 ∧ res = L ∧ rer = 0) (h2 : mayV x = true) (h3 : 0 < l.length) (y : Int) (hy : y = l[0].f3) (h4 : ¬ x.f3 < y) :
  Calls Tryz.prog 52 #[.slice A l.length c,.int .i64 st,.agg #[.int .u64 x.f0,.string x.f1,.bool x.f2,.int .i64 x.f3]] w (VPost res rer w):=by
 have HCK:=zh (fun (W : World) (h : Below w.heap.size w W)=>chain.walk A c l W (Kd.C_below hr h))
 have HMY:=zh (fun (W : World)=>mayV.walk x W)
 have HF:=zh hf;clear hf
 have HLV:=zh hlv;clear hlv
 have HL:=zh hl;clear hl
 have d0 : decide ((0 : Int) < (l.length : Int)) = true:=decide_eq_true (by omega)
 have d0n : decide (0 < l.length) = true:=decide_eq_true (by omega)
 have d9 : (0 : Int) < (l.length : Int):=by omega
 obtain ⟨ad,e',g0,g1,g2,g3⟩:=atVersion hr (Below.refl _ _) 0 h3;clear g0 g1 g2
 subst e'
 have G3:=zh g3;clear g3
 rw [Nat.zero_mul,Addr.add_zero',← hy] at G3
 rw [h1] at HCK
 rw [show errB true = 0 from rfl] at HCK
 rw [h2] at HMY
 have d1 : decide (x.f3 < y) = false:=decide_eq_false h4
 clear h1 h2 hr hy
 go_enter Tryz.func52,Tryz.ntmps52
 go_wp2_with (first
  | (((with_reducible refine gate_dst (N:=5) rfl ?_);go_must (refine box_event ?hg (N:=5) ?hd (cs:=#[.int .u64 x.f0,.string x.f1,.bool x.f2,.int .i64 x.f3]) (t:=47) ?hr ?_;(case hd=>rfl);(case hg=>rfl);(case hr=>first | (go_simp;done) | (go_simp;rfl));intro gx hgx w1 hb1 hbel1;have KX:=zh hb1;have HB1:=zh hbel1;have GX:=zh (blk_lt hb1);clear hb1 hbel1 hgx));have GB0:=zh HB1.out.size)
  | (((with_reducible refine gate_dst (N:=13) rfl ?_);go_must (refine makeMap_event (t:=176) rfl rfl ?_;intro gm hgm w2 hm2 hbel2;have M2:=zh hm2;have GBX:=zh (show w.heap.size ≤ gm by rw [hgm];exact HB1.out.size);have HB2:=keepB HB1 hbel2;have K2:=zk KX hbel2;have GN:=zh (show gx ≠ gm by have:=GX.out;omega);clear hm2 hbel2 hgm));have GB : Hid (w.heap.size ≤ gm):=GBX)
  | ((with_reducible refine gate_insert (k:=.const (.int .i64 0)) rfl ?_);go_must (refine wpList_insert_int rfl rfl 176 (.tmp 13) _ _ rfl 3 173 .i64 Tryz.underlying176 Tryz.underlying3 gm #[] 0 0 _ rfl rfl rfl M2.out rfl ?_;intro w3 M3 HO3;have HB3:=zo HO3 HB2 GB;have K3:=zl HO3 K2 GN.out))
  | ((with_reducible refine gate_insert (k:=.const (.int .i64 1)) rfl ?_);go_must (refine wpList_insert_int rfl rfl 176 (.tmp 13) _ _ rfl 3 173 .i64 Tryz.underlying176 Tryz.underlying3 gm #[⟨.int .i64 0,.func (.func 107) #[] #[],0⟩] 1 1 _ rfl rfl rfl M3.out rfl ?_;intro w4 M4 HO4;have HB4:=zo HO4 HB3 GB;have K4:=zl HO4 K3 GN.out))
  | ((with_reducible refine gate_insert (k:=.const (.int .i64 2)) rfl ?_);go_must (refine wpList_insert_int rfl rfl 176 (.tmp 13) _ _ rfl 3 173 .i64 Tryz.underlying176 Tryz.underlying3 gm #[⟨.int .i64 0,.func (.func 107) #[] #[],0⟩,⟨.int .i64 1,.func (.func 108) #[] #[],1⟩] 2 2 _ rfl rfl rfl M4.out rfl ?_;intro w5 M5 HO5;have HB5:=zo HO5 HB4 GB;have K5:=zl HO5 K4 GN.out))
  | ((with_reducible refine gate_lookup (t:=176) rfl ?_);go_must (refine wpList_look_int rfl 176 _ _ rfl 3 173 .i64 Tryz.underlying176 Tryz.underlying3 gm laysE 3 st rfl rfl M5.out fr HF.out (.nilFunc) (.func (.func fid) #[] #[]) true (fun w=>by kernel_rfl) HLV.out ?_)))
 clear M2 M3 M4 M5 HO3 HO4 HO5 K2 K3 K4 KX HB1 HB2 HB3 HB4 HF
 refine wp_region_held_drew (S:=fun W=>W.cell? ⟨gx,0,none⟩ = some (.int .u64 x.f0) ∧ W.cell? ⟨gx,1,none⟩ = some (.string x.f1) ∧ W.cell? ⟨gx,2,none⟩ = some (.bool x.f2) ∧ W.cell? ⟨gx,3,none⟩ = some (.int .i64 x.f3) ∧ Below w.heap.size w W ∧ W.cell? ⟨ad.block,ad.off + 3,none⟩ = some (.int .i64 y)) (by kernel_rfl) ?_ (fun hHeld=>?_)
 ·exact ⟨blk_cell (blk_drew K5.out) 0,blk_cell (blk_drew K5.out) 1,blk_cell (blk_drew K5.out) 2,blk_cell (blk_drew K5.out) 3,HB5.out.drew,keepc HB5.out.drew G3.out⟩
 clear K5 HB5
 refine zt 0 (v:=?v0g6) ?y0g6 ?r0g6
 case y0g6=>(rintro w ⟨s0,s1,s2,s3,s4,s5⟩;go_simp;try with_reducible rfl)
 try simp only [zA,zB,zC,Act.put,zD,zE,zF]
 refine wpAnyH_ready (rs:=[1]) (by kernel_rfl) (by simp) ?_
 refine AllReadyH.cons (o:=_) rfl (fun K hK=>?_) AllReadyH.nil
 rw [if_pos (by rfl)]
 go_simp
 obtain ⟨s0,s1,s2,s3,s4,s5⟩:=hHeld
 refine (HCK.out _ s4).mono ?_
 rintro e8 w8 ⟨rfl,hb8⟩
 refine hK.out _ _ ⟨keepc hb8 s0,keepc hb8 s1,keepc hb8 s2,keepc hb8 s3,s4.trans (hb8.mono s4.size),keepc hb8 s5⟩ (fun hHeld=>?_)
 clear hK K hb8 s0 s1 s2 s3 s4 s5
 try simp only [zA,zB,zC,Act.put,zD,zE,zF]
 refine zt 2 (v:=?v2g6) ?y2g6 ?r2g6
 case y2g6=>(rintro w ⟨s0,s1,s2,s3,s4,s5⟩;go_simp;try with_reducible rfl)
 try simp only [zA,zB,zC,Act.put,zD,zE,zF]
 refine zt 3 (v:=?v3g6) ?y3g6 ?r3g6
 case y3g6=>(rintro w ⟨s0,s1,s2,s3,s4,s5⟩;go_simp;try with_reducible rfl)
 try simp only [zA,zB,zC,Act.put,zD,zE,zF]
 refine zt 4 (v:=?v4g6) ?y4g6 ?r4g6
 case y4g6=>(rintro w ⟨s0,s1,s2,s3,s4,s5⟩;go_simp;try with_reducible rfl)
 try simp only [zA,zB,zC,Act.put,zD,zE,zF]
 refine zt 5 (v:=?v5g6) ?y5g6 ?r5g6
 case y5g6=>(rintro w ⟨s0,s1,s2,s3,s4,s5⟩;go_simp;try with_reducible rfl)
 try simp only [zA,zB,zC,Act.put,zD,zE,zF]
 refine zt 6 (v:=?v6g6) ?y6g6 ?r6g6
 case y6g6=>(rintro w ⟨s0,s1,s2,s3,s4,s5⟩;go_simp;try with_reducible rfl)
 try simp only [zA,zB,zC,Act.put,zD,zE,zF]
 refine zt 7 (v:=?v7g6) ?y7g6 ?r7g6
 case y7g6=>(rintro w ⟨s0,s1,s2,s3,s4,s5⟩;go_simp;try with_reducible rfl)
 try simp only [zA,zB,zC,Act.put,zD,zE,zF]
 refine zt 8 (v:=?v8g6) ?y8g6 ?r8g6
 case y8g6=>(rintro w ⟨s0,s1,s2,s3,s4,s5⟩;go_simp;try with_reducible rfl)
 try simp only [zA,zB,zC,Act.put,zD,zE,zF]
 refine wpAnyH_ready (rs:=[9]) (by kernel_rfl) (by simp) ?_
 refine AllReadyH.cons (o:=_) rfl (fun K hK=>?_) AllReadyH.nil
 rw [if_pos (by rfl)]
 go_simp
 obtain ⟨s0,s1,s2,s3,s4,s5⟩:=hHeld
 refine (HMY.out _).mono ?_
 rintro e8 w8 ⟨rfl,hb8⟩
 refine hK.out _ _ ⟨keepc hb8 s0,keepc hb8 s1,keepc hb8 s2,keepc hb8 s3,s4.trans (hb8.mono s4.size),keepc hb8 s5⟩ (fun hHeld=>?_)
 clear hK K hb8 s0 s1 s2 s3 s4 s5
 try simp only [zA,zB,zC,Act.put,zD,zE,zF]
 refine zt 10 (v:=?v10g6) ?y10g6 ?r10g6
 case y10g6=>(rintro w ⟨s0,s1,s2,s3,s4,s5⟩;go_simp;try with_reducible rfl)
 try simp only [zA,zB,zC,Act.put,zD,zE,zF]
 refine zt 11 (v:=?v11g6) ?y11g6 ?r11g6
 case y11g6=>(rintro w ⟨s0,s1,s2,s3,s4,s5⟩;go_simp;try with_reducible rfl)
 try simp only [zA,zB,zC,Act.put,zD,zE,zF]
 refine zt 12 (v:=?v12g6) ?y12g6 ?r12g6
 case y12g6=>(rintro w ⟨s0,s1,s2,s3,s4,s5⟩;go_simp;try with_reducible rfl)
 try simp only [zA,zB,zC,Act.put,zD,zE,zF]
 refine zt 13 (v:=?v13g6) ?y13g6 ?r13g6
 case y13g6=>(rintro w ⟨s0,s1,s2,s3,s4,s5⟩;go_simp;try with_reducible rfl)
 try simp only [zA,zB,zC,Act.put,zD,zE,zF]
 refine zt 14 (v:=?v14g6) ?y14g6 ?r14g6
 case y14g6=>(rintro w ⟨s0,s1,s2,s3,s4,s5⟩;go_simp;try with_reducible rfl)
 try simp only [zA,zB,zC,Act.put,zD,zE,zF]
 refine zt 15 (v:=?v15g6) ?y15g6 ?r15g6
 case y15g6=>(rintro w ⟨s0,s1,s2,s3,s4,s5⟩;go_simp;try with_reducible rfl)
 try simp only [zA,zB,zC,Act.put,zD,zE,zF]
 refine zt 16 (v:=?v16g6) ?y16g6 ?r16g6
 case y16g6=>(rintro w ⟨s0,s1,s2,s3,s4,s5⟩;go_simp;try with_reducible rfl)
 try simp only [zA,zB,zC,Act.put,zD,zE,zF]
 refine zt 17 (v:=?v17g6) ?y17g6 ?r17g6
 case y17g6=>(rintro w ⟨s0,s1,s2,s3,s4,s5⟩;go_simp;try with_reducible rfl)
 try simp only [zA,zB,zC,Act.put,zD,zE,zF]
 refine zt 18 (v:=?v18g6) ?y18g6 ?r18g6
 case y18g6=>(rintro w ⟨s0,s1,s2,s3,s4,s5⟩;go_simp;try with_reducible rfl)
 try simp only [zA,zB,zC,Act.put,zD,zE,zF]
 refine zt 19 (v:=?v19g6) ?y19g6 ?r19g6
 case y19g6=>(rintro w ⟨s0,s1,s2,s3,s4,s5⟩;go_simp;try with_reducible rfl)
 try simp only [zA,zB,zC,Act.put,zD,zE,zF]
 refine zt 20 (v:=?v20g6) ?y20g6 ?r20g6
 case y20g6=>(rintro w ⟨s0,s1,s2,s3,s4,s5⟩;go_simp;try with_reducible rfl)
 try simp only [zA,zB,zC,Act.put,zD,zE,zF]
 refine zt 21 (v:=?v21g6) ?y21g6 ?r21g6
 case y21g6=>(rintro w ⟨s0,s1,s2,s3,s4,s5⟩;go_simp;try with_reducible rfl)
 try simp only [zA,zB,zC,Act.put,zD,zE,zF]
 refine zt 22 (v:=?v22g6) ?y22g6 ?r22g6
 case y22g6=>(rintro w ⟨s0,s1,s2,s3,s4,s5⟩;go_simp;try with_reducible rfl)
 try simp only [zA,zB,zC,Act.put,zD,zE,zF]
 refine zt 23 (v:=?v23g6) ?y23g6 ?r23g6
 case y23g6=>(rintro w ⟨s0,s1,s2,s3,s4,s5⟩;go_simp;try with_reducible rfl)
 try simp only [zA,zB,zC,Act.put,zD,zE,zF]
 refine zt 24 (v:=?v24g6) ?y24g6 ?r24g6
 case y24g6=>(rintro w ⟨s0,s1,s2,s3,s4,s5⟩;go_simp;try with_reducible rfl)
 try simp only [zA,zB,zC,Act.put,zD,zE,zF]
 refine zt 25 (v:=?v25g6) ?y25g6 ?r25g6
 case y25g6=>(rintro w ⟨s0,s1,s2,s3,s4,s5⟩;go_simp;try with_reducible rfl)
 try simp only [zA,zB,zC,Act.put,zD,zE,zF]
 refine wpAnyH_done (by kernel_rfl) ?_ _
 obtain ⟨s0,s1,s2,s3,s4,s5⟩:=hHeld
 try clear s5
 rcases hres with ⟨q1,rfl,rfl⟩ | ⟨q1,q2,rfl,rfl⟩ | ⟨q1,q2,rfl,rfl⟩
 ·have q9 : (rer != 0) = true:=by rw [bne,q1];rfl
  go_wp2_with (go_at_fn fid;refine (HL.out _ s4).mono ?_;rintro e w9 ⟨A9,c9,rfl,hc9,hC9,hb9⟩;have HC9:=hC9;have HB9:=zh (s4.trans (hb9.mono s4.size));clear hb9 hC9)
  go_ret2
  exact VPost.nil HB9.out
 ·have q9 : (er != 0) = false:=by rw [bne,q1];rfl
  have q3 : decide ((20 : Int) < (L.length : Int)) = true:=decide_eq_true (by omega)
  go_wp2_with (go_at_fn fid;refine (HL.out _ s4).mono ?_;rintro e w9 ⟨A9,c9,rfl,hc9,hC9,hb9⟩;have HC9:=hC9;have HB9:=zh (s4.trans (hb9.mono s4.size));clear hb9 hC9)
  go_ret2
  exact VPost.nil HB9.out
 ·have q9 : (er != 0) = false:=by rw [bne,q1];rfl
  have q3 : decide ((20 : Int) < (res.length : Int)) = false:=decide_eq_false (by omega)
  go_wp2_with (go_at_fn fid;refine (HL.out _ s4).mono ?_;rintro e w9 ⟨A9,c9,rfl,hc9,hC9,hb9⟩;have HC9:=hC9;have HB9:=zh (s4.trans (hb9.mono s4.size));clear hb9 hC9)
  go_ret2
  exact ⟨A9,c9,rfl,hc9,HC9,HB9.out⟩
theorem putV_yes {l : List S47} {st : Int} {x : S47} (h : ¬ (chainB l = false ∨ ¬ (0 ≤ st ∧ st ≤ 2) ∨ mayV x = false ∨ (0 < l.length ∧ x.f3 < (l.headD z47).f3))) :
  ((layV st l x).2 == 0) = false ∧ (putV l st x).1 = [] ∧ (putV l st x).2 = (layV st l x).2 ∨ ((layV st l x).2 == 0) = true ∧ 20 < (layV st l x).1.length ∧ (putV l st x).1 = [] ∧ (putV l st x).2 = 6 ∨ ((layV st l x).2 == 0) = true ∧ (layV st l x).1.length ≤ 20 ∧ (putV l st x).1 = (layV st l x).1 ∧ (putV l st x).2 = 0:=by
 unfold putV
 rw [if_neg h]
 by_cases h1 : (layV st l x).2 = 0
 ·rw [if_neg (by simpa using h1)]
  by_cases h2 : 20 < (layV st l x).1.length
  ·rw [if_pos h2];exact Or.inr (Or.inl ⟨by simpa using h1,h2,rfl,rfl⟩)
  ·rw [if_neg h2];exact Or.inr (Or.inr ⟨by simpa using h1,by omega,rfl,rfl⟩)
 ·rw [if_pos h1];exact Or.inl ⟨by simpa using h1,rfl,rfl⟩
theorem head_f3 (l : List S47) (h : 0 < l.length) : (l.headD z47).f3 = l[0].f3:=by cases l with | nil=>simp at h | cons a l=>rfl
theorem putV.walk (A : Option Addr) (c : Nat) (l : List S47) (st : Int) (x : S47) (w : World) (hr : Kd.C k47 w A l.length l) :
  Calls Tryz.prog 52 #[.slice A l.length c,.int .i64 st,.agg #[.int .u64 x.f0,.string x.f1,.bool x.f2,.int .i64 x.f3]] w (VPost (putV l st x).1 (putV l st x).2 w):=by
 have fnd : ∃ fr,Instr.findNow (.int .i64) (.int .i64 st) laysE.toList 0 = some fr ∧ (¬ (0 ≤ st ∧ st ≤ 2) → lookOf .nilFunc fr = (.nilFunc,false)) ∧ (st = 1 → lookOf .nilFunc fr = (.func (.func 108) #[] #[],true)) ∧ (0 ≤ st ∧ st ≤ 2 → st ≠ 1 → lookOf .nilFunc fr = (.func (.func 107) #[] #[],true)):=by
  by_cases e0 : st = 0
  ·subst e0;exact ⟨_,rfl,fun h=>absurd ⟨by decide,by decide⟩ h,fun h=>(by cases h),fun _ _=>rfl⟩
  ·by_cases e1 : st = 1
   ·subst e1;exact ⟨_,rfl,fun h=>absurd ⟨by decide,by decide⟩ h,fun _=>rfl,fun _ h=>absurd rfl h⟩
   ·by_cases e2 : st = 2
    ·subst e2;exact ⟨_,rfl,fun h=>absurd ⟨by decide,by decide⟩ h,fun h=>(by cases h),fun _ _=>rfl⟩
    ·have b0 : (st == 0) = false:=beq_eq_false_iff_ne.2 e0
     have b1 : (st == 1) = false:=beq_eq_false_iff_ne.2 e1
     have b2 : (st == 2) = false:=beq_eq_false_iff_ne.2 e2
     exact ⟨none,by simp [laysE,Instr.findNow,Instr.sameNow,b0,b1,b2],fun _=>rfl,fun h=>absurd h e1,fun h=>by omega⟩
 obtain ⟨fr,hf,n1,n2,n3⟩:=fnd
 by_cases hb : chainB l = false ∨ ¬ (0 ≤ st ∧ st ≤ 2) ∨ mayV x = false ∨ (0 < l.length ∧ x.f3 < (l.headD z47).f3)
 ·have e : putV l st x = ([],1):=by unfold putV;rw [if_pos hb]
  rw [e]
  cases h1 : chainB l
  ·by_cases hs : 0 ≤ st ∧ st ≤ 2
   ·by_cases hs1 : st = 1
    ·exact put_no1 A c l st x w hr fr _ _ hf (n2 hs1) h1
    ·exact put_no1 A c l st x w hr fr _ _ hf (n3 hs hs1) h1
   ·exact put_no1 A c l st x w hr fr _ _ hf (n1 hs) h1
  ·by_cases hs : 0 ≤ st ∧ st ≤ 2
   ·obtain ⟨lv,hlv⟩ : ∃ lv,lookOf .nilFunc fr = (lv,true):=by
     by_cases hs1 : st = 1
     ·exact ⟨_,n2 hs1⟩
     ·exact ⟨_,n3 hs hs1⟩
    cases h2 : mayV x
    ·exact put_no3 A c l st x w hr fr lv hf hlv h1 h2
    ·rcases hb with h | h | h | ⟨h3,h4⟩
     ·rw [h1] at h;cases h
     ·exact absurd hs h
     ·rw [h2] at h;cases h
     ·exact put_no4 A c l st x w hr fr lv hf hlv h1 h2 h3 _ rfl (by rw [← head_f3 l h3];exact h4)
   ·exact put_no2 A c l st x w hr fr _ hf (n1 hs) h1
 ·have hres:=putV_yes hb
  have h1 : chainB l = true:=by cases h : chainB l;exact absurd (Or.inl h) hb;rfl
  have h2 : mayV x = true:=by cases h : mayV x;exact absurd (Or.inr (Or.inr (Or.inl h))) hb;rfl
  have hs : 0 ≤ st ∧ st ≤ 2:=by
   by_cases h : 0 ≤ st ∧ st ≤ 2
   ·exact h
   ·exact absurd (Or.inr (Or.inl h)) hb
  have hlen:=chain_len h1
  obtain ⟨fid,hlv,eg,hl⟩ : ∃ fid,lookOf .nilFunc fr = (.func (.func fid) #[] #[],true) ∧ (∀ args w,(callFunc fid args).run Tryz.prog w = .ok (.enter fid args) w) ∧ ∀ W,Below w.heap.size w W → Calls Tryz.prog fid #[.slice A l.length c,.agg #[.int .u64 x.f0,.string x.f1,.bool x.f2,.int .i64 x.f3]] W (VPost (layV st l x).1 (layV st l x).2 W):=by
   by_cases hs1 : st = 1
   ·refine ⟨_,n2 hs1,enters Tryz.func108 (by kernel_rfl) (by kernel_rfl),fun W hW=>?_⟩
    rw [hs1]
    exact ahead.walk A c l x W (Kd.C_below hr hW) (by omega)
   ·refine ⟨_,n3 hs hs1,enters Tryz.func107 (by kernel_rfl) (by kernel_rfl),fun W hW=>?_⟩
    have : layV st l x = (⟨0,x.f1,x.f2,x.f3⟩ :: delV 0 l,0):=by unfold layV;rw [if_neg hs1]
    rw [this]
    exact over.walk A c l x W (Kd.C_below hr hW) (by omega)
  rcases Nat.eq_zero_or_pos l.length with h3 | h3
  ·exact put_yes0 A c l st x w hr fr hf h1 fid _ _ _ _ hlv eg hl hres h2 h3
  ·exact put_yes1 A c l st x w hr fr hf h1 fid _ _ _ _ hlv eg hl hres h2 h3 _ rfl (by rw [← head_f3 l h3];intro h;exact hb (Or.inr (Or.inr (Or.inr ⟨h3,h⟩))))
end
section
open Go.WideMaps Go.Maps
def hasId (l : List S47) (id : Int) : Bool:=l.any (idB id)
def dropV (l : List S47) (id : Int) : List S47 × Int:=if chainB l = false then ([],1) else if hasId l id = false then ([],4) else (delV id l,0)
def deleteV (l : List S47) (st id t : Int) : List S47 × Int:=if st = 0 then dropV l 0 else putV l st ⟨if st = 2 then 0 else id,⟨#[]⟩,true,t⟩
def atV (l : List S47) (i : Int) : S47 × Int:=if chainB l = false then (z47,1) else if i < 0 ∨ (l.length : Int) ≤ i then (z47,4) else (l.getD i.toNat z47,if (l.getD i.toNat z47).f2 = true then 13 else 0)
theorem pos_has (l : List S47) (id : Int) : decide (posI (l.findIdx? (idB id)) < 0) = !(hasId l id):=by
 have:=pos_any l (idB id)
 unfold hasId
 rw [← this,← decide_not]
 congr 1
 rw [eq_iff_iff]
 omega
theorem dropV.walk (A : Option Addr) (c : Nat) (l : List S47) (id : Int) (w : World) (hr : Kd.C k47 w A l.length l) :
  Calls Tryz.prog 86 #[.slice A l.length c,.int .u64 id] w (VPost (dropV l id).1 (dropV l id).2 w):=by
 have HB0 : Hid (Below w.heap.size w w):=Below.refl _ _
 have HCK:=zh (chain.walk A c l w hr)
 have HFD:=zh (fun (W : World) (h : Below w.heap.size w W)=>findV.walk A c l id W (Kd.C_below hr h))
 have HPH:=zh (pos_has l id)
 cases h1 : chainB l
 ·have e : dropV l id = ([],1):=by unfold dropV;rw [if_pos h1]
  rw [e]
  rw [h1] at HCK
  rw [show errB false = 1 from rfl] at HCK
  clear h1 hr e
  go_enter Tryz.func86,Tryz.ntmps86
  go_wp2_with (go_at_call 109;refine HCK.out.mono ?_;rintro e w1 ⟨rfl,hb⟩;have HB1:=zh hb;clear hb)
  go_ret2
  exact VPost.nil HB1.out
 ·have hn:=chain_len h1
  have HWO:=zh (fun (W : World) (h : Below w.heap.size w W)=>without.walk A c l id W (Kd.C_below hr h) (by omega))
  have HDL:=zh (delV_len id l)
  rw [h1] at HCK
  rw [show errB true = 0 from rfl] at HCK
  cases h2 : hasId l id
  ·have e : dropV l id = ([],4):=by unfold dropV;rw [if_neg (by simp [h1]),if_pos h2]
   rw [e]
   rw [h2] at HPH
   have d1 : decide (posI (l.findIdx? (idB id)) < 0) = true:=HPH.out
   generalize posI (l.findIdx? (idB id)) = r at *
   clear h1 h2 hr e HWO HPH
   go_enter Tryz.func86,Tryz.ntmps86
   go_wp2_with (first | (go_at_call 109;refine HCK.out.mono ?_;rintro e w1 ⟨rfl,hb⟩;have HB1:=zh hb;clear hb) | (go_at_call 130;refine (HFD.out _ HB1.out).mono ?_;rintro e w2 ⟨rfl,hb⟩;have HB2:=keepB HB1 hb;clear hb))
   go_ret2
   exact VPost.nil HB2.out
  ·have e : dropV l id = (delV id l,0):=by unfold dropV;rw [if_neg (by simp [h1]),if_neg (by simp [h2])]
   rw [e]
   rw [h2] at HPH
   have d1 : decide (posI (l.findIdx? (idB id)) < 0) = false:=HPH.out
   generalize posI (l.findIdx? (idB id)) = r at *
   clear h1 h2 hr e HPH
   go_enter Tryz.func86,Tryz.ntmps86
   go_wp2_with (first | (go_at_call 109;refine HCK.out.mono ?_;rintro e w1 ⟨rfl,hb⟩;have HB1:=zh hb;clear hb) | (go_at_call 130;refine (HFD.out _ HB1.out).mono ?_;rintro e w2 ⟨rfl,hb⟩;have HB2:=keepB HB1 hb;clear hb) | (go_at_call 133;refine (HWO.out _ HB2.out).mono ?_;rintro e w3 ⟨v3,rfl,hown,hb⟩;have HB3:=keepB HB2 hb;have HO3:=zh hown;clear hb hown))
   go_ret2
   exact VPost.own HO3.out rfl rfl (by have:=HDL.out;omega) HB3.out
theorem deleteV.walk (A : Option Addr) (c : Nat) (l : List S47) (st id q : Int) (w : World) (hr : Kd.C k47 w A l.length l) :
  Calls Tryz.prog 83 #[.slice A l.length c,.int .i64 st,.int .u64 id,.int .i64 q] w (VPost (deleteV l st id q).1 (deleteV l st id q).2 w):=by
 by_cases h0 : st = 0
 ·have e : deleteV l st id q = dropV l 0:=by unfold deleteV;rw [if_pos h0]
  rw [e]
  have HD:=zh (dropV.walk A c l 0 w hr)
  generalize dropV l 0 = r at *
  subst h0
  clear hr e
  go_enter Tryz.func83,Tryz.ntmps83
  go_wp2_with (go_at_call 86;refine HD.out.mono ?_;rintro e w1 ⟨A1,c1,rfl,hc1,hC1,hb⟩;have HC1:=hC1;have HB1:=zh hb;clear hb hC1)
  go_ret2
  exact ⟨A1,c1,rfl,hc1,HC1,HB1.out⟩
 ·have e : deleteV l st id q = putV l st ⟨if st = 2 then 0 else id,⟨#[]⟩,true,q⟩:=by unfold deleteV;rw [if_neg h0]
  rw [e]
  have HP:=zh (putV.walk A c l st ⟨if st = 2 then 0 else id,⟨#[]⟩,true,q⟩ w hr)
  have d0 : (st == 0) = false:=beq_eq_false_iff_ne.2 h0
  by_cases h2 : st = 2
  ·rw [if_pos h2] at HP ⊢
   generalize putV l st ⟨0,⟨#[]⟩,true,q⟩ = r at *
   have d2 : (st == 2) = true:=beq_iff_eq.2 h2
   clear hr e h0 h2
   go_enter Tryz.func83,Tryz.ntmps83
   go_wp2_with (go_at_call 52;refine HP.out.mono ?_;rintro e w1 ⟨A1,c1,rfl,hc1,hC1,hb⟩;have HC1:=hC1;have HB1:=zh hb;clear hb hC1)
   go_ret2
   exact ⟨A1,c1,rfl,hc1,HC1,HB1.out⟩
  ·rw [if_neg h2] at HP ⊢
   generalize putV l st ⟨id,⟨#[]⟩,true,q⟩ = r at *
   have d2 : (st == 2) = false:=beq_eq_false_iff_ne.2 h2
   clear hr e h0 h2
   go_enter Tryz.func83,Tryz.ntmps83
   go_wp2_with (go_at_call 52;refine HP.out.mono ?_;rintro e w1 ⟨A1,c1,rfl,hc1,hC1,hb⟩;have HC1:=hC1;have HB1:=zh hb;clear hb hC1)
   go_ret2
   exact ⟨A1,c1,rfl,hc1,HC1,HB1.out⟩
/-- a version and an error's number -/
def OnePost (v : S47) (er : Int) (w : World) (e : Ending) (w' : World) : Prop:=e = .returned (.tuple #[.agg #[.int .u64 v.f0,.string v.f1,.bool v.f2,.int .i64 v.f3],.int .i64 er]) ∧ Below w.heap.size w w'
theorem atV.walk (A : Option Addr) (c : Nat) (l : List S47) (i : Int) (w : World) (hr : Kd.C k47 w A l.length l) :
  Calls Tryz.prog 103 #[.slice A l.length c,.int .i64 i] w (OnePost (atV l i).1 (atV l i).2 w):=by
 have HCK:=zh (fun (W : World) (h : Below w.heap.size w W)=>chain.walk A c l W (Kd.C_below hr h))
 cases h1 : chainB l
 ·have e : atV l i = (z47,1):=by unfold atV;rw [if_pos h1]
  rw [e]
  rw [h1] at HCK
  rw [show errB false = 1 from rfl] at HCK
  clear h1 hr e
  go_enter Tryz.func103,Tryz.ntmps103
  go_wp2_with (first
   | ((with_reducible refine gate_dst (N:=4) rfl ?_);go_must (refine box_event ?hg (N:=4) ?hd (cs:=#[.int .u64 0,.string ⟨#[]⟩,.bool false,.int .i64 0]) (t:=47) ?hr ?_;(case hd=>rfl);(case hg=>rfl);(case hr=>first | (go_simp;done) | (go_simp;rfl));intro gr hgr w1 hb1 hbel1;have K1:=zh hb1;have HB1:=zh hbel1;have GR:=zh (show w.heap.size ≤ gr by rw [hgr];exact Nat.le_refl _);clear hb1 hbel1 hgr))
   | (go_at_call 109;go_must (refine (HCK.out _ HB1.out).mono ?_;rintro e w2 ⟨rfl,hb⟩;have HB2:=keepB HB1 hb;have K2:=zk K1 hb;clear hb))
   | ((with_reducible refine gate_store (t:=47) (p:=4) (v:=.tmp 10) rfl ?_);go_must (refine zs 47 (.tmp 4) (.tmp 10) gr 0 47 [.int .u64 0,.string ⟨#[]⟩,.bool false,.int .i64 0] K2 isz_v ?_;intro w3 hk3 ho3;have K3 : Hid (w3.heap[gr]? = some (.cells #[.int .u64 0,.string ⟨#[]⟩,.bool false,.int .i64 0] 47 (0,0))):=hk3;have HB3:=zo ho3 HB2 GR;have z0:=blk_frozen K3.out 0;have c0:=zj K3 0;have c1:=zj K3 1;have c2:=zj K3 2;have c3:=zj K3 3;clear hk3 ho3)))
  exact bodyPost_ret (v:=.tuple #[.agg #[.int .u64 0,.string ⟨#[]⟩,.bool false,.int .i64 0],.int .i64 1]) (by simp [results,Tryz.results103,go_sem,c0,c1,c2,c3]) rfl ⟨rfl,HB3.out⟩
 ·rw [h1] at HCK
  rw [show errB true = 0 from rfl] at HCK
  have hlen:=chain_len h1
  by_cases h2 : i < 0 ∨ (l.length : Int) ≤ i
  ·have e : atV l i = (z47,4):=by unfold atV;rw [if_neg (by simp [h1]),if_pos h2]
   rw [e]
   by_cases h3 : i < 0
   ·clear h1 hr e h2
    go_enter Tryz.func103,Tryz.ntmps103
    go_wp2_with (first
     | ((with_reducible refine gate_dst (N:=4) rfl ?_);go_must (refine box_event ?hg (N:=4) ?hd (cs:=#[.int .u64 0,.string ⟨#[]⟩,.bool false,.int .i64 0]) (t:=47) ?hr ?_;(case hd=>rfl);(case hg=>rfl);(case hr=>first | (go_simp;done) | (go_simp;rfl));intro gr hgr w1 hb1 hbel1;have K1:=zh hb1;have HB1:=zh hbel1;have GR:=zh (show w.heap.size ≤ gr by rw [hgr];exact Nat.le_refl _);clear hb1 hbel1 hgr))
     | (go_at_call 109;go_must (refine (HCK.out _ HB1.out).mono ?_;rintro e w2 ⟨rfl,hb⟩;have HB2:=keepB HB1 hb;have K2:=zk K1 hb;clear hb))
     | ((with_reducible refine gate_store (t:=47) (p:=4) (v:=.tmp 20) rfl ?_);go_must (refine zs 47 (.tmp 4) (.tmp 20) gr 0 47 [.int .u64 0,.string ⟨#[]⟩,.bool false,.int .i64 0] K2 isz_v ?_;intro w3 hk3 ho3;have K3 : Hid (w3.heap[gr]? = some (.cells #[.int .u64 0,.string ⟨#[]⟩,.bool false,.int .i64 0] 47 (0,0))):=hk3;have HB3:=zo ho3 HB2 GR;have z0:=blk_frozen K3.out 0;have c0:=zj K3 0;have c1:=zj K3 1;have c2:=zj K3 2;have c3:=zj K3 3;clear hk3 ho3)))
    exact bodyPost_ret (v:=.tuple #[.agg #[.int .u64 0,.string ⟨#[]⟩,.bool false,.int .i64 0],.int .i64 4]) (by simp [results,Tryz.results103,go_sem,c0,c1,c2,c3]) rfl ⟨rfl,HB3.out⟩
   ·have h4 : (l.length : Int) ≤ i:=by omega
    clear h1 hr e h2
    go_enter Tryz.func103,Tryz.ntmps103
    go_wp2_with (first
     | ((with_reducible refine gate_dst (N:=4) rfl ?_);go_must (refine box_event ?hg (N:=4) ?hd (cs:=#[.int .u64 0,.string ⟨#[]⟩,.bool false,.int .i64 0]) (t:=47) ?hr ?_;(case hd=>rfl);(case hg=>rfl);(case hr=>first | (go_simp;done) | (go_simp;rfl));intro gr hgr w1 hb1 hbel1;have K1:=zh hb1;have HB1:=zh hbel1;have GR:=zh (show w.heap.size ≤ gr by rw [hgr];exact Nat.le_refl _);clear hb1 hbel1 hgr))
     | (go_at_call 109;go_must (refine (HCK.out _ HB1.out).mono ?_;rintro e w2 ⟨rfl,hb⟩;have HB2:=keepB HB1 hb;have K2:=zk K1 hb;clear hb))
     | ((with_reducible refine gate_store (t:=47) (p:=4) (v:=.tmp 20) rfl ?_);go_must (refine zs 47 (.tmp 4) (.tmp 20) gr 0 47 [.int .u64 0,.string ⟨#[]⟩,.bool false,.int .i64 0] K2 isz_v ?_;intro w3 hk3 ho3;have K3 : Hid (w3.heap[gr]? = some (.cells #[.int .u64 0,.string ⟨#[]⟩,.bool false,.int .i64 0] 47 (0,0))):=hk3;have HB3:=zo ho3 HB2 GR;have z0:=blk_frozen K3.out 0;have c0:=zj K3 0;have c1:=zj K3 1;have c2:=zj K3 2;have c3:=zj K3 3;clear hk3 ho3)))
    exact bodyPost_ret (v:=.tuple #[.agg #[.int .u64 0,.string ⟨#[]⟩,.bool false,.int .i64 0],.int .i64 4]) (by simp [results,Tryz.results103,go_sem,c0,c1,c2,c3]) rfl ⟨rfl,HB3.out⟩
  ·obtain ⟨k,rfl⟩ : ∃ k : Nat,i = k:=⟨i.toNat,by omega⟩
   have hk : k < l.length:=by omega
   have e : atV l (k : Int) = (l[k],if l[k].f2 = true then 13 else 0):=by
    unfold atV;rw [if_neg (by simp [h1]),if_neg h2];simp [List.getD_eq_getElem?_getD,hk]
   rw [e]
   obtain ⟨ad,e',g0,g1,g2,g3⟩:=atVersion hr (Below.refl _ _) k hk
   subst e'
   have G0:=zh g0;have G1:=zh g1;have G2:=zh g2;have G3:=zh g3
   generalize l[k] = x at *
   have d0 : (k : Int) < (l.length : Int):=by omega
   have d1 : ¬ ((k : Int) < 0):=by omega
   have d2 : (0 : Int) ≤ (k : Int):=by omega
   have d3 : ¬ ((l.length : Int) ≤ (k : Int)):=by omega
   clear h1 hr e h2 g0 g1 g2 g3
   cases hm : x.f2
   ·rw [hm] at G2
    go_enter Tryz.func103,Tryz.ntmps103
    go_wp2_with (first
     | ((with_reducible refine gate_dst (N:=4) rfl ?_);go_must (refine box_event ?hg (N:=4) ?hd (cs:=#[.int .u64 0,.string ⟨#[]⟩,.bool false,.int .i64 0]) (t:=47) ?hr ?_;(case hd=>rfl);(case hg=>rfl);(case hr=>first | (go_simp;done) | (go_simp;rfl));intro gr hgr w1 hb1 hbel1;have K1:=zh hb1;have HB1:=zh hbel1;have GR:=zh (show w.heap.size ≤ gr by rw [hgr];exact Nat.le_refl _);clear hb1 hbel1 hgr))
     | (go_at_call 109;go_must (refine (HCK.out _ HB1.out).mono ?_;rintro e w2 ⟨rfl,hb⟩;have HB2:=keepB HB1 hb;have K2:=zk K1 hb;have a0:=keepc HB2.out G0.out;have a1:=keepc HB2.out G1.out;have a2:=keepc HB2.out G2.out;have a3:=keepc HB2.out G3.out;clear hb))
     | ((with_reducible refine gate_store (t:=47) (p:=4) (v:=.tmp 34) rfl ?_);go_must (refine zs 47 (.tmp 4) (.tmp 34) gr 0 47 [.int .u64 x.f0,.string x.f1,.bool false,.int .i64 x.f3] K2 isz_v ?_;intro w3 hk3 ho3;have K3 : Hid (w3.heap[gr]? = some (.cells #[.int .u64 x.f0,.string x.f1,.bool false,.int .i64 x.f3] 47 (0,0))):=hk3;have HB3:=zo ho3 HB2 GR;have z0:=blk_frozen K3.out 0;have c0:=zj K3 0;have c1:=zj K3 1;have c2:=zj K3 2;have c3:=zj K3 3;clear hk3 ho3)))
    refine bodyPost_ret (v:=.tuple #[.agg #[.int .u64 x.f0,.string x.f1,.bool false,.int .i64 x.f3],.int .i64 0]) ?_ rfl ?_
    ·simp [results,Tryz.results103,go_sem,c0,c1,c2,c3]
    ·exact ⟨(by first | (rw [hm];done) | (rw [hm];rfl)),HB3.out⟩
   ·rw [hm] at G2
    go_enter Tryz.func103,Tryz.ntmps103
    go_wp2_with (first
     | ((with_reducible refine gate_dst (N:=4) rfl ?_);go_must (refine box_event ?hg (N:=4) ?hd (cs:=#[.int .u64 0,.string ⟨#[]⟩,.bool false,.int .i64 0]) (t:=47) ?hr ?_;(case hd=>rfl);(case hg=>rfl);(case hr=>first | (go_simp;done) | (go_simp;rfl));intro gr hgr w1 hb1 hbel1;have K1:=zh hb1;have HB1:=zh hbel1;have GR:=zh (show w.heap.size ≤ gr by rw [hgr];exact Nat.le_refl _);clear hb1 hbel1 hgr))
     | (go_at_call 109;go_must (refine (HCK.out _ HB1.out).mono ?_;rintro e w2 ⟨rfl,hb⟩;have HB2:=keepB HB1 hb;have K2:=zk K1 hb;have a0:=keepc HB2.out G0.out;have a1:=keepc HB2.out G1.out;have a2:=keepc HB2.out G2.out;have a3:=keepc HB2.out G3.out;clear hb))
     | ((with_reducible refine gate_store (t:=47) (p:=4) (v:=.tmp 30) rfl ?_);go_must (refine zs 47 (.tmp 4) (.tmp 30) gr 0 47 [.int .u64 x.f0,.string x.f1,.bool true,.int .i64 x.f3] K2 isz_v ?_;intro w3 hk3 ho3;have K3 : Hid (w3.heap[gr]? = some (.cells #[.int .u64 x.f0,.string x.f1,.bool true,.int .i64 x.f3] 47 (0,0))):=hk3;have HB3:=zo ho3 HB2 GR;have z0:=blk_frozen K3.out 0;have c0:=zj K3 0;have c1:=zj K3 1;have c2:=zj K3 2;have c3:=zj K3 3;clear hk3 ho3)))
    refine bodyPost_ret (v:=.tuple #[.agg #[.int .u64 x.f0,.string x.f1,.bool true,.int .i64 x.f3],.int .i64 13]) ?_ rfl ?_
    ·simp [results,Tryz.results103,go_sem,c0,c1,c2,c3]
    ·exact ⟨(by first | (rw [hm];done) | (rw [hm];rfl)),HB3.out⟩
theorem getV.walk (A : Option Addr) (c : Nat) (l : List S47) (w : World) (hr : Kd.C k47 w A l.length l) :
  Calls Tryz.prog 48 #[.slice A l.length c] w (OnePost (atV l 0).1 (atV l 0).2 w):=by
 have HCK:=zh (fun (W : World) (h : Below w.heap.size w W)=>atV.walk A c l 0 W (Kd.C_below hr h))
 generalize atV l 0 = r at *
 obtain ⟨x,er⟩:=r
 clear hr
 go_enter Tryz.func48,Tryz.ntmps48
 go_wp2_with (first
  | ((with_reducible refine gate_dst (N:=2) rfl ?_);go_must (refine box_event ?hg (N:=2) ?hd (cs:=#[.int .u64 0,.string ⟨#[]⟩,.bool false,.int .i64 0]) (t:=47) ?hr ?_;(case hd=>rfl);(case hg=>rfl);(case hr=>first | (go_simp;done) | (go_simp;rfl));intro gr hgr w1 hb1 hbel1;have K1:=zh hb1;have HB1:=zh hbel1;have GR:=zh (show w.heap.size ≤ gr by rw [hgr];exact Nat.le_refl _);clear hb1 hbel1 hgr))
  | (go_at_call 103;go_must (refine (HCK.out _ HB1.out).mono ?_;rintro e w2 ⟨rfl,hb⟩;have HB2:=keepB HB1 hb;have K2:=zk K1 hb;clear hb))
  | ((with_reducible refine gate_store (t:=47) (p:=2) (v:=.tmp 6) rfl ?_);go_must (refine zs 47 (.tmp 2) (.tmp 6) gr 0 47 [.int .u64 x.f0,.string x.f1,.bool x.f2,.int .i64 x.f3] K2 isz_v ?_;intro w3 hk3 ho3;have K3 : Hid (w3.heap[gr]? = some (.cells #[.int .u64 x.f0,.string x.f1,.bool x.f2,.int .i64 x.f3] 47 (0,0))):=hk3;have HB3:=zo ho3 HB2 GR;have z0:=blk_frozen K3.out 0;have c0:=zj K3 0;have c1:=zj K3 1;have c2:=zj K3 2;have c3:=zj K3 3;clear hk3 ho3)))
 refine bodyPost_ret (v:=.tuple #[.agg #[.int .u64 x.f0,.string x.f1,.bool x.f2,.int .i64 x.f3],.int .i64 er]) ?_ rfl ?_
 ·simp [results,Tryz.results48,go_sem,c0,c1,c2,c3]
 ·exact ⟨rfl,HB3.out⟩
end
section
open Go.WideMaps Go.Maps
def closeR (x b : S26) (e : Int) : S26 × Int:=if e = 0 then (if octB b.f2 b.f3 ≤ 20000 then (b,0) else (x,6)) else (x,e)
/-- a bucket handed back: its cells -/
def BkAt (b : S26) (w : World) (v : Value) : Prop:=∃ A2 c2 A3 c3,v = .agg #[.string b.f0,.int .i64 b.f1,.slice A2 b.f2.length c2,.slice A3 b.f3.length c3,.int .u64 b.f4] ∧ b.f2.length ≤ c2 ∧ b.f3.length ≤ c3 ∧ Kd.C k56 w A2 b.f2.length b.f2 ∧ Kd.C k101 w A3 b.f3.length b.f3
theorem BkAt.below {b : S26} {w w1 : World} {v : Value} (h : BkAt b w v) (hb : Below w.heap.size w w1) : BkAt b w1 v:=by
 obtain ⟨A2,c2,A3,c3,rfl,h1,h2,h3,h4⟩:=h
 exact ⟨A2,c2,A3,c3,rfl,h1,h2,Kd.C_below h3 hb,Kd.C_below h4 hb⟩
theorem close.calls (b x : S26) (A2 A3 B2 B3 : Option Addr) (c2 c3 d2 d3 : Nat) (e : Int) (g : Nat) (w : World) (h : w.heap[g]? = some (.cells #[.string b.f0,.int .i64 b.f1,.slice A2 b.f2.length c2,.slice A3 b.f3.length c3,.int .u64 b.f4,.int .i64 e] 87 (0,0))) (h2 : Kd.C k56 w A2 b.f2.length b.f2) (g2 : b.f2.length ≤ c2) (h3 : Kd.C k101 w A3 b.f3.length b.f3) (g3 : b.f3.length ≤ c3)
  (h4 : Kd.C k56 w B2 x.f2.length x.f2) (g4 : x.f2.length ≤ d2) (h5 : Kd.C k101 w B3 x.f3.length x.f3) (g5 : x.f3.length ≤ d3) (q : e = 0 → indexB b.f2 = true ∧ checkB b.f3 = true) :
  Calls Tryz.prog 36 #[.pointer (some ⟨g,0,none⟩),.agg #[.string x.f0,.int .i64 x.f1,.slice B2 x.f2.length d2,.slice B3 x.f3.length d3,.int .u64 x.f4]] w fun y w'=>∃ v,y = .returned (.tuple #[v,.int .i64 (closeR x b e).2]) ∧ BkAt (closeR x b e).1 w' v ∧ Only g w w':=by
 have hw:=work_like b.f0 b.f1 A2 b.f2.length c2 A3 b.f3.length c3 b.f4 e
 by_cases he : e = 0
 ·subst he
  obtain ⟨q2,q3⟩:=q rfl
  by_cases ho : octB b.f2 b.f3 ≤ 20000
  ·have ec : closeR x b 0 = (b,0):=by unfold closeR;rw [if_pos rfl,if_pos ho]
   rw [ec]
   refine (close_ok b x A2 A3 B2 B3 c2 c3 d2 d3 g w h h2 g2 h3 g3 q2 q3 ho).mono ?_
   rintro y w' ⟨rfl,hO⟩
   exact ⟨_,rfl,⟨A2,c2,A3,c3,rfl,g2,g3,keepE h2 h hw hO.out,keepU h3 h hw hO.out⟩,hO.out⟩
  ·have ec : closeR x b 0 = (x,6):=by unfold closeR;rw [if_pos rfl,if_neg ho]
   rw [ec]
   refine (close_big b x A2 A3 B2 B3 c2 c3 d2 d3 g w h h2 g2 h3 g3 q2 q3 ho).mono ?_
   rintro y w' ⟨rfl,hO⟩
   exact ⟨_,rfl,⟨B2,d2,B3,d3,rfl,g4,g5,keepE h4 h hw hO.out,keepU h5 h hw hO.out⟩,hO.out⟩
 ·have ec : closeR x b e = (x,e):=by unfold closeR;rw [if_neg he]
  rw [ec]
  refine (close_err b x A2 A3 B2 B3 c2 c3 d2 d3 e g w h h2 g2 h3 g3 he).mono ?_
  rintro y w' ⟨rfl,hO⟩
  exact ⟨_,rfl,⟨B2,d2,B3,d3,rfl,g4,g5,keepE h4 h hw hO.out,keepU h5 h hw hO.out⟩,hO.out⟩
def versQ (b : S26) (key : ByteArray) (e : Int) (r : List S47 × Int) : S26 × Int:=if e = 0 then versR b key r else (b,e)
theorem versQ_f3 (b : S26) (key : ByteArray) (e : Int) (r : List S47 × Int) : (versQ b key e r).1.f3 = b.f3 ∧ (versQ b key e r).1.f0 = b.f0 ∧ (versQ b key e r).1.f1 = b.f1 ∧ (versQ b key e r).1.f4 = b.f4:=by
 unfold versQ versR
 by_cases h : e = 0
 ·rw [if_pos h]
  by_cases h2 : r.2 = 0
  ·rw [if_pos h2];exact ⟨rfl,rfl,rfl,rfl⟩
  ·rw [if_neg h2];exact ⟨rfl,rfl,rfl,rfl⟩
 ·rw [if_neg h];exact ⟨rfl,rfl,rfl,rfl⟩
theorem versQ_index (b : S26) (key : ByteArray) (e : Int) (r : List S47 × Int) (h : (versQ b key e r).2 = 0) : e = 0 ∧ r.2 = 0 ∧ indexB (versQ b key e r).1.f2 = true ∧ (versQ b key e r).1 = ⟨b.f0,b.f1,(putE b.f2 key r.1).1,b.f3,b.f4⟩ ∧ (putE b.f2 key r.1).2 = 0:=by
 unfold versQ versR at *
 by_cases h0 : e = 0
 ·rw [if_pos h0] at h ⊢
  by_cases h2 : r.2 = 0
  ·rw [if_pos h2] at h ⊢
   exact ⟨h0,h2,(putE_index h).1,rfl,h⟩
  ·rw [if_neg h2] at h;exact absurd h h2
 ·rw [if_neg h0] at h;exact absurd h h0
theorem versions.calls (f : Nat) (cb : Array Value) (g : Nat) (b : S26) (A2 A3 : Option Addr) (c2 c3 : Nat) (key : ByteArray) (e : Int) (r : List S47 × Int) (w : World) (h : w.heap[g]? = some (.cells #[.string b.f0,.int .i64 b.f1,.slice A2 b.f2.length c2,.slice A3 b.f3.length c3,.int .u64 b.f4,.int .i64 e] 87 (0,0))) (h2 : Kd.C k56 w A2 b.f2.length b.f2) (g2 : b.f2.length ≤ c2)
  (hn : e = 0 → ∀ x ∈ b.f2,x.f1.length ≤ 1000000) (eg : ∀ args w,(callFunc f args).run Tryz.prog w = .ok (.enter f args) w)
  (hd : e = 0 → ∀ A' c' W,Below w.heap.size w W → (getE b.f2 key).length ≤ c' → Kd.C k47 W A' (getE b.f2 key).length (getE b.f2 key) → Calls Tryz.prog f (#[.slice A' (getE b.f2 key).length c'] ++ cb) W (VPost r.1 r.2 W)) :
  Calls Tryz.prog 84 #[.pointer (some ⟨g,0,none⟩),.string key,.func (.func f) #[] cb] w (VersPost g (versQ b key e r).1 A3 c3 (versQ b key e r).2 w):=by
 unfold versQ
 by_cases he : e = 0
 ·subst he
  rw [if_pos rfl]
  exact versions_go f cb g b A2 A3 c2 c3 key r w h h2 g2 (hn rfl) eg (hd rfl)
 ·rw [if_neg he]
  refine (versions_no (.func (.func f) #[] cb) g _ _ _ _ _ e key w he h).mono ?_
  rintro y w' ⟨rfl,rfl⟩
  exact ⟨A2,c2,rfl,g2,h2,h,Only.refl _ _⟩
theorem laid1.walk (f : Nat) (cb : Array Value) (gd gi n c : Nat) (id : Int) (A : Option Addr) (r : List S47 × Int) (w : World) (hd : w.heap[gd]? = some (.cells #[.func (.func f) #[] cb] 113 (0,0))) (hi : w.heap[gi]? = some (.cells #[.int .u64 id] 24 (0,0)))
  (eg : ∀ args w,(callFunc f args).run Tryz.prog w = .ok (.enter f args) w) (hc : Calls Tryz.prog f (#[.slice A n c,.int .u64 id] ++ cb) w (VPost r.1 r.2 w)) :
  Calls Tryz.prog 106 #[.slice A n c,.pointer (some ⟨gd,0,none⟩),.pointer (some ⟨gi,0,none⟩)] w (VPost r.1 r.2 w):=by
 have d0:=zb hd 0 (.func (.func f) #[] cb)
 have i0:=zb hi 0 (.int .u64 id)
 have HC:=zh hc
 clear hd hi hc
 go_enter Tryz.func106,Tryz.ntmps106
 go_wp2_with (go_at_fn f;go_must (refine HC.out.mono ?_;rintro e w1 ⟨A1,c1,rfl,hc1,hC1,hb⟩;have HC1:=hC1;have HB1:=zh hb;clear hb hC1))
 go_ret2
 exact ⟨A1,c1,rfl,hc1,HC1,HB1.out⟩
end
section
open Go.WideMaps Go.Maps
attribute [local go_sem] Oper.semAt_some
def laidR (b : S26) (key : ByteArray) (f : List S47 → Int → List S47 × Int) : S26 × Int × Int :=
 let id:=if b.f1 = 1 then IntKind.u64.wrap (b.f4 + 1) else 0
 let b1 : S26:=if b.f1 = 1 then ⟨b.f0,b.f1,b.f2,b.f3,IntKind.u64.wrap (b.f4 + 1)⟩ else b
 let e1:=if b.f1 = 1 then noR (decide (281474976710655 ≤ b.f4)) 6 (openR b key) else openR b key
 let q:=versQ b1 key e1 (f (getE b.f2 key) id)
 let c:=closeR b q.1 q.2
 if c.2 = 0 then (c.1,id,0) else (b,0,c.2)
def BkPost (b : S26) (rest : List Value) (w : World) (e : Ending) (w' : World) : Prop:=∃ v,e = .returned (.tuple (#[v] ++ rest.toArray)) ∧ BkAt b w' v ∧ Below w.heap.size w w'
theorem open_0 {b : S26} {key : ByteArray} (h : openR b key = 0) : bucketB b = true ∧ keyB key = true:=by
 unfold openR at h
 by_cases hb : bucketB b = false ∨ keyB key = false
 ·rw [if_pos hb] at h;cases h
 ·exact ⟨by cases h : bucketB b;exact absurd (Or.inl h) hb;rfl,by cases h : keyB key;exact absurd (Or.inr h) hb;rfl⟩
theorem noR_zero {q : Bool} {er e : Int} (h : noR q er e = 0) : e = 0:=by
 unfold noR at h
 by_cases hb : q = true ∧ e = 0
 ·exact hb.2
 ·rw [if_neg hb] at h;exact h
theorem bk_like (s : ByteArray) (i : Int) (A2 : Option Addr) (n2 c2 : Nat) (A3 : Option Addr) (n3 c3 : Nat) (l : Int) : WorkLike #[.string s,.int .i64 i,.slice A2 n2 c2,.slice A3 n3 c3,.int .u64 l]:=by
 refine ⟨fun k s h=>?_,fun k b h=>?_,fun A n c h=>?_⟩
 ·rcases k with _ | _ | _ | _ | _ | k <;> simp at h ⊢
 ·rcases k with _ | _ | _ | _ | _ | k <;> simp at h
 ·simp at h
theorem laid_on_ok (b : S26) (A2 A3 : Option Addr) (c2 c3 : Nat) (key : ByteArray) (f : Nat) (cb : Array Value) (w : World) (h2 : Kd.C k56 w A2 b.f2.length b.f2) (g2 : b.f2.length ≤ c2) (h3 : Kd.C k101 w A3 b.f3.length b.f3) (g3 : b.f3.length ≤ c3) (hst : b.f1 = 1) (l2 : Int) (hl2 : IntKind.u64.wrap (b.f4 + 1) = l2)
  (eg : ∀ args w,(callFunc f args).run Tryz.prog w = .ok (.enter f args) w) (r : List S47 × Int)
  (hdo : ∀ A' c' W,Below w.heap.size w W → (getE b.f2 key).length ≤ c' → Kd.C k47 W A' (getE b.f2 key).length (getE b.f2 key) → Calls Tryz.prog f (#[.slice A' (getE b.f2 key).length c',.int .u64 l2] ++ cb) W (VPost r.1 r.2 W))
  (qb : S26) (qe : Int) (hq : versQ (⟨b.f0,b.f1,b.f2,b.f3,l2⟩ : S26) key (noR (decide (281474976710655 ≤ b.f4)) 6 (openR b key)) r = (qb,qe)) (ce : Int) (kb : S26) (hce : closeR b qb qe = (kb,ce)) (hz : ce = 0) :
  Calls Tryz.prog 50 #[.agg #[.string b.f0,.int .i64 b.f1,.slice A2 b.f2.length c2,.slice A3 b.f3.length c3,.int .u64 b.f4],.string key,.func (.func f) #[] cb] w (BkPost kb [.int .u64 l2,.int .i64 ce] w):=by
 have H2:=zh (fun (W : World) (h : Below w.heap.size w W)=>Kd.C_below h2 h)
 have H3:=zh (fun (W : World) (h : Below w.heap.size w W)=>Kd.C_below h3 h)
 have HOP:=zh (fun (W : World) (h : Below w.heap.size w W)=>open.walk b A2 A3 c2 c3 key W (Kd.C_below h2 h) g2 (Kd.C_below h3 h) g3)
 have HE1 : Hid ((noR (decide (281474976710655 ≤ b.f4)) 6 (openR b key)) = 0 → bucketB b = true ∧ keyB key = true):=fun h=>open_0 (noR_zero h)
 have hf3:=versQ_f3 (⟨b.f0,b.f1,b.f2,b.f3,l2⟩ : S26) key (noR (decide (281474976710655 ≤ b.f4)) 6 (openR b key)) r
 have HQI:=zh (versQ_index (⟨b.f0,b.f1,b.f2,b.f3,l2⟩ : S26) key (noR (decide (281474976710655 ≤ b.f4)) 6 (openR b key)) r)
 rw [hq] at hf3 HQI
 have HF:=zh hf3;clear hf3
 have HGQ : Hid (qe = 0 → indexB qb.f2 = true ∧ checkB qb.f3 = true):=fun h=>by
  have x1:=HQI.out h
  have x2:=(bucket_at (HE1.out x1.1).1).2.2.1
  refine ⟨x1.2.2.1,?_⟩
  have:=HF.out.1
  exact this.symm ▸ x2
 have HDO:=zh hdo;clear hdo
 have HVS:=zh (fun (g gd gi : Nat) (W : World) (hW : Below w.heap.size w W) (K : W.heap[g]? = some (.cells #[.string b.f0,.int .i64 b.f1,.slice A2 b.f2.length c2,.slice A3 b.f3.length c3,.int .u64 l2,.int .i64 (noR (decide (281474976710655 ≤ b.f4)) 6 (openR b key))] 87 (0,0))) (KD : W.heap[gd]? = some (.cells #[.func (.func f) #[] cb] 113 (0,0))) (KI : W.heap[gi]? = some (.cells #[.int .u64 l2] 24 (0,0))) =>
  versions.calls 106 #[.pointer (some ⟨gd,0,none⟩),.pointer (some ⟨gi,0,none⟩)] g (⟨b.f0,b.f1,b.f2,b.f3,l2⟩ : S26) A2 A3 c2 c3 key (noR (decide (281474976710655 ≤ b.f4)) 6 (openR b key)) r W K (Kd.C_below h2 hW) g2 (fun h x hx=>by have:=((index_mem (bucket_at (HE1.out h).1).2.1) x hx).2.2;have:=chain_le this;omega) (enters Tryz.func106 (by kernel_rfl) (by kernel_rfl))
   (fun h A' c' W' hW' hc' hC'=>laid1.walk f cb gd gi _ c' l2 A' r W' (blk_below KD hW') (blk_below KI hW') eg (HDO.out A' c' W' (hW.trans (hW'.mono hW.size)) hc' hC')))
 rw [hq] at HVS
 have HCL:=zh (fun (g : Nat) (A4 : Option Addr) (c4 : Nat) (W : World) (hW : Below w.heap.size w W) (K : W.heap[g]? = some (.cells #[.string qb.f0,.int .i64 qb.f1,.slice A4 qb.f2.length c4,.slice A3 qb.f3.length c3,.int .u64 qb.f4,.int .i64 qe] 87 (0,0))) (C4 : Kd.C k56 W A4 qb.f2.length qb.f2) (g4 : qb.f2.length ≤ c4) =>
  close.calls qb b A4 A3 A2 A3 c4 c3 c2 c3 qe g W K C4 g4 (by have:=HF.out.1;exact this.symm ▸ Kd.C_below h3 hW) (by have:=HF.out.1;exact this.symm ▸ g3) (Kd.C_below h2 hW) g2 (Kd.C_below h3 hW) g3 HGQ.out)
 rw [hce] at HCL
 have q0 : (ce == 0) = true:=beq_iff_eq.2 hz
 have q1 : (ce != 0) = false:=by rw [bne,q0];rfl
 have s1 : (b.f1 == 1) = true:=beq_iff_eq.2 hst
 have HNX:=zh (fun (g : Nat) (W : World) hW=>next.walk g (.string b.f0) (.int .i64 b.f1) (.slice A2 b.f2.length c2) (.slice A3 b.f3.length c3) b.f4 (openR b key) W hW)
 rw [hl2] at HNX
 generalize noR (decide (281474976710655 ≤ b.f4)) 6 (openR b key) = e1 at *
 generalize openR b key = e0 at *
 clear h2 h3 eg hq hce hst HE1 HQI HGQ
 go_enter Tryz.func50,Tryz.ntmps50
 go_wp2_with (first
  | ((with_reducible refine gate_dst (N:=3) rfl ?_);go_must (refine box_event ?hg (N:=3) ?hd (cs:=#[.string b.f0,.int .i64 b.f1,.slice A2 b.f2.length c2,.slice A3 b.f3.length c3,.int .u64 b.f4]) (t:=26) ?hr ?_;(case hd=>rfl);(case hg=>rfl);(case hr=>first | (go_simp;done) | (go_simp;rfl));intro gx hgx w1 hb1 hbel1;have KX:=zh hb1;have HB:=zh hbel1;have L0:=zh (show w.heap.size ≤ gx by rw [hgx];exact Nat.le_refl _);have LX:=zh (blk_lt hb1);clear hb1 hbel1 hgx))
  | ((with_reducible refine gate_dst (N:=5) rfl ?_);go_must (refine box_event ?hg (N:=5) ?hd (cs:=#[.func (.func f) #[] cb]) (t:=113) ?hr ?_;(case hd=>rfl);(case hg=>rfl);(case hr=>first | (go_simp;done) | (go_simp;rfl));intro gd hgd w2 hb2 hbel2;have KD:=zh hb2;have HB:=keepB HB hbel2;have L1:=zh (show gx < gd by rw [hgd];exact LX.out);have LD:=zh (blk_lt hb2);have KX:=zk KX hbel2;clear hb2 hbel2 hgd LX))
  | ((with_reducible refine gate_dst (N:=6) rfl ?_);go_must (refine box_event ?hg (N:=6) ?hd (cs:=#[.string ⟨#[]⟩,.int .i64 0,.slice none 0 0,.slice none 0 0,.int .u64 0]) (t:=26) ?hr ?_;(case hd=>rfl);(case hg=>rfl);(case hr=>first | (go_simp;done) | (go_simp;rfl));intro gr hgr w3 hb3 hbel3;have KR:=zh hb3;have HB:=keepB HB hbel3;have L2:=zh (show gd < gr by rw [hgr];exact LD.out);have LR:=zh (blk_lt hb3);have KX:=zk KX hbel3;have KD:=zk KD hbel3;obtain ⟨a0,a1,a2,a3,a4⟩:=zz5 KX.out;clear hb3 hbel3 hgr LD))
  | (go_at_call 32;go_must (refine (HOP.out _ HB.out).mono ?_;rintro e w4 ⟨g,rfl,hgl,hk,hb⟩;have KG:=hk;have HB:=keepB HB (hb.out);have L3:=zh (show gr < g from Nat.lt_of_lt_of_le LR.out hgl);have LG:=zh (blk_lt hk.out);have KX:=zk KX hb.out;have KD:=zk KD hb.out;have KR:=zk KR hb.out;clear hk hb hgl LR a0 a1 a2 a3 a4))
  | ((with_reducible refine gate_dst (N:=10) rfl ?_);go_must (refine box_event ?hg (N:=10) ?hd (cs:=#[.int .u64 0]) (t:=24) ?hr ?_;(case hd=>rfl);(case hg=>rfl);(case hr=>first | (go_simp;done) | (go_simp;rfl));intro gi hgi w5 hb5 hbel5;have KI:=zh hb5;have HB:=keepB HB hbel5;have L4:=zh (show g < gi by rw [hgi];exact LG.out);have KX:=zk KX hbel5;have KD:=zk KD hbel5;have KR:=zk KR hbel5;have KG:=zk KG hbel5;clear hb5 hbel5 hgi LG))
  | ((with_reducible refine gate_store (t:=24) (p:=10) (v:=.const (.int .u64 0)) rfl ?_);go_must (refine wpList_store_row rfl rfl 24 (.tmp 10) _ rfl gi 0 _ 24 (.int .u64 0) [.int .u64 0] rfl rfl KI.out rfl (by kernel_rfl) (by show 0 + 1 ≤ 1;decide) (by simp [Value.oneCell']) ?_;intro w6 hk ho;have KI:=hk;have HB:=zh (ho.out.below HB.out HB.out.size (by have:=L0.out;have:=L1.out;have:=L2.out;have:=L3.out;have:=L4.out;omega));have KX:=zl ho KX (by have:=L1.out;have:=L2.out;have:=L3.out;have:=L4.out;omega);have KD:=zl ho KD (by have:=L2.out;have:=L3.out;have:=L4.out;omega);have KR:=zl ho KR (by have:=L3.out;have:=L4.out;omega);have KG:=zl ho KG (by have:=L4.out;omega);have n1:=zb KX.out 1 (.int .i64 b.f1);clear hk ho))
  | (go_at_call 33;go_must (refine (HNX.out g _ KG.out).mono ?_;rintro e w7 ⟨rfl,hk,ho⟩;have KG:=hk;have HB:=zh (ho.out.below HB.out HB.out.size (by have:=L0.out;have:=L1.out;have:=L2.out;have:=L3.out;omega));have KX:=zl ho KX (by have:=L1.out;have:=L2.out;have:=L3.out;omega);have KD:=zl ho KD (by have:=L2.out;have:=L3.out;omega);have KR:=zl ho KR (by have:=L3.out;omega);have KI:=zl ho KI (by have:=L4.out;omega);clear hk ho n1))
  | ((with_reducible refine gate_store (t:=24) (p:=10) (v:=.tmp 20) rfl ?_);go_must (refine zq 24 (.tmp 10) (.tmp 20) gi 0 24 (.int .u64 l2) KI (by kernel_rfl) ?_;intro w8 hk ho;have KI:=hk;have HB:=zh (ho.out.below HB.out HB.out.size (by have:=L0.out;have:=L1.out;have:=L2.out;have:=L3.out;have:=L4.out;omega));have KX:=zl ho KX (by have:=L1.out;have:=L2.out;have:=L3.out;have:=L4.out;omega);have KD:=zl ho KD (by have:=L2.out;have:=L3.out;have:=L4.out;omega);have KR:=zl ho KR (by have:=L3.out;have:=L4.out;omega);have KG:=zl ho KG (by have:=L4.out;omega);clear hk ho))
  | (go_at_call 84;go_must (refine (HVS.out g gd gi _ HB.out KG.out KD.out KI.out).mono ?_;rintro e w9 ⟨A4,c4,rfl,hc4,hC4,hk,ho⟩;have KG:=hk;have HC4:=hC4;have HB:=zh (ho.out.below HB.out HB.out.size (by have:=L0.out;have:=L1.out;have:=L2.out;have:=L3.out;omega));have KX:=zl ho KX (by have:=L1.out;have:=L2.out;have:=L3.out;omega);have KD:=zl ho KD (by have:=L2.out;have:=L3.out;omega);have KR:=zl ho KR (by have:=L3.out;omega);have KI:=zl ho KI (by have:=L4.out;omega);obtain ⟨m0,m1,m2,m3,m4⟩:=zz5 KX.out;clear hk ho hC4))
  | (go_at_call 36;go_must (refine (HCL.out g A4 c4 _ HB.out KG.out HC4.out hc4).mono ?_;rintro e w10 ⟨v10,rfl,hv,ho⟩;obtain ⟨A5,c5,A6,c6,rfl,y1,y2,y3,y4⟩:=hv;have HB:=zh (ho.below HB.out HB.out.size (by have:=L0.out;have:=L1.out;have:=L2.out;have:=L3.out;omega));have KX:=zh (ho.blk KX.out (by have:=L1.out;have:=L2.out;have:=L3.out;omega));have KR:=zh (ho.blk KR.out (by have:=L3.out;omega));have KI:=zh (ho.blk KI.out (by have:=L4.out;omega));have Y3:=zh y3;have Y4:=zh y4;clear ho y3 y4 m0 m1 m2 m3 m4))
  | ((with_reducible refine gate_dst (N:=11) rfl ?_);go_must (refine box_event ?hg (N:=11) ?hd (cs:=#[.string ⟨#[]⟩,.int .i64 0,.slice none 0 0,.slice none 0 0,.int .u64 0]) (t:=26) ?hr ?_;(case hd=>rfl);(case hg=>rfl);(case hr=>first | (go_simp;done) | (go_simp;rfl));intro go hgo w11 hb11 hbel11;have KO:=zh hb11;have LO:=zh (show gr < go by rw [hgo];exact blk_lt KR.out);have LI:=zh (show gi < go by rw [hgo];exact blk_lt KI.out);have L9:=zh (show w.heap.size ≤ go by rw [hgo];exact HB.out.size);have HB:=keepB HB hbel11;have KX:=zk KX hbel11;have KR:=zk KR hbel11;have KI:=zk KI hbel11;have Y3:=zc Y3 hbel11;have Y4:=zc Y4 hbel11;clear hb11 hbel11 hgo))
  | ((with_reducible refine gate_store (t:=26) (p:=11) (v:=.tmp 29) rfl ?_);go_must (refine zs 26 (.tmp 11) (.tmp 29) go 0 26 [.string kb.f0,.int .i64 kb.f1,.slice A5 kb.f2.length c5,.slice A6 kb.f3.length c6,.int .u64 kb.f4] KO isz_bucket ?_;intro w12 hk ho;have Y3:=zh (keepE Y3.out KO.out (bk_like _ _ _ _ _ _ _ _ _) ho.out);have Y4:=zh (keepU Y4.out KO.out (bk_like _ _ _ _ _ _ _ _ _) ho.out);have KO:=hk;have HB:=zo ho HB L9;have KX:=zl ho KX (by have:=L1.out;have:=L2.out;have:=LO.out;omega);have KR:=zl ho KR (by have:=LO.out;omega);have KI:=zl ho KI (by have:=LI.out;omega);obtain ⟨p0,p1,p2,p3,p4⟩:=zz5 KX.out;clear hk ho)))
 have Y3:=zc Y3 (below_drew (Below.refl _ w12))
 have Y4:=zc Y4 (below_drew (Below.refl _ w12))
 have KR:=zh (blk_drew KR.out)
 refine wp_region_held_drew (S:=fun W=>W.heap[go]? = some (.cells #[.string kb.f0,.int .i64 kb.f1,.slice A5 kb.f2.length c5,.slice A6 kb.f3.length c6,.int .u64 kb.f4] 26 (0,0)) ∧ W.cell? ⟨gi,0,none⟩ = some (.int .u64 l2) ∧ (∃ q0 q1 q2 q3 q4,W.heap[gr]? = some (.cells #[q0,q1,q2,q3,q4] 26 (0,0))) ∧ Below w.heap.size w W ∧ W.cell? ⟨go,0,none⟩ = some (.string kb.f0) ∧ W.cell? ⟨go,1,none⟩ = some (.int .i64 kb.f1) ∧ W.cell? ⟨go,2,none⟩ = some (.slice A5 kb.f2.length c5) ∧ W.cell? ⟨go,3,none⟩ = some (.slice A6 kb.f3.length c6) ∧ W.cell? ⟨go,4,none⟩ = some (.int .u64 kb.f4)) (by kernel_rfl) ?_ (fun hHeld=>?_)
 ·exact ⟨blk_drew KO.out,(blk_cell (blk_drew KI.out) 0).trans rfl,⟨_,_,_,_,_,KR.out⟩,HB.out.drew,blk_cell (blk_drew KO.out) 0,blk_cell (blk_drew KO.out) 1,blk_cell (blk_drew KO.out) 2,blk_cell (blk_drew KO.out) 3,blk_cell (blk_drew KO.out) 4⟩
 clear KO KI HB KX p0 p1 p2 p3 p4
 generalize w12.drew = w15 at hHeld Y3 Y4 KR ⊢
 refine zt 0 (v:=?v0g1) ?y0g1 ?r0g1
 case y0g1=>(rintro w ⟨s0,s1,s2,s3,s4,s5,s6,s7,s8⟩;go_simp;try with_reducible rfl)
 try simp only [zA,zB,zC,Act.put,zD,zE,zF]
 refine zt 1 (v:=?v1g1) ?y1g1 ?r1g1
 case y1g1=>(rintro w ⟨s0,s1,s2,s3,s4,s5,s6,s7,s8⟩;go_simp;try with_reducible rfl)
 try simp only [zA,zB,zC,Act.put,zD,zE,zF]
 refine wpAnyH_ready (rs:=[2]) (by kernel_rfl) (by simp) ?_
 refine AllReadyH.cons (o:=_) rfl (fun K hK=>?_) AllReadyH.nil
 rw [if_pos (by rfl)]
 obtain ⟨s0,s1,s2,s3,s4,s5,s6,s7,s8⟩:=hHeld
 obtain ⟨q0,q1,q2,q3,q4,s2⟩:=s2
 refine wp_store_row rfl 26 (.tmp 6) (.tmp 35) rfl gr 0 _ 26 (.agg #[.string kb.f0,.int .i64 kb.f1,.slice A5 kb.f2.length c5,.slice A6 kb.f3.length c6,.int .u64 kb.f4]) [.string kb.f0,.int .i64 kb.f1,.slice A5 kb.f2.length c5,.slice A6 kb.f3.length c6,.int .u64 kb.f4] rfl rfl s2 rfl isz_bucket (by show 0 + 5 ≤ 5;decide) (by simp [Value.oneCell']) ?_
 intro w14 hk ho
 have KZ : Hid (w14.heap[gr]? = some (.cells #[.string kb.f0,.int .i64 kb.f1,.slice A5 kb.f2.length c5,.slice A6 kb.f3.length c6,.int .u64 kb.f4] 26 (0,0))):=hk
 have HO:=ho
 have HBZ:=zh (ho.out.below s3 s3.size (by have:=L0.out;have:=L1.out;have:=L2.out;omega))
 have KO2:=zh (ho.out.blk s0 (by have:=LO.out;omega))
 have ngi : Hid (gi ≠ gr):=by have:=L3.out;have:=L4.out;unfold Hid;omega
 refine hK.out _ _ ⟨KO2.out,Only.cell ho.out (p:=⟨gi,0,none⟩) ngi.out s1,⟨_,_,_,_,_,hk.out⟩,HBZ.out,zj KO2 0,zj KO2 1,zj KO2 2,zj KO2 3,zj KO2 4⟩ (fun hHeld=>?_)
 clear hK K hk ho q0 q1 q2 q3 q4 s0 s1 s2 s3 s4 s5 s6 s7 s8
 try simp only [zA,zB,zC,Act.put,zD,zE,zF]
 refine zt 3 (v:=?v3g1) ?y3g1 ?r3g1
 case y3g1=>(rintro w ⟨s0,s1,s2,s3,s4,s5,s6,s7,s8⟩;go_simp;try with_reducible rfl)
 try simp only [zA,zB,zC,Act.put,zD,zE,zF]
 refine zt 4 (v:=?v4g1) ?y4g1 ?r4g1
 case y4g1=>(rintro w ⟨s0,s1,s2,s3,s4,s5,s6,s7,s8⟩;go_simp;try with_reducible rfl)
 try simp only [zA,zB,zC,Act.put,zD,zE,zF]
 refine wpAnyH_done (by kernel_rfl) ?_ _
 go_wp2
 have z0:=zb KZ.out 0 (.string kb.f0)
 have z1:=zb KZ.out 1 (.int .i64 kb.f1)
 have z2:=zb KZ.out 2 (.slice A5 kb.f2.length c5)
 have z3:=zb KZ.out 3 (.slice A6 kb.f3.length c6)
 have z4:=zb KZ.out 4 (.int .u64 kb.f4)
 subst hz
 refine bodyPost_ret (v:=.tuple #[.agg #[.string kb.f0,.int .i64 kb.f1,.slice A5 kb.f2.length c5,.slice A6 kb.f3.length c6,.int .u64 kb.f4],.int .u64 l2,.int .i64 0]) (by simp [results,Tryz.results50,go_sem,z0,z1,z2,z3,z4]) rfl ?_
 refine ⟨_,rfl,⟨A5,c5,A6,c6,rfl,y1,y2,keepE Y3.out KR.out (bk_like _ _ _ _ _ _ _ _ _) HO.out,keepU Y4.out KR.out (bk_like _ _ _ _ _ _ _ _ _) HO.out⟩,HBZ.out⟩
theorem laid_on_no (b : S26) (A2 A3 : Option Addr) (c2 c3 : Nat) (key : ByteArray) (f : Nat) (cb : Array Value) (w : World) (h2 : Kd.C k56 w A2 b.f2.length b.f2) (g2 : b.f2.length ≤ c2) (h3 : Kd.C k101 w A3 b.f3.length b.f3) (g3 : b.f3.length ≤ c3) (hst : b.f1 = 1) (l2 : Int) (hl2 : IntKind.u64.wrap (b.f4 + 1) = l2)
  (eg : ∀ args w,(callFunc f args).run Tryz.prog w = .ok (.enter f args) w) (r : List S47 × Int)
  (hdo : ∀ A' c' W,Below w.heap.size w W → (getE b.f2 key).length ≤ c' → Kd.C k47 W A' (getE b.f2 key).length (getE b.f2 key) → Calls Tryz.prog f (#[.slice A' (getE b.f2 key).length c',.int .u64 l2] ++ cb) W (VPost r.1 r.2 W))
  (qb : S26) (qe : Int) (hq : versQ (⟨b.f0,b.f1,b.f2,b.f3,l2⟩ : S26) key (noR (decide (281474976710655 ≤ b.f4)) 6 (openR b key)) r = (qb,qe)) (ce : Int) (kb : S26) (hce : closeR b qb qe = (kb,ce)) (hz : ce ≠ 0) :
  Calls Tryz.prog 50 #[.agg #[.string b.f0,.int .i64 b.f1,.slice A2 b.f2.length c2,.slice A3 b.f3.length c3,.int .u64 b.f4],.string key,.func (.func f) #[] cb] w (BkPost b [.int .u64 0,.int .i64 ce] w):=by
 have H2:=zh (fun (W : World) (h : Below w.heap.size w W)=>Kd.C_below h2 h)
 have H3:=zh (fun (W : World) (h : Below w.heap.size w W)=>Kd.C_below h3 h)
 have HOP:=zh (fun (W : World) (h : Below w.heap.size w W)=>open.walk b A2 A3 c2 c3 key W (Kd.C_below h2 h) g2 (Kd.C_below h3 h) g3)
 have HE1 : Hid ((noR (decide (281474976710655 ≤ b.f4)) 6 (openR b key)) = 0 → bucketB b = true ∧ keyB key = true):=fun h=>open_0 (noR_zero h)
 have hf3:=versQ_f3 (⟨b.f0,b.f1,b.f2,b.f3,l2⟩ : S26) key (noR (decide (281474976710655 ≤ b.f4)) 6 (openR b key)) r
 have HQI:=zh (versQ_index (⟨b.f0,b.f1,b.f2,b.f3,l2⟩ : S26) key (noR (decide (281474976710655 ≤ b.f4)) 6 (openR b key)) r)
 rw [hq] at hf3 HQI
 have HF:=zh hf3;clear hf3
 have HGQ : Hid (qe = 0 → indexB qb.f2 = true ∧ checkB qb.f3 = true):=fun h=>by
  have x1:=HQI.out h
  have x2:=(bucket_at (HE1.out x1.1).1).2.2.1
  refine ⟨x1.2.2.1,?_⟩
  have:=HF.out.1
  exact this.symm ▸ x2
 have HDO:=zh hdo;clear hdo
 have HVS:=zh (fun (g gd gi : Nat) (W : World) (hW : Below w.heap.size w W) (K : W.heap[g]? = some (.cells #[.string b.f0,.int .i64 b.f1,.slice A2 b.f2.length c2,.slice A3 b.f3.length c3,.int .u64 l2,.int .i64 (noR (decide (281474976710655 ≤ b.f4)) 6 (openR b key))] 87 (0,0))) (KD : W.heap[gd]? = some (.cells #[.func (.func f) #[] cb] 113 (0,0))) (KI : W.heap[gi]? = some (.cells #[.int .u64 l2] 24 (0,0))) =>
  versions.calls 106 #[.pointer (some ⟨gd,0,none⟩),.pointer (some ⟨gi,0,none⟩)] g (⟨b.f0,b.f1,b.f2,b.f3,l2⟩ : S26) A2 A3 c2 c3 key (noR (decide (281474976710655 ≤ b.f4)) 6 (openR b key)) r W K (Kd.C_below h2 hW) g2 (fun h x hx=>by have:=((index_mem (bucket_at (HE1.out h).1).2.1) x hx).2.2;have:=chain_le this;omega) (enters Tryz.func106 (by kernel_rfl) (by kernel_rfl))
   (fun h A' c' W' hW' hc' hC'=>laid1.walk f cb gd gi _ c' l2 A' r W' (blk_below KD hW') (blk_below KI hW') eg (HDO.out A' c' W' (hW.trans (hW'.mono hW.size)) hc' hC')))
 rw [hq] at HVS
 have HCL:=zh (fun (g : Nat) (A4 : Option Addr) (c4 : Nat) (W : World) (hW : Below w.heap.size w W) (K : W.heap[g]? = some (.cells #[.string qb.f0,.int .i64 qb.f1,.slice A4 qb.f2.length c4,.slice A3 qb.f3.length c3,.int .u64 qb.f4,.int .i64 qe] 87 (0,0))) (C4 : Kd.C k56 W A4 qb.f2.length qb.f2) (g4 : qb.f2.length ≤ c4) =>
  close.calls qb b A4 A3 A2 A3 c4 c3 c2 c3 qe g W K C4 g4 (by have:=HF.out.1;exact this.symm ▸ Kd.C_below h3 hW) (by have:=HF.out.1;exact this.symm ▸ g3) (Kd.C_below h2 hW) g2 (Kd.C_below h3 hW) g3 HGQ.out)
 rw [hce] at HCL
 have q0 : (ce == 0) = false:=beq_eq_false_iff_ne.2 hz
 have q1 : (ce != 0) = true:=by rw [bne,q0];rfl
 have s1 : (b.f1 == 1) = true:=beq_iff_eq.2 hst
 have HNX:=zh (fun (g : Nat) (W : World) hW=>next.walk g (.string b.f0) (.int .i64 b.f1) (.slice A2 b.f2.length c2) (.slice A3 b.f3.length c3) b.f4 (openR b key) W hW)
 rw [hl2] at HNX
 generalize noR (decide (281474976710655 ≤ b.f4)) 6 (openR b key) = e1 at *
 generalize openR b key = e0 at *
 clear h2 h3 eg hq hce hst HE1 HQI HGQ hz
 go_enter Tryz.func50,Tryz.ntmps50
 go_wp2_with (first
  | ((with_reducible refine gate_dst (N:=3) rfl ?_);go_must (refine box_event ?hg (N:=3) ?hd (cs:=#[.string b.f0,.int .i64 b.f1,.slice A2 b.f2.length c2,.slice A3 b.f3.length c3,.int .u64 b.f4]) (t:=26) ?hr ?_;(case hd=>rfl);(case hg=>rfl);(case hr=>first | (go_simp;done) | (go_simp;rfl));intro gx hgx w1 hb1 hbel1;have KX:=zh hb1;have HB:=zh hbel1;have L0:=zh (show w.heap.size ≤ gx by rw [hgx];exact Nat.le_refl _);have LX:=zh (blk_lt hb1);clear hb1 hbel1 hgx))
  | ((with_reducible refine gate_dst (N:=5) rfl ?_);go_must (refine box_event ?hg (N:=5) ?hd (cs:=#[.func (.func f) #[] cb]) (t:=113) ?hr ?_;(case hd=>rfl);(case hg=>rfl);(case hr=>first | (go_simp;done) | (go_simp;rfl));intro gd hgd w2 hb2 hbel2;have KD:=zh hb2;have HB:=keepB HB hbel2;have L1:=zh (show gx < gd by rw [hgd];exact LX.out);have LD:=zh (blk_lt hb2);have KX:=zk KX hbel2;clear hb2 hbel2 hgd LX))
  | ((with_reducible refine gate_dst (N:=6) rfl ?_);go_must (refine box_event ?hg (N:=6) ?hd (cs:=#[.string ⟨#[]⟩,.int .i64 0,.slice none 0 0,.slice none 0 0,.int .u64 0]) (t:=26) ?hr ?_;(case hd=>rfl);(case hg=>rfl);(case hr=>first | (go_simp;done) | (go_simp;rfl));intro gr hgr w3 hb3 hbel3;have KR:=zh hb3;have HB:=keepB HB hbel3;have L2:=zh (show gd < gr by rw [hgr];exact LD.out);have LR:=zh (blk_lt hb3);have KX:=zk KX hbel3;have KD:=zk KD hbel3;obtain ⟨a0,a1,a2,a3,a4⟩:=zz5 KX.out;clear hb3 hbel3 hgr LD))
  | (go_at_call 32;go_must (refine (HOP.out _ HB.out).mono ?_;rintro e w4 ⟨g,rfl,hgl,hk,hb⟩;have KG:=hk;have HB:=keepB HB (hb.out);have L3:=zh (show gr < g from Nat.lt_of_lt_of_le LR.out hgl);have LG:=zh (blk_lt hk.out);have KX:=zk KX hb.out;have KD:=zk KD hb.out;have KR:=zk KR hb.out;clear hk hb hgl LR a0 a1 a2 a3 a4))
  | ((with_reducible refine gate_dst (N:=10) rfl ?_);go_must (refine box_event ?hg (N:=10) ?hd (cs:=#[.int .u64 0]) (t:=24) ?hr ?_;(case hd=>rfl);(case hg=>rfl);(case hr=>first | (go_simp;done) | (go_simp;rfl));intro gi hgi w5 hb5 hbel5;have KI:=zh hb5;have HB:=keepB HB hbel5;have L4:=zh (show g < gi by rw [hgi];exact LG.out);have KX:=zk KX hbel5;have KD:=zk KD hbel5;have KR:=zk KR hbel5;have KG:=zk KG hbel5;clear hb5 hbel5 hgi LG))
  | ((with_reducible refine gate_store (t:=24) (p:=10) (v:=.const (.int .u64 0)) rfl ?_);go_must (refine wpList_store_row rfl rfl 24 (.tmp 10) _ rfl gi 0 _ 24 (.int .u64 0) [.int .u64 0] rfl rfl KI.out rfl (by kernel_rfl) (by show 0 + 1 ≤ 1;decide) (by simp [Value.oneCell']) ?_;intro w6 hk ho;have KI:=hk;have HB:=zh (ho.out.below HB.out HB.out.size (by have:=L0.out;have:=L1.out;have:=L2.out;have:=L3.out;have:=L4.out;omega));have KX:=zl ho KX (by have:=L1.out;have:=L2.out;have:=L3.out;have:=L4.out;omega);have KD:=zl ho KD (by have:=L2.out;have:=L3.out;have:=L4.out;omega);have KR:=zl ho KR (by have:=L3.out;have:=L4.out;omega);have KG:=zl ho KG (by have:=L4.out;omega);have n1:=zb KX.out 1 (.int .i64 b.f1);clear hk ho))
  | (go_at_call 33;go_must (refine (HNX.out g _ KG.out).mono ?_;rintro e w7 ⟨rfl,hk,ho⟩;have KG:=hk;have HB:=zh (ho.out.below HB.out HB.out.size (by have:=L0.out;have:=L1.out;have:=L2.out;have:=L3.out;omega));have KX:=zl ho KX (by have:=L1.out;have:=L2.out;have:=L3.out;omega);have KD:=zl ho KD (by have:=L2.out;have:=L3.out;omega);have KR:=zl ho KR (by have:=L3.out;omega);have KI:=zl ho KI (by have:=L4.out;omega);clear hk ho n1))
  | ((with_reducible refine gate_store (t:=24) (p:=10) (v:=.tmp 20) rfl ?_);go_must (refine zq 24 (.tmp 10) (.tmp 20) gi 0 24 (.int .u64 l2) KI (by kernel_rfl) ?_;intro w8 hk ho;have KI:=hk;have HB:=zh (ho.out.below HB.out HB.out.size (by have:=L0.out;have:=L1.out;have:=L2.out;have:=L3.out;have:=L4.out;omega));have KX:=zl ho KX (by have:=L1.out;have:=L2.out;have:=L3.out;have:=L4.out;omega);have KD:=zl ho KD (by have:=L2.out;have:=L3.out;have:=L4.out;omega);have KR:=zl ho KR (by have:=L3.out;have:=L4.out;omega);have KG:=zl ho KG (by have:=L4.out;omega);clear hk ho))
  | (go_at_call 84;go_must (refine (HVS.out g gd gi _ HB.out KG.out KD.out KI.out).mono ?_;rintro e w9 ⟨A4,c4,rfl,hc4,hC4,hk,ho⟩;have KG:=hk;have HC4:=hC4;have HB:=zh (ho.out.below HB.out HB.out.size (by have:=L0.out;have:=L1.out;have:=L2.out;have:=L3.out;omega));have KX:=zl ho KX (by have:=L1.out;have:=L2.out;have:=L3.out;omega);have KD:=zl ho KD (by have:=L2.out;have:=L3.out;omega);have KR:=zl ho KR (by have:=L3.out;omega);have KI:=zl ho KI (by have:=L4.out;omega);obtain ⟨m0,m1,m2,m3,m4⟩:=zz5 KX.out;clear hk ho hC4))
  | (go_at_call 36;go_must (refine (HCL.out g A4 c4 _ HB.out KG.out HC4.out hc4).mono ?_;rintro e w10 ⟨v10,rfl,hv,ho⟩;obtain ⟨A5,c5,A6,c6,rfl,y1,y2,y3,y4⟩:=hv;have HB:=zh (ho.below HB.out HB.out.size (by have:=L0.out;have:=L1.out;have:=L2.out;have:=L3.out;omega));have KX:=zh (ho.blk KX.out (by have:=L1.out;have:=L2.out;have:=L3.out;omega));have KR:=zh (ho.blk KR.out (by have:=L3.out;omega));have KI:=zh (ho.blk KI.out (by have:=L4.out;omega));have Y3:=zh y3;have Y4:=zh y4;clear ho y3 y4 m0 m1 m2 m3 m4))
  | ((with_reducible refine gate_dst (N:=11) rfl ?_);go_must (refine box_event ?hg (N:=11) ?hd (cs:=#[.string ⟨#[]⟩,.int .i64 0,.slice none 0 0,.slice none 0 0,.int .u64 0]) (t:=26) ?hr ?_;(case hd=>rfl);(case hg=>rfl);(case hr=>first | (go_simp;done) | (go_simp;rfl));intro go hgo w11 hb11 hbel11;have KO:=zh hb11;have LO:=zh (show gr < go by rw [hgo];exact blk_lt KR.out);have LI:=zh (show gi < go by rw [hgo];exact blk_lt KI.out);have L9:=zh (show w.heap.size ≤ go by rw [hgo];exact HB.out.size);have HB:=keepB HB hbel11;have KX:=zk KX hbel11;have KR:=zk KR hbel11;have KI:=zk KI hbel11;have Y3:=zc Y3 hbel11;have Y4:=zc Y4 hbel11;clear hb11 hbel11 hgo))
  | ((with_reducible refine gate_store (t:=26) (p:=11) (v:=.tmp 29) rfl ?_);go_must (refine zs 26 (.tmp 11) (.tmp 29) go 0 26 [.string kb.f0,.int .i64 kb.f1,.slice A5 kb.f2.length c5,.slice A6 kb.f3.length c6,.int .u64 kb.f4] KO isz_bucket ?_;intro w12 hk ho;have Y3:=zh (keepE Y3.out KO.out (bk_like _ _ _ _ _ _ _ _ _) ho.out);have Y4:=zh (keepU Y4.out KO.out (bk_like _ _ _ _ _ _ _ _ _) ho.out);have KO:=hk;have HB:=zo ho HB L9;have KX:=zl ho KX (by have:=L1.out;have:=L2.out;have:=LO.out;omega);have KR:=zl ho KR (by have:=LO.out;omega);have KI:=zl ho KI (by have:=LI.out;omega);obtain ⟨p0,p1,p2,p3,p4⟩:=zz5 KX.out;clear hk ho))
  | ((with_reducible refine gate_store (t:=26) (p:=6) (v:=.tmp 33) rfl ?_);go_must (refine zs 26 (.tmp 6) (.tmp 33) gr 0 26 [.string b.f0,.int .i64 b.f1,.slice A2 b.f2.length c2,.slice A3 b.f3.length c3,.int .u64 b.f4] KR isz_bucket ?_;intro w13 hk ho;have HB:=zh (ho.out.below HB.out HB.out.size (by have:=L0.out;have:=L1.out;have:=L2.out;omega));obtain ⟨z0,z1,z2,z3,z4⟩:=zz5 hk.out)))
 refine bodyPost_ret (v:=.tuple #[.agg #[.string b.f0,.int .i64 b.f1,.slice A2 b.f2.length c2,.slice A3 b.f3.length c3,.int .u64 b.f4],.int .u64 0,.int .i64 ce]) (by simp [results,Tryz.results50,go_sem,z0,z1,z2,z3,z4]) rfl ?_
 exact ⟨_,rfl,⟨A2,c2,A3,c3,rfl,g2,g3,H2.out _ HB.out,H3.out _ HB.out⟩,HB.out⟩
theorem laid_off_ok (b : S26) (A2 A3 : Option Addr) (c2 c3 : Nat) (key : ByteArray) (f : Nat) (cb : Array Value) (w : World) (h2 : Kd.C k56 w A2 b.f2.length b.f2) (g2 : b.f2.length ≤ c2) (h3 : Kd.C k101 w A3 b.f3.length b.f3) (g3 : b.f3.length ≤ c3) (hst : b.f1 ≠ 1)
  (eg : ∀ args w,(callFunc f args).run Tryz.prog w = .ok (.enter f args) w) (r : List S47 × Int)
  (hdo : ∀ A' c' W,Below w.heap.size w W → (getE b.f2 key).length ≤ c' → Kd.C k47 W A' (getE b.f2 key).length (getE b.f2 key) → Calls Tryz.prog f (#[.slice A' (getE b.f2 key).length c',.int .u64 0] ++ cb) W (VPost r.1 r.2 W))
  (qb : S26) (qe : Int) (hq : versQ b key (openR b key) r = (qb,qe)) (ce : Int) (kb : S26) (hce : closeR b qb qe = (kb,ce)) (hz : ce = 0) :
  Calls Tryz.prog 50 #[.agg #[.string b.f0,.int .i64 b.f1,.slice A2 b.f2.length c2,.slice A3 b.f3.length c3,.int .u64 b.f4],.string key,.func (.func f) #[] cb] w (BkPost kb [.int .u64 0,.int .i64 ce] w):=by
 have H2:=zh (fun (W : World) (h : Below w.heap.size w W)=>Kd.C_below h2 h)
 have H3:=zh (fun (W : World) (h : Below w.heap.size w W)=>Kd.C_below h3 h)
 have HOP:=zh (fun (W : World) (h : Below w.heap.size w W)=>open.walk b A2 A3 c2 c3 key W (Kd.C_below h2 h) g2 (Kd.C_below h3 h) g3)
 have HE1 : Hid ((openR b key) = 0 → bucketB b = true ∧ keyB key = true):=fun h=>open_0 (h)
 have hf3:=versQ_f3 b key (openR b key) r
 have HQI:=zh (versQ_index b key (openR b key) r)
 rw [hq] at hf3 HQI
 have HF:=zh hf3;clear hf3
 have HGQ : Hid (qe = 0 → indexB qb.f2 = true ∧ checkB qb.f3 = true):=fun h=>by
  have x1:=HQI.out h
  have x2:=(bucket_at (HE1.out x1.1).1).2.2.1
  refine ⟨x1.2.2.1,?_⟩
  have:=HF.out.1
  exact this.symm ▸ x2
 have HDO:=zh hdo;clear hdo
 have HVS:=zh (fun (g gd gi : Nat) (W : World) (hW : Below w.heap.size w W) (K : W.heap[g]? = some (.cells #[.string b.f0,.int .i64 b.f1,.slice A2 b.f2.length c2,.slice A3 b.f3.length c3,.int .u64 b.f4,.int .i64 (openR b key)] 87 (0,0))) (KD : W.heap[gd]? = some (.cells #[.func (.func f) #[] cb] 113 (0,0))) (KI : W.heap[gi]? = some (.cells #[.int .u64 0] 24 (0,0))) =>
  versions.calls 106 #[.pointer (some ⟨gd,0,none⟩),.pointer (some ⟨gi,0,none⟩)] g b A2 A3 c2 c3 key (openR b key) r W K (Kd.C_below h2 hW) g2 (fun h x hx=>by have:=((index_mem (bucket_at (HE1.out h).1).2.1) x hx).2.2;have:=chain_le this;omega) (enters Tryz.func106 (by kernel_rfl) (by kernel_rfl))
   (fun h A' c' W' hW' hc' hC'=>laid1.walk f cb gd gi _ c' 0 A' r W' (blk_below KD hW') (blk_below KI hW') eg (HDO.out A' c' W' (hW.trans (hW'.mono hW.size)) hc' hC')))
 rw [hq] at HVS
 have HCL:=zh (fun (g : Nat) (A4 : Option Addr) (c4 : Nat) (W : World) (hW : Below w.heap.size w W) (K : W.heap[g]? = some (.cells #[.string qb.f0,.int .i64 qb.f1,.slice A4 qb.f2.length c4,.slice A3 qb.f3.length c3,.int .u64 qb.f4,.int .i64 qe] 87 (0,0))) (C4 : Kd.C k56 W A4 qb.f2.length qb.f2) (g4 : qb.f2.length ≤ c4) =>
  close.calls qb b A4 A3 A2 A3 c4 c3 c2 c3 qe g W K C4 g4 (by have:=HF.out.1;exact this.symm ▸ Kd.C_below h3 hW) (by have:=HF.out.1;exact this.symm ▸ g3) (Kd.C_below h2 hW) g2 (Kd.C_below h3 hW) g3 HGQ.out)
 rw [hce] at HCL
 have q0 : (ce == 0) = true:=beq_iff_eq.2 hz
 have q1 : (ce != 0) = false:=by rw [bne,q0];rfl
 have s1 : (b.f1 == 1) = false:=beq_eq_false_iff_ne.2 hst
 generalize openR b key = e0 at *
 clear h2 h3 eg hq hce hst HE1 HQI HGQ
 go_enter Tryz.func50,Tryz.ntmps50
 go_wp2_with (first
  | ((with_reducible refine gate_dst (N:=3) rfl ?_);go_must (refine box_event ?hg (N:=3) ?hd (cs:=#[.string b.f0,.int .i64 b.f1,.slice A2 b.f2.length c2,.slice A3 b.f3.length c3,.int .u64 b.f4]) (t:=26) ?hr ?_;(case hd=>rfl);(case hg=>rfl);(case hr=>first | (go_simp;done) | (go_simp;rfl));intro gx hgx w1 hb1 hbel1;have KX:=zh hb1;have HB:=zh hbel1;have L0:=zh (show w.heap.size ≤ gx by rw [hgx];exact Nat.le_refl _);have LX:=zh (blk_lt hb1);clear hb1 hbel1 hgx))
  | ((with_reducible refine gate_dst (N:=5) rfl ?_);go_must (refine box_event ?hg (N:=5) ?hd (cs:=#[.func (.func f) #[] cb]) (t:=113) ?hr ?_;(case hd=>rfl);(case hg=>rfl);(case hr=>first | (go_simp;done) | (go_simp;rfl));intro gd hgd w2 hb2 hbel2;have KD:=zh hb2;have HB:=keepB HB hbel2;have L1:=zh (show gx < gd by rw [hgd];exact LX.out);have LD:=zh (blk_lt hb2);have KX:=zk KX hbel2;clear hb2 hbel2 hgd LX))
  | ((with_reducible refine gate_dst (N:=6) rfl ?_);go_must (refine box_event ?hg (N:=6) ?hd (cs:=#[.string ⟨#[]⟩,.int .i64 0,.slice none 0 0,.slice none 0 0,.int .u64 0]) (t:=26) ?hr ?_;(case hd=>rfl);(case hg=>rfl);(case hr=>first | (go_simp;done) | (go_simp;rfl));intro gr hgr w3 hb3 hbel3;have KR:=zh hb3;have HB:=keepB HB hbel3;have L2:=zh (show gd < gr by rw [hgr];exact LD.out);have LR:=zh (blk_lt hb3);have KX:=zk KX hbel3;have KD:=zk KD hbel3;obtain ⟨a0,a1,a2,a3,a4⟩:=zz5 KX.out;clear hb3 hbel3 hgr LD))
  | (go_at_call 32;go_must (refine (HOP.out _ HB.out).mono ?_;rintro e w4 ⟨g,rfl,hgl,hk,hb⟩;have KG:=hk;have HB:=keepB HB (hb.out);have L3:=zh (show gr < g from Nat.lt_of_lt_of_le LR.out hgl);have LG:=zh (blk_lt hk.out);have KX:=zk KX hb.out;have KD:=zk KD hb.out;have KR:=zk KR hb.out;clear hk hb hgl LR a0 a1 a2 a3 a4))
  | ((with_reducible refine gate_dst (N:=10) rfl ?_);go_must (refine box_event ?hg (N:=10) ?hd (cs:=#[.int .u64 0]) (t:=24) ?hr ?_;(case hd=>rfl);(case hg=>rfl);(case hr=>first | (go_simp;done) | (go_simp;rfl));intro gi hgi w5 hb5 hbel5;have KI:=zh hb5;have HB:=keepB HB hbel5;have L4:=zh (show g < gi by rw [hgi];exact LG.out);have KX:=zk KX hbel5;have KD:=zk KD hbel5;have KR:=zk KR hbel5;have KG:=zk KG hbel5;clear hb5 hbel5 hgi LG))
  | ((with_reducible refine gate_store (t:=24) (p:=10) (v:=.const (.int .u64 0)) rfl ?_);go_must (refine wpList_store_row rfl rfl 24 (.tmp 10) _ rfl gi 0 _ 24 (.int .u64 0) [.int .u64 0] rfl rfl KI.out rfl (by kernel_rfl) (by show 0 + 1 ≤ 1;decide) (by simp [Value.oneCell']) ?_;intro w6 hk ho;have KI:=hk;have HB:=zh (ho.out.below HB.out HB.out.size (by have:=L0.out;have:=L1.out;have:=L2.out;have:=L3.out;have:=L4.out;omega));have KX:=zl ho KX (by have:=L1.out;have:=L2.out;have:=L3.out;have:=L4.out;omega);have KD:=zl ho KD (by have:=L2.out;have:=L3.out;have:=L4.out;omega);have KR:=zl ho KR (by have:=L3.out;have:=L4.out;omega);have KG:=zl ho KG (by have:=L4.out;omega);have n1:=zb KX.out 1 (.int .i64 b.f1);clear hk ho))
  | (go_at_call 84;go_must (refine (HVS.out g gd gi _ HB.out KG.out KD.out KI.out).mono ?_;rintro e w9 ⟨A4,c4,rfl,hc4,hC4,hk,ho⟩;have KG:=hk;have HC4:=hC4;have HB:=zh (ho.out.below HB.out HB.out.size (by have:=L0.out;have:=L1.out;have:=L2.out;have:=L3.out;omega));have KX:=zl ho KX (by have:=L1.out;have:=L2.out;have:=L3.out;omega);have KD:=zl ho KD (by have:=L2.out;have:=L3.out;omega);have KR:=zl ho KR (by have:=L3.out;omega);have KI:=zl ho KI (by have:=L4.out;omega);obtain ⟨m0,m1,m2,m3,m4⟩:=zz5 KX.out;clear hk ho hC4))
  | (go_at_call 36;go_must (refine (HCL.out g A4 c4 _ HB.out KG.out HC4.out hc4).mono ?_;rintro e w10 ⟨v10,rfl,hv,ho⟩;obtain ⟨A5,c5,A6,c6,rfl,y1,y2,y3,y4⟩:=hv;have HB:=zh (ho.below HB.out HB.out.size (by have:=L0.out;have:=L1.out;have:=L2.out;have:=L3.out;omega));have KX:=zh (ho.blk KX.out (by have:=L1.out;have:=L2.out;have:=L3.out;omega));have KR:=zh (ho.blk KR.out (by have:=L3.out;omega));have KI:=zh (ho.blk KI.out (by have:=L4.out;omega));have Y3:=zh y3;have Y4:=zh y4;clear ho y3 y4 m0 m1 m2 m3 m4))
  | ((with_reducible refine gate_dst (N:=11) rfl ?_);go_must (refine box_event ?hg (N:=11) ?hd (cs:=#[.string ⟨#[]⟩,.int .i64 0,.slice none 0 0,.slice none 0 0,.int .u64 0]) (t:=26) ?hr ?_;(case hd=>rfl);(case hg=>rfl);(case hr=>first | (go_simp;done) | (go_simp;rfl));intro go hgo w11 hb11 hbel11;have KO:=zh hb11;have LO:=zh (show gr < go by rw [hgo];exact blk_lt KR.out);have LI:=zh (show gi < go by rw [hgo];exact blk_lt KI.out);have L9:=zh (show w.heap.size ≤ go by rw [hgo];exact HB.out.size);have HB:=keepB HB hbel11;have KX:=zk KX hbel11;have KR:=zk KR hbel11;have KI:=zk KI hbel11;have Y3:=zc Y3 hbel11;have Y4:=zc Y4 hbel11;clear hb11 hbel11 hgo))
  | ((with_reducible refine gate_store (t:=26) (p:=11) (v:=.tmp 29) rfl ?_);go_must (refine zs 26 (.tmp 11) (.tmp 29) go 0 26 [.string kb.f0,.int .i64 kb.f1,.slice A5 kb.f2.length c5,.slice A6 kb.f3.length c6,.int .u64 kb.f4] KO isz_bucket ?_;intro w12 hk ho;have Y3:=zh (keepE Y3.out KO.out (bk_like _ _ _ _ _ _ _ _ _) ho.out);have Y4:=zh (keepU Y4.out KO.out (bk_like _ _ _ _ _ _ _ _ _) ho.out);have KO:=hk;have HB:=zo ho HB L9;have KX:=zl ho KX (by have:=L1.out;have:=L2.out;have:=LO.out;omega);have KR:=zl ho KR (by have:=LO.out;omega);have KI:=zl ho KI (by have:=LI.out;omega);obtain ⟨p0,p1,p2,p3,p4⟩:=zz5 KX.out;clear hk ho)))
 have Y3:=zc Y3 (below_drew (Below.refl _ w12))
 have Y4:=zc Y4 (below_drew (Below.refl _ w12))
 have KR:=zh (blk_drew KR.out)
 refine wp_region_held_drew (S:=fun W=>W.heap[go]? = some (.cells #[.string kb.f0,.int .i64 kb.f1,.slice A5 kb.f2.length c5,.slice A6 kb.f3.length c6,.int .u64 kb.f4] 26 (0,0)) ∧ W.cell? ⟨gi,0,none⟩ = some (.int .u64 0) ∧ (∃ q0 q1 q2 q3 q4,W.heap[gr]? = some (.cells #[q0,q1,q2,q3,q4] 26 (0,0))) ∧ Below w.heap.size w W ∧ W.cell? ⟨go,0,none⟩ = some (.string kb.f0) ∧ W.cell? ⟨go,1,none⟩ = some (.int .i64 kb.f1) ∧ W.cell? ⟨go,2,none⟩ = some (.slice A5 kb.f2.length c5) ∧ W.cell? ⟨go,3,none⟩ = some (.slice A6 kb.f3.length c6) ∧ W.cell? ⟨go,4,none⟩ = some (.int .u64 kb.f4)) (by kernel_rfl) ?_ (fun hHeld=>?_)
 ·exact ⟨blk_drew KO.out,(blk_cell (blk_drew KI.out) 0).trans rfl,⟨_,_,_,_,_,KR.out⟩,HB.out.drew,blk_cell (blk_drew KO.out) 0,blk_cell (blk_drew KO.out) 1,blk_cell (blk_drew KO.out) 2,blk_cell (blk_drew KO.out) 3,blk_cell (blk_drew KO.out) 4⟩
 clear KO KI HB KX p0 p1 p2 p3 p4
 generalize w12.drew = w15 at hHeld Y3 Y4 KR ⊢
 refine zt 0 (v:=?v0g2) ?y0g2 ?r0g2
 case y0g2=>(rintro w ⟨s0,s1,s2,s3,s4,s5,s6,s7,s8⟩;go_simp;try with_reducible rfl)
 try simp only [zA,zB,zC,Act.put,zD,zE,zF]
 refine zt 1 (v:=?v1g2) ?y1g2 ?r1g2
 case y1g2=>(rintro w ⟨s0,s1,s2,s3,s4,s5,s6,s7,s8⟩;go_simp;try with_reducible rfl)
 try simp only [zA,zB,zC,Act.put,zD,zE,zF]
 refine wpAnyH_ready (rs:=[2]) (by kernel_rfl) (by simp) ?_
 refine AllReadyH.cons (o:=_) rfl (fun K hK=>?_) AllReadyH.nil
 rw [if_pos (by rfl)]
 obtain ⟨s0,s1,s2,s3,s4,s5,s6,s7,s8⟩:=hHeld
 obtain ⟨q0,q1,q2,q3,q4,s2⟩:=s2
 refine wp_store_row rfl 26 (.tmp 6) (.tmp 35) rfl gr 0 _ 26 (.agg #[.string kb.f0,.int .i64 kb.f1,.slice A5 kb.f2.length c5,.slice A6 kb.f3.length c6,.int .u64 kb.f4]) [.string kb.f0,.int .i64 kb.f1,.slice A5 kb.f2.length c5,.slice A6 kb.f3.length c6,.int .u64 kb.f4] rfl rfl s2 rfl isz_bucket (by show 0 + 5 ≤ 5;decide) (by simp [Value.oneCell']) ?_
 intro w14 hk ho
 have KZ : Hid (w14.heap[gr]? = some (.cells #[.string kb.f0,.int .i64 kb.f1,.slice A5 kb.f2.length c5,.slice A6 kb.f3.length c6,.int .u64 kb.f4] 26 (0,0))):=hk
 have HO:=ho
 have HBZ:=zh (ho.out.below s3 s3.size (by have:=L0.out;have:=L1.out;have:=L2.out;omega))
 have KO2:=zh (ho.out.blk s0 (by have:=LO.out;omega))
 have ngi : Hid (gi ≠ gr):=by have:=L3.out;have:=L4.out;unfold Hid;omega
 refine hK.out _ _ ⟨KO2.out,Only.cell ho.out (p:=⟨gi,0,none⟩) ngi.out s1,⟨_,_,_,_,_,hk.out⟩,HBZ.out,zj KO2 0,zj KO2 1,zj KO2 2,zj KO2 3,zj KO2 4⟩ (fun hHeld=>?_)
 clear hK K hk ho q0 q1 q2 q3 q4 s0 s1 s2 s3 s4 s5 s6 s7 s8
 try simp only [zA,zB,zC,Act.put,zD,zE,zF]
 refine zt 3 (v:=?v3g2) ?y3g2 ?r3g2
 case y3g2=>(rintro w ⟨s0,s1,s2,s3,s4,s5,s6,s7,s8⟩;go_simp;try with_reducible rfl)
 try simp only [zA,zB,zC,Act.put,zD,zE,zF]
 refine zt 4 (v:=?v4g2) ?y4g2 ?r4g2
 case y4g2=>(rintro w ⟨s0,s1,s2,s3,s4,s5,s6,s7,s8⟩;go_simp;try with_reducible rfl)
 try simp only [zA,zB,zC,Act.put,zD,zE,zF]
 refine wpAnyH_done (by kernel_rfl) ?_ _
 go_wp2
 have z0:=zb KZ.out 0 (.string kb.f0)
 have z1:=zb KZ.out 1 (.int .i64 kb.f1)
 have z2:=zb KZ.out 2 (.slice A5 kb.f2.length c5)
 have z3:=zb KZ.out 3 (.slice A6 kb.f3.length c6)
 have z4:=zb KZ.out 4 (.int .u64 kb.f4)
 subst hz
 refine bodyPost_ret (v:=.tuple #[.agg #[.string kb.f0,.int .i64 kb.f1,.slice A5 kb.f2.length c5,.slice A6 kb.f3.length c6,.int .u64 kb.f4],.int .u64 0,.int .i64 0]) (by simp [results,Tryz.results50,go_sem,z0,z1,z2,z3,z4]) rfl ?_
 refine ⟨_,rfl,⟨A5,c5,A6,c6,rfl,y1,y2,keepE Y3.out KR.out (bk_like _ _ _ _ _ _ _ _ _) HO.out,keepU Y4.out KR.out (bk_like _ _ _ _ _ _ _ _ _) HO.out⟩,HBZ.out⟩
theorem laid_off_no (b : S26) (A2 A3 : Option Addr) (c2 c3 : Nat) (key : ByteArray) (f : Nat) (cb : Array Value) (w : World) (h2 : Kd.C k56 w A2 b.f2.length b.f2) (g2 : b.f2.length ≤ c2) (h3 : Kd.C k101 w A3 b.f3.length b.f3) (g3 : b.f3.length ≤ c3) (hst : b.f1 ≠ 1)
  (eg : ∀ args w,(callFunc f args).run Tryz.prog w = .ok (.enter f args) w) (r : List S47 × Int)
  (hdo : ∀ A' c' W,Below w.heap.size w W → (getE b.f2 key).length ≤ c' → Kd.C k47 W A' (getE b.f2 key).length (getE b.f2 key) → Calls Tryz.prog f (#[.slice A' (getE b.f2 key).length c',.int .u64 0] ++ cb) W (VPost r.1 r.2 W))
  (qb : S26) (qe : Int) (hq : versQ b key (openR b key) r = (qb,qe)) (ce : Int) (kb : S26) (hce : closeR b qb qe = (kb,ce)) (hz : ce ≠ 0) :
  Calls Tryz.prog 50 #[.agg #[.string b.f0,.int .i64 b.f1,.slice A2 b.f2.length c2,.slice A3 b.f3.length c3,.int .u64 b.f4],.string key,.func (.func f) #[] cb] w (BkPost b [.int .u64 0,.int .i64 ce] w):=by
 have H2:=zh (fun (W : World) (h : Below w.heap.size w W)=>Kd.C_below h2 h)
 have H3:=zh (fun (W : World) (h : Below w.heap.size w W)=>Kd.C_below h3 h)
 have HOP:=zh (fun (W : World) (h : Below w.heap.size w W)=>open.walk b A2 A3 c2 c3 key W (Kd.C_below h2 h) g2 (Kd.C_below h3 h) g3)
 have HE1 : Hid ((openR b key) = 0 → bucketB b = true ∧ keyB key = true):=fun h=>open_0 (h)
 have hf3:=versQ_f3 b key (openR b key) r
 have HQI:=zh (versQ_index b key (openR b key) r)
 rw [hq] at hf3 HQI
 have HF:=zh hf3;clear hf3
 have HGQ : Hid (qe = 0 → indexB qb.f2 = true ∧ checkB qb.f3 = true):=fun h=>by
  have x1:=HQI.out h
  have x2:=(bucket_at (HE1.out x1.1).1).2.2.1
  refine ⟨x1.2.2.1,?_⟩
  have:=HF.out.1
  exact this.symm ▸ x2
 have HDO:=zh hdo;clear hdo
 have HVS:=zh (fun (g gd gi : Nat) (W : World) (hW : Below w.heap.size w W) (K : W.heap[g]? = some (.cells #[.string b.f0,.int .i64 b.f1,.slice A2 b.f2.length c2,.slice A3 b.f3.length c3,.int .u64 b.f4,.int .i64 (openR b key)] 87 (0,0))) (KD : W.heap[gd]? = some (.cells #[.func (.func f) #[] cb] 113 (0,0))) (KI : W.heap[gi]? = some (.cells #[.int .u64 0] 24 (0,0))) =>
  versions.calls 106 #[.pointer (some ⟨gd,0,none⟩),.pointer (some ⟨gi,0,none⟩)] g b A2 A3 c2 c3 key (openR b key) r W K (Kd.C_below h2 hW) g2 (fun h x hx=>by have:=((index_mem (bucket_at (HE1.out h).1).2.1) x hx).2.2;have:=chain_le this;omega) (enters Tryz.func106 (by kernel_rfl) (by kernel_rfl))
   (fun h A' c' W' hW' hc' hC'=>laid1.walk f cb gd gi _ c' 0 A' r W' (blk_below KD hW') (blk_below KI hW') eg (HDO.out A' c' W' (hW.trans (hW'.mono hW.size)) hc' hC')))
 rw [hq] at HVS
 have HCL:=zh (fun (g : Nat) (A4 : Option Addr) (c4 : Nat) (W : World) (hW : Below w.heap.size w W) (K : W.heap[g]? = some (.cells #[.string qb.f0,.int .i64 qb.f1,.slice A4 qb.f2.length c4,.slice A3 qb.f3.length c3,.int .u64 qb.f4,.int .i64 qe] 87 (0,0))) (C4 : Kd.C k56 W A4 qb.f2.length qb.f2) (g4 : qb.f2.length ≤ c4) =>
  close.calls qb b A4 A3 A2 A3 c4 c3 c2 c3 qe g W K C4 g4 (by have:=HF.out.1;exact this.symm ▸ Kd.C_below h3 hW) (by have:=HF.out.1;exact this.symm ▸ g3) (Kd.C_below h2 hW) g2 (Kd.C_below h3 hW) g3 HGQ.out)
 rw [hce] at HCL
 have q0 : (ce == 0) = false:=beq_eq_false_iff_ne.2 hz
 have q1 : (ce != 0) = true:=by rw [bne,q0];rfl
 have s1 : (b.f1 == 1) = false:=beq_eq_false_iff_ne.2 hst
 generalize openR b key = e0 at *
 clear h2 h3 eg hq hce hst HE1 HQI HGQ hz
 go_enter Tryz.func50,Tryz.ntmps50
 go_wp2_with (first
  | ((with_reducible refine gate_dst (N:=3) rfl ?_);go_must (refine box_event ?hg (N:=3) ?hd (cs:=#[.string b.f0,.int .i64 b.f1,.slice A2 b.f2.length c2,.slice A3 b.f3.length c3,.int .u64 b.f4]) (t:=26) ?hr ?_;(case hd=>rfl);(case hg=>rfl);(case hr=>first | (go_simp;done) | (go_simp;rfl));intro gx hgx w1 hb1 hbel1;have KX:=zh hb1;have HB:=zh hbel1;have L0:=zh (show w.heap.size ≤ gx by rw [hgx];exact Nat.le_refl _);have LX:=zh (blk_lt hb1);clear hb1 hbel1 hgx))
  | ((with_reducible refine gate_dst (N:=5) rfl ?_);go_must (refine box_event ?hg (N:=5) ?hd (cs:=#[.func (.func f) #[] cb]) (t:=113) ?hr ?_;(case hd=>rfl);(case hg=>rfl);(case hr=>first | (go_simp;done) | (go_simp;rfl));intro gd hgd w2 hb2 hbel2;have KD:=zh hb2;have HB:=keepB HB hbel2;have L1:=zh (show gx < gd by rw [hgd];exact LX.out);have LD:=zh (blk_lt hb2);have KX:=zk KX hbel2;clear hb2 hbel2 hgd LX))
  | ((with_reducible refine gate_dst (N:=6) rfl ?_);go_must (refine box_event ?hg (N:=6) ?hd (cs:=#[.string ⟨#[]⟩,.int .i64 0,.slice none 0 0,.slice none 0 0,.int .u64 0]) (t:=26) ?hr ?_;(case hd=>rfl);(case hg=>rfl);(case hr=>first | (go_simp;done) | (go_simp;rfl));intro gr hgr w3 hb3 hbel3;have KR:=zh hb3;have HB:=keepB HB hbel3;have L2:=zh (show gd < gr by rw [hgr];exact LD.out);have LR:=zh (blk_lt hb3);have KX:=zk KX hbel3;have KD:=zk KD hbel3;obtain ⟨a0,a1,a2,a3,a4⟩:=zz5 KX.out;clear hb3 hbel3 hgr LD))
  | (go_at_call 32;go_must (refine (HOP.out _ HB.out).mono ?_;rintro e w4 ⟨g,rfl,hgl,hk,hb⟩;have KG:=hk;have HB:=keepB HB (hb.out);have L3:=zh (show gr < g from Nat.lt_of_lt_of_le LR.out hgl);have LG:=zh (blk_lt hk.out);have KX:=zk KX hb.out;have KD:=zk KD hb.out;have KR:=zk KR hb.out;clear hk hb hgl LR a0 a1 a2 a3 a4))
  | ((with_reducible refine gate_dst (N:=10) rfl ?_);go_must (refine box_event ?hg (N:=10) ?hd (cs:=#[.int .u64 0]) (t:=24) ?hr ?_;(case hd=>rfl);(case hg=>rfl);(case hr=>first | (go_simp;done) | (go_simp;rfl));intro gi hgi w5 hb5 hbel5;have KI:=zh hb5;have HB:=keepB HB hbel5;have L4:=zh (show g < gi by rw [hgi];exact LG.out);have KX:=zk KX hbel5;have KD:=zk KD hbel5;have KR:=zk KR hbel5;have KG:=zk KG hbel5;clear hb5 hbel5 hgi LG))
  | ((with_reducible refine gate_store (t:=24) (p:=10) (v:=.const (.int .u64 0)) rfl ?_);go_must (refine wpList_store_row rfl rfl 24 (.tmp 10) _ rfl gi 0 _ 24 (.int .u64 0) [.int .u64 0] rfl rfl KI.out rfl (by kernel_rfl) (by show 0 + 1 ≤ 1;decide) (by simp [Value.oneCell']) ?_;intro w6 hk ho;have KI:=hk;have HB:=zh (ho.out.below HB.out HB.out.size (by have:=L0.out;have:=L1.out;have:=L2.out;have:=L3.out;have:=L4.out;omega));have KX:=zl ho KX (by have:=L1.out;have:=L2.out;have:=L3.out;have:=L4.out;omega);have KD:=zl ho KD (by have:=L2.out;have:=L3.out;have:=L4.out;omega);have KR:=zl ho KR (by have:=L3.out;have:=L4.out;omega);have KG:=zl ho KG (by have:=L4.out;omega);have n1:=zb KX.out 1 (.int .i64 b.f1);clear hk ho))
  | (go_at_call 84;go_must (refine (HVS.out g gd gi _ HB.out KG.out KD.out KI.out).mono ?_;rintro e w9 ⟨A4,c4,rfl,hc4,hC4,hk,ho⟩;have KG:=hk;have HC4:=hC4;have HB:=zh (ho.out.below HB.out HB.out.size (by have:=L0.out;have:=L1.out;have:=L2.out;have:=L3.out;omega));have KX:=zl ho KX (by have:=L1.out;have:=L2.out;have:=L3.out;omega);have KD:=zl ho KD (by have:=L2.out;have:=L3.out;omega);have KR:=zl ho KR (by have:=L3.out;omega);have KI:=zl ho KI (by have:=L4.out;omega);obtain ⟨m0,m1,m2,m3,m4⟩:=zz5 KX.out;clear hk ho hC4))
  | (go_at_call 36;go_must (refine (HCL.out g A4 c4 _ HB.out KG.out HC4.out hc4).mono ?_;rintro e w10 ⟨v10,rfl,hv,ho⟩;obtain ⟨A5,c5,A6,c6,rfl,y1,y2,y3,y4⟩:=hv;have HB:=zh (ho.below HB.out HB.out.size (by have:=L0.out;have:=L1.out;have:=L2.out;have:=L3.out;omega));have KX:=zh (ho.blk KX.out (by have:=L1.out;have:=L2.out;have:=L3.out;omega));have KR:=zh (ho.blk KR.out (by have:=L3.out;omega));have KI:=zh (ho.blk KI.out (by have:=L4.out;omega));have Y3:=zh y3;have Y4:=zh y4;clear ho y3 y4 m0 m1 m2 m3 m4))
  | ((with_reducible refine gate_dst (N:=11) rfl ?_);go_must (refine box_event ?hg (N:=11) ?hd (cs:=#[.string ⟨#[]⟩,.int .i64 0,.slice none 0 0,.slice none 0 0,.int .u64 0]) (t:=26) ?hr ?_;(case hd=>rfl);(case hg=>rfl);(case hr=>first | (go_simp;done) | (go_simp;rfl));intro go hgo w11 hb11 hbel11;have KO:=zh hb11;have LO:=zh (show gr < go by rw [hgo];exact blk_lt KR.out);have LI:=zh (show gi < go by rw [hgo];exact blk_lt KI.out);have L9:=zh (show w.heap.size ≤ go by rw [hgo];exact HB.out.size);have HB:=keepB HB hbel11;have KX:=zk KX hbel11;have KR:=zk KR hbel11;have KI:=zk KI hbel11;have Y3:=zc Y3 hbel11;have Y4:=zc Y4 hbel11;clear hb11 hbel11 hgo))
  | ((with_reducible refine gate_store (t:=26) (p:=11) (v:=.tmp 29) rfl ?_);go_must (refine zs 26 (.tmp 11) (.tmp 29) go 0 26 [.string kb.f0,.int .i64 kb.f1,.slice A5 kb.f2.length c5,.slice A6 kb.f3.length c6,.int .u64 kb.f4] KO isz_bucket ?_;intro w12 hk ho;have Y3:=zh (keepE Y3.out KO.out (bk_like _ _ _ _ _ _ _ _ _) ho.out);have Y4:=zh (keepU Y4.out KO.out (bk_like _ _ _ _ _ _ _ _ _) ho.out);have KO:=hk;have HB:=zo ho HB L9;have KX:=zl ho KX (by have:=L1.out;have:=L2.out;have:=LO.out;omega);have KR:=zl ho KR (by have:=LO.out;omega);have KI:=zl ho KI (by have:=LI.out;omega);obtain ⟨p0,p1,p2,p3,p4⟩:=zz5 KX.out;clear hk ho))
  | ((with_reducible refine gate_store (t:=26) (p:=6) (v:=.tmp 33) rfl ?_);go_must (refine zs 26 (.tmp 6) (.tmp 33) gr 0 26 [.string b.f0,.int .i64 b.f1,.slice A2 b.f2.length c2,.slice A3 b.f3.length c3,.int .u64 b.f4] KR isz_bucket ?_;intro w13 hk ho;have HB:=zh (ho.out.below HB.out HB.out.size (by have:=L0.out;have:=L1.out;have:=L2.out;omega));obtain ⟨z0,z1,z2,z3,z4⟩:=zz5 hk.out)))
 refine bodyPost_ret (v:=.tuple #[.agg #[.string b.f0,.int .i64 b.f1,.slice A2 b.f2.length c2,.slice A3 b.f3.length c3,.int .u64 b.f4],.int .u64 0,.int .i64 ce]) (by simp [results,Tryz.results50,go_sem,z0,z1,z2,z3,z4]) rfl ?_
 exact ⟨_,rfl,⟨A2,c2,A3,c3,rfl,g2,g3,H2.out _ HB.out,H3.out _ HB.out⟩,HB.out⟩
theorem laid.walk (b : S26) (A2 A3 : Option Addr) (c2 c3 : Nat) (key : ByteArray) (f : Nat) (cb : Array Value) (F : List S47 → Int → List S47 × Int) (w : World) (h2 : Kd.C k56 w A2 b.f2.length b.f2) (g2 : b.f2.length ≤ c2) (h3 : Kd.C k101 w A3 b.f3.length b.f3) (g3 : b.f3.length ≤ c3)
  (eg : ∀ args w,(callFunc f args).run Tryz.prog w = .ok (.enter f args) w)
  (hdo : ∀ id A' c' W,Below w.heap.size w W → (getE b.f2 key).length ≤ c' → Kd.C k47 W A' (getE b.f2 key).length (getE b.f2 key) → Calls Tryz.prog f (#[.slice A' (getE b.f2 key).length c',.int .u64 id] ++ cb) W (VPost (F (getE b.f2 key) id).1 (F (getE b.f2 key) id).2 W)) :
  Calls Tryz.prog 50 #[.agg #[.string b.f0,.int .i64 b.f1,.slice A2 b.f2.length c2,.slice A3 b.f3.length c3,.int .u64 b.f4],.string key,.func (.func f) #[] cb] w (BkPost (laidR b key F).1 [.int .u64 (laidR b key F).2.1,.int .i64 (laidR b key F).2.2] w):=by
 by_cases hst : b.f1 = 1
 ·obtain ⟨l2,hl2⟩ : ∃ l2,IntKind.u64.wrap (b.f4 + 1) = l2:=⟨_,rfl⟩
  obtain ⟨⟨qb,qe⟩,hq⟩ : ∃ q,versQ (⟨b.f0,b.f1,b.f2,b.f3,l2⟩ : S26) key (noR (decide (281474976710655 ≤ b.f4)) 6 (openR b key)) (F (getE b.f2 key) l2) = q:=⟨_,rfl⟩
  obtain ⟨⟨kb,ce⟩,hce⟩ : ∃ c,closeR b qb qe = c:=⟨_,rfl⟩
  have e : laidR b key F = if ce = 0 then (kb,l2,0) else (b,0,ce):=by
   unfold laidR
   simp only [if_pos hst,hl2,hq,hce]
  rw [e]
  by_cases hz : ce = 0
  ·rw [if_pos hz]
   have:=laid_on_ok b A2 A3 c2 c3 key f cb w h2 g2 h3 g3 hst l2 hl2 eg _ (hdo l2) qb qe hq ce kb hce hz
   rwa [hz] at this
  ·rw [if_neg hz]
   exact laid_on_no b A2 A3 c2 c3 key f cb w h2 g2 h3 g3 hst l2 hl2 eg _ (hdo l2) qb qe hq ce kb hce hz
 ·obtain ⟨⟨qb,qe⟩,hq⟩ : ∃ q,versQ b key (openR b key) (F (getE b.f2 key) 0) = q:=⟨_,rfl⟩
  obtain ⟨⟨kb,ce⟩,hce⟩ : ∃ c,closeR b qb qe = c:=⟨_,rfl⟩
  have e : laidR b key F = if ce = 0 then (kb,0,0) else (b,0,ce):=by
   unfold laidR
   simp only [if_neg hst,hq,hce]
  rw [e]
  by_cases hz : ce = 0
  ·rw [if_pos hz]
   have:=laid_off_ok b A2 A3 c2 c3 key f cb w h2 g2 h3 g3 hst eg _ (hdo 0) qb qe hq ce kb hce hz
   rwa [hz] at this
  ·rw [if_neg hz]
   exact laid_off_no b A2 A3 c2 c3 key f cb w h2 g2 h3 g3 hst eg _ (hdo 0) qb qe hq ce kb hce hz
end
section
open Go.WideMaps Go.Maps
attribute [local go_sem] Oper.semAt_some
theorem putC.walk (A : Option Addr) (c : Nat) (l : List S47) (id : Int) (b : S26) (A2 A3 : Option Addr) (c2 c3 : Nat) (data : ByteArray) (q : Int) (gb gd gq : Nat) (w : World) (hr : Kd.C k47 w A l.length l) (hb : w.heap[gb]? = some (.cells #[.string b.f0,.int .i64 b.f1,.slice A2 b.f2.length c2,.slice A3 b.f3.length c3,.int .u64 b.f4] 26 (0,0))) (hd : w.heap[gd]? = some (.cells #[.string data] 9 (0,0))) (hq : w.heap[gq]? = some (.cells #[.int .i64 q] 3 (0,0))) :
  Calls Tryz.prog 51 #[.slice A l.length c,.int .u64 id,.pointer (some ⟨gb,0,none⟩),.pointer (some ⟨gd,0,none⟩),.pointer (some ⟨gq,0,none⟩)] w (VPost (putV l b.f1 ⟨id,data,false,q⟩).1 (putV l b.f1 ⟨id,data,false,q⟩).2 w):=by
 have HC:=zh (putV.walk A c l b.f1 ⟨id,data,false,q⟩ w hr)
 generalize putV l b.f1 ⟨id,data,false,q⟩ = r at *
 have b1:=zb hb 1 (.int .i64 b.f1)
 clear hb
 have hd0:=zb hd 0 (.string data)
 clear hd
 have hq0:=zb hq 0 (.int .i64 q)
 clear hq
 clear hr
 go_enter Tryz.func51,Tryz.ntmps51
 go_wp2_with (go_at_call 52;go_must (refine HC.out.mono ?_;rintro e w1 ⟨A1,c1,rfl,hc1,hC1,hb⟩;have HC1:=hC1;have HB1:=zh hb;clear hb hC1))
 go_ret2
 exact ⟨A1,c1,rfl,hc1,HC1,HB1.out⟩
theorem delC.walk (A : Option Addr) (c : Nat) (l : List S47) (id : Int) (b : S26) (A2 A3 : Option Addr) (c2 c3 : Nat) (q : Int) (gb gq : Nat) (w : World) (hr : Kd.C k47 w A l.length l) (hb : w.heap[gb]? = some (.cells #[.string b.f0,.int .i64 b.f1,.slice A2 b.f2.length c2,.slice A3 b.f3.length c3,.int .u64 b.f4] 26 (0,0))) (hq : w.heap[gq]? = some (.cells #[.int .i64 q] 3 (0,0))) :
  Calls Tryz.prog 82 #[.slice A l.length c,.int .u64 id,.pointer (some ⟨gb,0,none⟩),.pointer (some ⟨gq,0,none⟩)] w (VPost (deleteV l b.f1 id q).1 (deleteV l b.f1 id q).2 w):=by
 have HC:=zh (deleteV.walk A c l b.f1 id q w hr)
 generalize deleteV l b.f1 id q = r at *
 have b1:=zb hb 1 (.int .i64 b.f1)
 clear hb
 have hq0:=zb hq 0 (.int .i64 q)
 clear hq
 clear hr
 go_enter Tryz.func82,Tryz.ntmps82
 go_wp2_with (go_at_call 83;go_must (refine HC.out.mono ?_;rintro e w1 ⟨A1,c1,rfl,hc1,hC1,hb⟩;have HC1:=hC1;have HB1:=zh hb;clear hb hC1))
 go_ret2
 exact ⟨A1,c1,rfl,hc1,HC1,HB1.out⟩
theorem dropC.walk (A : Option Addr) (c : Nat) (l : List S47) (id : Int) (gi : Nat) (w : World) (hr : Kd.C k47 w A l.length l) (hi : w.heap[gi]? = some (.cells #[.int .u64 id] 24 (0,0))) :
  Calls Tryz.prog 85 #[.slice A l.length c,.pointer (some ⟨gi,0,none⟩)] w (VPost (dropV l id).1 (dropV l id).2 w):=by
 have HC:=zh (dropV.walk A c l id w hr)
 generalize dropV l id = r at *
 have hi0:=zb hi 0 (.int .u64 id)
 clear hi
 clear hr
 go_enter Tryz.func85,Tryz.ntmps85
 go_wp2_with (go_at_call 86;go_must (refine HC.out.mono ?_;rintro e w1 ⟨A1,c1,rfl,hc1,hC1,hb⟩;have HC1:=hC1;have HB1:=zh hb;clear hb hC1))
 go_ret2
 exact ⟨A1,c1,rfl,hc1,HC1,HB1.out⟩
theorem putB.walk (b : S26) (A2 A3 : Option Addr) (c2 c3 : Nat) (key : ByteArray) (data : ByteArray) (q : Int) (w : World) (h2 : Kd.C k56 w A2 b.f2.length b.f2) (g2 : b.f2.length ≤ c2) (h3 : Kd.C k101 w A3 b.f3.length b.f3) (g3 : b.f3.length ≤ c3) :
  Calls Tryz.prog 19 #[.agg #[.string b.f0,.int .i64 b.f1,.slice A2 b.f2.length c2,.slice A3 b.f3.length c3,.int .u64 b.f4],.string key,.string data,.int .i64 q] w (BkPost (laidR b key (fun l id=>putV l b.f1 ⟨id,data,false,q⟩)).1 [.int .u64 (laidR b key (fun l id=>putV l b.f1 ⟨id,data,false,q⟩)).2.1,.int .i64 (laidR b key (fun l id=>putV l b.f1 ⟨id,data,false,q⟩)).2.2] w):=by
 have HLD:=zh (fun (gb gd gq : Nat) (W : World) (hW : Below w.heap.size w W) (Kgb : W.heap[gb]? = some (.cells #[.string b.f0,.int .i64 b.f1,.slice A2 b.f2.length c2,.slice A3 b.f3.length c3,.int .u64 b.f4] 26 (0,0))) (Kgd : W.heap[gd]? = some (.cells #[.string data] 9 (0,0))) (Kgq : W.heap[gq]? = some (.cells #[.int .i64 q] 3 (0,0))) =>
  laid.walk b A2 A3 c2 c3 key 51 #[.pointer (some ⟨gb,0,none⟩),.pointer (some ⟨gd,0,none⟩),.pointer (some ⟨gq,0,none⟩)] (fun l id=>putV l b.f1 ⟨id,data,false,q⟩) W (Kd.C_below h2 hW) g2 (Kd.C_below h3 hW) g3 (enters Tryz.func51 (by kernel_rfl) (by kernel_rfl))
   (fun id A' c' W' hW' hc' hC'=>putC.walk A' c' (getE b.f2 key) id b A2 A3 c2 c3 data q gb gd gq W' hC' (blk_below Kgb hW') (blk_below Kgd hW') (blk_below Kgq hW')))
 generalize laidR b key (fun l id=>putV l b.f1 ⟨id,data,false,q⟩) = r at *
 obtain ⟨kb,lid,er⟩:=r
 have HB:=zh (Below.refl w.heap.size w)
 clear h2 h3 g2 g3
 go_enter Tryz.func19,Tryz.ntmps19
 go_wp2_with (first
  | ((with_reducible refine gate_dst (N:=4) rfl ?_);go_must (refine zx HB (N:=4) (cs:=#[.string b.f0,.int .i64 b.f1,.slice A2 b.f2.length c2,.slice A3 b.f3.length c3,.int .u64 b.f4]) (t:=26) ?hr ?_;(case hr=>first | (go_simp;done) | (go_simp;rfl));intro gb wgb Kgb Lgb HB hbelgb hggb;clear hbelgb hggb))
  | ((with_reducible refine gate_dst (N:=6) rfl ?_);go_must (refine zx HB (N:=6) (cs:=#[.string data]) (t:=9) ?hr ?_;(case hr=>first | (go_simp;done) | (go_simp;rfl));intro gd wgd Kgd Lgd HB hbelgd hggd;have Kgb:=zk Kgb hbelgd;clear hbelgd hggd))
  | ((with_reducible refine gate_dst (N:=7) rfl ?_);go_must (refine zx HB (N:=7) (cs:=#[.int .i64 q]) (t:=3) ?hr ?_;(case hr=>first | (go_simp;done) | (go_simp;rfl));intro gq wgq Kgq Lgq HB hbelgq hggq;have Kgb:=zk Kgb hbelgq;have Kgd:=zk Kgd hbelgq;clear hbelgq hggq))
  | ((with_reducible refine gate_dst (N:=8) rfl ?_);go_must (refine zx HB (N:=8) (cs:=#[.string ⟨#[]⟩,.int .i64 0,.slice none 0 0,.slice none 0 0,.int .u64 0]) (t:=26) ?hr ?_;(case hr=>first | (go_simp;done) | (go_simp;rfl));intro go wo Kgo Lgo HB hbelgo hggo;have Kgb:=zk Kgb hbelgo;have Kgd:=zk Kgd hbelgo;have Kgq:=zk Kgq hbelgo;obtain ⟨a0,a1,a2,a3,a4⟩:=zz5 Kgb.out;clear hbelgo hggo))
  | (go_at_call 50;go_must (refine (HLD.out gb gd gq _ HB.out Kgb.out Kgd.out Kgq.out).mono ?_;rintro e w10 ⟨v10,rfl,⟨A5,c5,A6,c6,rfl,y1,y2,y3,y4⟩,hb⟩;have HB:=keepB HB hb;have Kgo:=zk Kgo hb;have Y3:=zh y3;have Y4:=zh y4;clear hb y3 y4 a0 a1 a2 a3 a4))
  | ((with_reducible refine gate_store (t:=26) (p:=8) (v:=.tmp 15) rfl ?_);go_must (refine zs 26 (.tmp 8) (.tmp 15) go 0 26 [.string kb.f0,.int .i64 kb.f1,.slice A5 kb.f2.length c5,.slice A6 kb.f3.length c6,.int .u64 kb.f4] Kgo isz_bucket ?_;intro w12 hk ho;have Y3:=zh (keepE Y3.out Kgo.out (bk_like _ _ _ _ _ _ _ _ _) ho.out);have Y4:=zh (keepU Y4.out Kgo.out (bk_like _ _ _ _ _ _ _ _ _) ho.out);have HB:=zo ho HB Lgo;obtain ⟨z0,z1,z2,z3,z4⟩:=zz5 hk.out;clear hk ho)))
 refine bodyPost_ret (v:=.tuple #[.agg #[.string kb.f0,.int .i64 kb.f1,.slice A5 kb.f2.length c5,.slice A6 kb.f3.length c6,.int .u64 kb.f4],.int .u64 lid,.int .i64 er]) (by simp [results,Tryz.results19,go_sem,z0,z1,z2,z3,z4]) rfl ?_
 exact ⟨_,rfl,⟨A5,c5,A6,c6,rfl,y1,y2,Y3.out,Y4.out⟩,HB.out⟩
theorem delB.walk (b : S26) (A2 A3 : Option Addr) (c2 c3 : Nat) (key : ByteArray) (q : Int) (w : World) (h2 : Kd.C k56 w A2 b.f2.length b.f2) (g2 : b.f2.length ≤ c2) (h3 : Kd.C k101 w A3 b.f3.length b.f3) (g3 : b.f3.length ≤ c3) :
  Calls Tryz.prog 39 #[.agg #[.string b.f0,.int .i64 b.f1,.slice A2 b.f2.length c2,.slice A3 b.f3.length c3,.int .u64 b.f4],.string key,.int .i64 q] w (BkPost (laidR b key (fun l id=>deleteV l b.f1 id q)).1 [.int .u64 (laidR b key (fun l id=>deleteV l b.f1 id q)).2.1,.int .i64 (laidR b key (fun l id=>deleteV l b.f1 id q)).2.2] w):=by
 have HLD:=zh (fun (gb gq : Nat) (W : World) (hW : Below w.heap.size w W) (Kgb : W.heap[gb]? = some (.cells #[.string b.f0,.int .i64 b.f1,.slice A2 b.f2.length c2,.slice A3 b.f3.length c3,.int .u64 b.f4] 26 (0,0))) (Kgq : W.heap[gq]? = some (.cells #[.int .i64 q] 3 (0,0))) =>
  laid.walk b A2 A3 c2 c3 key 82 #[.pointer (some ⟨gb,0,none⟩),.pointer (some ⟨gq,0,none⟩)] (fun l id=>deleteV l b.f1 id q) W (Kd.C_below h2 hW) g2 (Kd.C_below h3 hW) g3 (enters Tryz.func82 (by kernel_rfl) (by kernel_rfl))
   (fun id A' c' W' hW' hc' hC'=>delC.walk A' c' (getE b.f2 key) id b A2 A3 c2 c3 q gb gq W' hC' (blk_below Kgb hW') (blk_below Kgq hW')))
 generalize laidR b key (fun l id=>deleteV l b.f1 id q) = r at *
 obtain ⟨kb,lid,er⟩:=r
 have HB:=zh (Below.refl w.heap.size w)
 clear h2 h3 g2 g3
 go_enter Tryz.func39,Tryz.ntmps39
 go_wp2_with (first
  | ((with_reducible refine gate_dst (N:=3) rfl ?_);go_must (refine zx HB (N:=3) (cs:=#[.string b.f0,.int .i64 b.f1,.slice A2 b.f2.length c2,.slice A3 b.f3.length c3,.int .u64 b.f4]) (t:=26) ?hr ?_;(case hr=>first | (go_simp;done) | (go_simp;rfl));intro gb wgb Kgb Lgb HB hbelgb hggb;clear hbelgb hggb))
  | ((with_reducible refine gate_dst (N:=5) rfl ?_);go_must (refine zx HB (N:=5) (cs:=#[.int .i64 q]) (t:=3) ?hr ?_;(case hr=>first | (go_simp;done) | (go_simp;rfl));intro gq wgq Kgq Lgq HB hbelgq hggq;have Kgb:=zk Kgb hbelgq;clear hbelgq hggq))
  | ((with_reducible refine gate_dst (N:=6) rfl ?_);go_must (refine zx HB (N:=6) (cs:=#[.string ⟨#[]⟩,.int .i64 0,.slice none 0 0,.slice none 0 0,.int .u64 0]) (t:=26) ?hr ?_;(case hr=>first | (go_simp;done) | (go_simp;rfl));intro go wo Kgo Lgo HB hbelgo hggo;have Kgb:=zk Kgb hbelgo;have Kgq:=zk Kgq hbelgo;obtain ⟨a0,a1,a2,a3,a4⟩:=zz5 Kgb.out;clear hbelgo hggo))
  | (go_at_call 50;go_must (refine (HLD.out gb gq _ HB.out Kgb.out Kgq.out).mono ?_;rintro e w10 ⟨v10,rfl,⟨A5,c5,A6,c6,rfl,y1,y2,y3,y4⟩,hb⟩;have HB:=keepB HB hb;have Kgo:=zk Kgo hb;have Y3:=zh y3;have Y4:=zh y4;clear hb y3 y4 a0 a1 a2 a3 a4))
  | ((with_reducible refine gate_store (t:=26) (p:=6) (v:=.tmp 13) rfl ?_);go_must (refine zs 26 (.tmp 6) (.tmp 13) go 0 26 [.string kb.f0,.int .i64 kb.f1,.slice A5 kb.f2.length c5,.slice A6 kb.f3.length c6,.int .u64 kb.f4] Kgo isz_bucket ?_;intro w12 hk ho;have Y3:=zh (keepE Y3.out Kgo.out (bk_like _ _ _ _ _ _ _ _ _) ho.out);have Y4:=zh (keepU Y4.out Kgo.out (bk_like _ _ _ _ _ _ _ _ _) ho.out);have HB:=zo ho HB Lgo;obtain ⟨z0,z1,z2,z3,z4⟩:=zz5 hk.out;clear hk ho)))
 refine bodyPost_ret (v:=.tuple #[.agg #[.string kb.f0,.int .i64 kb.f1,.slice A5 kb.f2.length c5,.slice A6 kb.f3.length c6,.int .u64 kb.f4],.int .u64 lid,.int .i64 er]) (by simp [results,Tryz.results39,go_sem,z0,z1,z2,z3,z4]) rfl ?_
 exact ⟨_,rfl,⟨A5,c5,A6,c6,rfl,y1,y2,Y3.out,Y4.out⟩,HB.out⟩
end
section
open Go.WideMaps Go.Maps
attribute [local go_sem] Oper.semAt_some
def dropB (b : S26) (key : ByteArray) (id : Int) : S26 × Int :=
 let q:=versQ b key (openR b key) (dropV (getE b.f2 key) id)
 closeR b q.1 q.2
theorem dropB.walk (b : S26) (A2 A3 : Option Addr) (c2 c3 : Nat) (key : ByteArray) (id : Int) (w : World) (h2 : Kd.C k56 w A2 b.f2.length b.f2) (g2 : b.f2.length ≤ c2) (h3 : Kd.C k101 w A3 b.f3.length b.f3) (g3 : b.f3.length ≤ c3) :
  Calls Tryz.prog 40 #[.agg #[.string b.f0,.int .i64 b.f1,.slice A2 b.f2.length c2,.slice A3 b.f3.length c3,.int .u64 b.f4],.string key,.int .u64 id] w (BkPost (dropB b key id).1 [.int .i64 (dropB b key id).2] w):=by
 have H2:=zh (fun (W : World) (h : Below w.heap.size w W)=>Kd.C_below h2 h)
 have H3:=zh (fun (W : World) (h : Below w.heap.size w W)=>Kd.C_below h3 h)
 have HOP:=zh (fun (W : World) (h : Below w.heap.size w W)=>open.walk b A2 A3 c2 c3 key W (Kd.C_below h2 h) g2 (Kd.C_below h3 h) g3)
 have HE1 : Hid (openR b key = 0 → bucketB b = true ∧ keyB key = true):=fun h=>open_0 h
 have HVS:=zh (fun (g gi : Nat) (W : World) (hW : Below w.heap.size w W) (K : W.heap[g]? = some (.cells #[.string b.f0,.int .i64 b.f1,.slice A2 b.f2.length c2,.slice A3 b.f3.length c3,.int .u64 b.f4,.int .i64 (openR b key)] 87 (0,0))) (KI : W.heap[gi]? = some (.cells #[.int .u64 id] 24 (0,0))) =>
  versions.calls 85 #[.pointer (some ⟨gi,0,none⟩)] g b A2 A3 c2 c3 key (openR b key) (dropV (getE b.f2 key) id) W K (Kd.C_below h2 hW) g2 (fun h x hx=>by have:=((index_mem (bucket_at (HE1.out h).1).2.1) x hx).2.2;have:=chain_le this;omega) (enters Tryz.func85 (by kernel_rfl) (by kernel_rfl))
   (fun h A' c' W' hW' hc' hC'=>dropC.walk A' c' (getE b.f2 key) id gi W' hC' (blk_below KI hW')))
 obtain ⟨⟨qb,qe⟩,hq⟩ : ∃ q,versQ b key (openR b key) (dropV (getE b.f2 key) id) = q:=⟨_,rfl⟩
 have hf3:=versQ_f3 b key (openR b key) (dropV (getE b.f2 key) id)
 have HQI:=zh (versQ_index b key (openR b key) (dropV (getE b.f2 key) id))
 rw [hq] at hf3 HQI HVS
 have HF:=zh hf3;clear hf3
 have HGQ : Hid (qe = 0 → indexB qb.f2 = true ∧ checkB qb.f3 = true):=fun h=>by
  have x1:=HQI.out h
  have x2:=(bucket_at (HE1.out x1.1).1).2.2.1
  refine ⟨x1.2.2.1,?_⟩
  have:=HF.out.1
  exact this.symm ▸ x2
 have HCL:=zh (fun (g : Nat) (A4 : Option Addr) (c4 : Nat) (W : World) (hW : Below w.heap.size w W) (K : W.heap[g]? = some (.cells #[.string qb.f0,.int .i64 qb.f1,.slice A4 qb.f2.length c4,.slice A3 qb.f3.length c3,.int .u64 qb.f4,.int .i64 qe] 87 (0,0))) (C4 : Kd.C k56 W A4 qb.f2.length qb.f2) (g4 : qb.f2.length ≤ c4) =>
  close.calls qb b A4 A3 A2 A3 c4 c3 c2 c3 qe g W K C4 g4 (by have:=HF.out.1;exact this.symm ▸ Kd.C_below h3 hW) (by have:=HF.out.1;exact this.symm ▸ g3) (Kd.C_below h2 hW) g2 (Kd.C_below h3 hW) g3 HGQ.out)
 have e : dropB b key id = closeR b qb qe:=by unfold dropB;rw [hq]
 rw [e]
 generalize closeR b qb qe = r at *
 obtain ⟨kb,ce⟩:=r
 generalize openR b key = e0 at *
 have HB:=zh (Below.refl w.heap.size w)
 clear h2 h3 g2 g3 hq HE1 HQI HGQ e
 go_enter Tryz.func40,Tryz.ntmps40
 go_wp2_with (first
  | ((with_reducible refine gate_dst (N:=3) rfl ?_);go_must (refine zx HB (N:=3) (cs:=#[.string b.f0,.int .i64 b.f1,.slice A2 b.f2.length c2,.slice A3 b.f3.length c3,.int .u64 b.f4]) (t:=26) ?hr ?_;(case hr=>first | (go_simp;done) | (go_simp;rfl));intro gb w1 Kgb Lgb HB hbelgb hqgb;clear hbelgb hqgb))
  | ((with_reducible refine gate_dst (N:=5) rfl ?_);go_must (refine zx HB (N:=5) (cs:=#[.int .u64 id]) (t:=24) ?hr ?_;(case hr=>first | (go_simp;done) | (go_simp;rfl));intro gi w2 Kgi Lgi HB hbelgi hqgi;have M1:=zh (show gb < gi by rw [hqgi];exact blk_lt Kgb.out);have Kgb:=zk Kgb hbelgi;clear hbelgi hqgi))
  | ((with_reducible refine gate_dst (N:=6) rfl ?_);go_must (refine zx HB (N:=6) (cs:=#[.string ⟨#[]⟩,.int .i64 0,.slice none 0 0,.slice none 0 0,.int .u64 0]) (t:=26) ?hr ?_;(case hr=>first | (go_simp;done) | (go_simp;rfl));intro go w3 Kgo Lgo HB hbelgo hqgo;have M2:=zh (show gi < go by rw [hqgo];exact blk_lt Kgi.out);have Kgb:=zk Kgb hbelgo;have Kgi:=zk Kgi hbelgo;obtain ⟨a0,a1,a2,a3,a4⟩:=zz5 Kgb.out;clear hbelgo hqgo))
  | (go_at_call 32;go_must (refine (HOP.out _ HB.out).mono ?_;rintro e w4 ⟨g,rfl,hgl,hk,hb⟩;have Kg:=hk;have M3:=zh (show go < g from Nat.lt_of_lt_of_le (blk_lt Kgo.out) hgl);have HB:=keepB HB hb.out;have Kgb:=zk Kgb hb.out;have Kgi:=zk Kgi hb.out;have Kgo:=zk Kgo hb.out;clear hk hb hgl a0 a1 a2 a3 a4))
  | (go_at_call 84;go_must (refine (HVS.out g gi _ HB.out Kg.out Kgi.out).mono ?_;rintro e w9 ⟨A4,c4,rfl,hc4,hC4,hk,ho⟩;have Kg:=hk;have HC4:=hC4;have HB:=zh (ho.out.below HB.out HB.out.size (by have:=Lgo.out;have:=M3.out;omega));have Kgb:=zl ho Kgb (by have:=M1.out;have:=M2.out;have:=M3.out;omega);have Kgi:=zl ho Kgi (by have:=M1.out;have:=M2.out;have:=M3.out;omega);have Kgo:=zl ho Kgo (by have:=M1.out;have:=M2.out;have:=M3.out;omega);obtain ⟨m0,m1,m2,m3,m4⟩:=zz5 Kgb.out;clear hk ho hC4))
  | (go_at_call 36;go_must (refine (HCL.out g A4 c4 _ HB.out Kg.out HC4.out hc4).mono ?_;rintro e w10 ⟨v10,rfl,hv,ho⟩;obtain ⟨A5,c5,A6,c6,rfl,y1,y2,y3,y4⟩:=hv;have HB:=zh (ho.below HB.out HB.out.size (by have:=Lgo.out;have:=M3.out;omega));have Kgo:=zh (ho.blk Kgo.out (by have:=M3.out;omega));have Y3:=zh y3;have Y4:=zh y4;clear ho y3 y4 m0 m1 m2 m3 m4))
  | ((with_reducible refine gate_store (t:=26) (p:=6) (v:=.tmp 19) rfl ?_);go_must (refine zs 26 (.tmp 6) (.tmp 19) go 0 26 [.string kb.f0,.int .i64 kb.f1,.slice A5 kb.f2.length c5,.slice A6 kb.f3.length c6,.int .u64 kb.f4] Kgo isz_bucket ?_;intro w11 hk ho;have Y3:=zh (keepE Y3.out Kgo.out (bk_like _ _ _ _ _ _ _ _ _) ho.out);have Y4:=zh (keepU Y4.out Kgo.out (bk_like _ _ _ _ _ _ _ _ _) ho.out);have HB:=zo ho HB Lgo;obtain ⟨z0,z1,z2,z3,z4⟩:=zz5 hk.out;clear hk ho)))
 refine bodyPost_ret (v:=.tuple #[.agg #[.string kb.f0,.int .i64 kb.f1,.slice A5 kb.f2.length c5,.slice A6 kb.f3.length c6,.int .u64 kb.f4],.int .i64 ce]) (by simp [results,Tryz.results40,go_sem,z0,z1,z2,z3,z4]) rfl ?_
 exact ⟨_,rfl,⟨A5,c5,A6,c6,rfl,y1,y2,Y3.out,Y4.out⟩,HB.out⟩
theorem newB_ok (s : ByteArray) (w : World) (hs : bnameB s = true) : Calls Tryz.prog 26 #[.string s] w fun e w'=>e = .returned (.tuple #[.agg #[.string s,.int .i64 0,.slice none 0 0,.slice none 0 0,.int .u64 0],.int .i64 0]) ∧ Below w.heap.size w w':=by
 have HN:=zh (fun (W : World)=>bname.walk s W)
 rw [hs] at HN
 have HB:=zh (Below.refl w.heap.size w)
 clear hs
 go_enter Tryz.func26,Tryz.ntmps26
 go_wp2_with (first
  | ((with_reducible refine gate_dst (N:=2) rfl ?_);go_must (refine zx HB (N:=2) (cs:=#[.string ⟨#[]⟩,.int .i64 0,.slice none 0 0,.slice none 0 0,.int .u64 0]) (t:=26) ?hr ?_;(case hr=>first | (go_simp;done) | (go_simp;rfl));intro go w1 Kgo Lgo HB hbelgo hqgo;clear hbelgo hqgo))
  | (go_at_call 66;go_must (refine (HN.out _).mono ?_;rintro e w2 ⟨rfl,hb⟩;have HB:=keepB HB hb;have Kgo:=zk Kgo hb;clear hb))
  | ((with_reducible refine gate_store (t:=26) (p:=2) (v:=.tmp 9) rfl ?_);go_must (refine zs 26 (.tmp 2) (.tmp 9) go 0 26 [.string s,.int .i64 0,.slice none 0 0,.slice none 0 0,.int .u64 0] Kgo isz_bucket ?_;intro w3 hk ho;have HB:=zo ho HB Lgo;obtain ⟨z0,z1,z2,z3,z4⟩:=zz5 hk.out;clear hk ho)))
 refine bodyPost_ret (v:=.tuple #[.agg #[.string s,.int .i64 0,.slice none 0 0,.slice none 0 0,.int .u64 0],.int .i64 0]) (by simp [results,Tryz.results26,go_sem,z0,z1,z2,z3,z4]) rfl ?_
 exact ⟨rfl,HB.out⟩
end
section
open Go.WideMaps Go.Maps
theorem bool_no {b : Bool} (h : ¬ b = false) : b = true:=by
 cases b
 ·exact absurd rfl h
 ·rfl
theorem getE_cons (y : S56) (l : List S56) (key : ByteArray) : getE (y :: l) key = if eqK key y = true then y.f1 else getE l key:=by
 unfold getE
 rw [List.findIdx?_cons]
 by_cases h : eqK key y = true
 ·rw [if_pos h,if_pos h];rfl
 ·rw [if_neg h,if_neg h]
  cases l.findIdx? (eqK key) <;> simp
theorem getE_none {key : ByteArray} : ∀ {l : List S56},(∀ x ∈ l,x.f0 ≠ key) → getE l key = []
 | [],_=>rfl
 | y :: l,h=>by
  rw [getE_cons,if_neg (fun e=>h y List.mem_cons_self (eqK_eq.1 e))]
  exact getE_none (fun x hx=>h x (List.mem_cons_of_mem _ hx))
theorem getE_mem : ∀ {l : List S56},SE l → ∀ {x : S56},x ∈ l → getE l x.f0 = x.f1
 | [],_,_,hx=>by cases hx
 | y :: l,h,x,hx=>by
  obtain ⟨h1,h2⟩:=SE_cons h
  rw [getE_cons]
  rcases List.mem_cons.1 hx with rfl | hx
  ·rw [if_pos (eqK_eq.2 rfl)]
  ·rw [if_neg (fun e=>by have:=h1 x hx;rw [eqK_eq.1 e] at this;exact ltN_irrefl _ this)]
   exact getE_mem h2 hx
theorem getE_or (key : ByteArray) : ∀ (l : List S56),(∃ x ∈ l,x.f0 = key ∧ getE l key = x.f1) ∨ ((∀ x ∈ l,x.f0 ≠ key) ∧ getE l key = [])
 | []=>Or.inr ⟨fun _ h=>(by cases h),rfl⟩
 | y :: l=>by
  rw [getE_cons]
  by_cases h : eqK key y = true
  ·rw [if_pos h];exact Or.inl ⟨y,List.mem_cons_self,eqK_eq.1 h,rfl⟩
  ·rw [if_neg h]
   rcases getE_or key l with ⟨x,hx,e1,e2⟩ | ⟨h1,h2⟩
   ·exact Or.inl ⟨x,List.mem_cons_of_mem _ hx,e1,e2⟩
   ·refine Or.inr ⟨fun x hx=>?_,h2⟩
    rcases List.mem_cons.1 hx with rfl | hx
    ·exact fun e=>h (eqK_eq.2 e)
    ·exact h1 x hx
theorem getE_put {l : List S56} (h : SE l) (key : ByteArray) (ch : List S47) : getE (putL l key ch) key = ch:=by
 by_cases hc : ch.length = 0
 ·obtain rfl:=List.length_eq_zero_iff.1 hc
  refine getE_none (fun x hx e=>?_)
  rcases (putL_mem h).1 hx with ⟨_,h2⟩ | ⟨h2,_⟩
  ·exact h2 e
  ·exact h2 rfl
 ·exact getE_mem (putL_SE key ch h) (x:=⟨key,ch⟩) ((putL_mem h).2 (Or.inr ⟨hc,rfl⟩))
def idR (b : S26) : Int:=if b.f1 = 1 then IntKind.u64.wrap (b.f4 + 1) else 0
def lastR (b : S26) : Int:=if b.f1 = 1 then IntKind.u64.wrap (b.f4 + 1) else b.f4
theorem closeR_ok {x b : S26} {e : Int} (h : (closeR x b e).2 = 0) : e = 0 ∧ octB b.f2 b.f3 ≤ 20000 ∧ closeR x b e = (b,0):=by
 unfold closeR at h ⊢
 by_cases he : e = 0
 ·rw [if_pos he] at h ⊢
  by_cases ho : octB b.f2 b.f3 ≤ 20000
  ·rw [if_pos ho];exact ⟨he,ho,rfl⟩
  ·rw [if_neg ho] at h;cases h
 ·rw [if_neg he] at h;exact absurd h he
theorem closeR_no {x b : S26} {e : Int} (h : (closeR x b e).2 ≠ 0) : (closeR x b e).1 = x:=by
 unfold closeR at h ⊢
 by_cases he : e = 0
 ·rw [if_pos he] at h ⊢
  by_cases ho : octB b.f2 b.f3 ≤ 20000
  ·rw [if_pos ho] at h;exact absurd rfl h
  ·rw [if_neg ho]
 ·rw [if_neg he]
theorem versQ_ok {b : S26} {key : ByteArray} {e : Int} {r : List S47 × Int} (h : (versQ b key e r).2 = 0) :
  e = 0 ∧ r.2 = 0 ∧ keyB key = true ∧ chainB r.1 = true ∧ (putL b.f2 key r.1).length ≤ 60 ∧ versQ b key e r = (⟨b.f0,b.f1,putL b.f2 key r.1,b.f3,b.f4⟩,0):=by
 unfold versQ versR at h ⊢
 by_cases he : e = 0
 ·rw [if_pos he] at h ⊢
  by_cases hr : r.2 = 0
  ·rw [if_pos hr] at h ⊢
   obtain ⟨q1,q2,q3,q4,q5⟩:=putE_index h
   have hl:=((index_iff _).1 q1).1
   rw [q5] at hl
   refine ⟨he,hr,q3,q4,hl,?_⟩
   rw [q5]
   simp only at h
   rw [h]
  ·rw [if_neg hr] at h;exact absurd h hr
 ·rw [if_neg he] at h;exact absurd h he
theorem wrap_le {n : Int} (h0 : 0 ≤ n) (h : n ≤ 281474976710655) : IntKind.u64.wrap (n + 1) = n + 1:=by
 unfold IntKind.wrap
 simp only [IntKind.signed,IntKind.bits,Bool.false_and,Bool.false_eq_true,if_false]
 omega
/-- what was laid went: the bucket then -/
theorem laid_ok {b : S26} {key : ByteArray} {f : List S47 → Int → List S47 × Int} (h : (laidR b key f).2.2 = 0) :
  bucketB b = true ∧ keyB key = true ∧ (f (getE b.f2 key) (idR b)).2 = 0 ∧ chainB (f (getE b.f2 key) (idR b)).1 = true ∧ (putL b.f2 key (f (getE b.f2 key) (idR b)).1).length ≤ 60 ∧
  octB (putL b.f2 key (f (getE b.f2 key) (idR b)).1) b.f3 ≤ 20000 ∧ (b.f1 = 1 → b.f4 < 281474976710655) ∧
  laidR b key f = (⟨b.f0,b.f1,putL b.f2 key (f (getE b.f2 key) (idR b)).1,b.f3,lastR b⟩,idR b,0):=by
 unfold laidR at h ⊢
 unfold idR lastR
 by_cases h1 : b.f1 = 1
 ·simp only [if_pos h1] at h ⊢
  generalize hq : versQ (⟨b.f0,b.f1,b.f2,b.f3,IntKind.u64.wrap (b.f4 + 1)⟩ : S26) key (noR (decide (281474976710655 ≤ b.f4)) 6 (openR b key)) (f (getE b.f2 key) (IntKind.u64.wrap (b.f4 + 1))) = q at h ⊢
  by_cases hc : (closeR b q.1 q.2).2 = 0
  ·rw [if_pos hc] at h ⊢
   obtain ⟨e1,e2,e3⟩:=closeR_ok hc
   rw [← hq] at e1
   obtain ⟨v1,v2,v3,v4,v5,v6⟩:=versQ_ok e1
   rw [hq] at v6
   rw [v6] at e2 e3
   have ho:=open_0 (noR_zero v1)
   refine ⟨ho.1,ho.2,v2,v4,v5,e2,fun _=>?_,?_⟩
   ·unfold noR at v1
    by_cases hd : 281474976710655 ≤ b.f4
    ·rw [decide_eq_true hd] at v1
     by_cases h0 : openR b key = 0
     ·rw [if_pos ⟨rfl,h0⟩] at v1;cases v1
     ·rw [if_neg (fun c=>h0 c.2)] at v1;exact absurd v1 h0
    ·omega
   ·rw [v6,e3]
  ·rw [if_neg hc] at h;exact absurd h hc
 ·simp only [if_neg h1] at h ⊢
  generalize hq : versQ b key (openR b key) (f (getE b.f2 key) 0) = q at h ⊢
  by_cases hc : (closeR b q.1 q.2).2 = 0
  ·rw [if_pos hc] at h ⊢
   obtain ⟨e1,e2,e3⟩:=closeR_ok hc
   rw [← hq] at e1
   obtain ⟨v1,v2,v3,v4,v5,v6⟩:=versQ_ok e1
   rw [hq] at v6
   rw [v6] at e2 e3
   have ho:=open_0 v1
   exact ⟨ho.1,ho.2,v2,v4,v5,e2,fun c=>absurd c h1,by rw [v6,e3]⟩
  ·rw [if_neg hc] at h;exact absurd h hc
theorem fin_no {b : S26} {id : Int} {c : S26 × Int} (h : ((if c.2 = 0 then (c.1,id,0) else (b,0,c.2)) : S26 × Int × Int).2.2 ≠ 0) : ((if c.2 = 0 then (c.1,id,0) else (b,0,c.2)) : S26 × Int × Int).1 = b ∧ ((if c.2 = 0 then (c.1,id,0) else (b,0,c.2)) : S26 × Int × Int).2.1 = 0:=by
 by_cases hc : c.2 = 0
 ·rw [if_pos hc] at h;exact absurd rfl h
 ·rw [if_neg hc];exact ⟨rfl,rfl⟩
theorem laid_no {b : S26} {key : ByteArray} {f : List S47 → Int → List S47 × Int} (h : (laidR b key f).2.2 ≠ 0) : (laidR b key f).1 = b ∧ (laidR b key f).2.1 = 0:=by
 exact fin_no h
theorem dropB_ok {b : S26} {key : ByteArray} {id : Int} (h : (dropB b key id).2 = 0) :
  bucketB b = true ∧ keyB key = true ∧ (dropV (getE b.f2 key) id).2 = 0 ∧ chainB (dropV (getE b.f2 key) id).1 = true ∧ (putL b.f2 key (dropV (getE b.f2 key) id).1).length ≤ 60 ∧
  octB (putL b.f2 key (dropV (getE b.f2 key) id).1) b.f3 ≤ 20000 ∧ dropB b key id = (⟨b.f0,b.f1,putL b.f2 key (dropV (getE b.f2 key) id).1,b.f3,b.f4⟩,0):=by
 unfold dropB at h ⊢
 simp only at h ⊢
 generalize hq : versQ b key (openR b key) (dropV (getE b.f2 key) id) = q at h ⊢
 obtain ⟨e1,e2,e3⟩:=closeR_ok h
 rw [← hq] at e1
 obtain ⟨v1,v2,v3,v4,v5,v6⟩:=versQ_ok e1
 rw [hq] at v6
 rw [v6] at e2 e3
 have ho:=open_0 v1
 exact ⟨ho.1,ho.2,v2,v4,v5,e2,by rw [v6,e3]⟩
theorem dropB_no {b : S26} {key : ByteArray} {id : Int} (h : (dropB b key id).2 ≠ 0) : (dropB b key id).1 = b:=by
 unfold dropB at h ⊢
 exact closeR_no h
end
section
open Go.WideMaps Go.Maps
attribute [local go_sem] Oper.semAt_some
def turnB (b : S26) (st : Int) : S26 × Int:=if bucketB b = false ∨ st < 0 ∨ 2 < st then (b,1) else if st = 0 ∧ b.f1 ≠ 0 then (b,8) else (⟨b.f0,st,b.f2,b.f3,b.f4⟩,0)
theorem turn_a (b : S26) (A2 A3 : Option Addr) (c2 c3 : Nat) (st : Int) (w : World) (h2 : Kd.C k56 w A2 b.f2.length b.f2) (g2 : b.f2.length ≤ c2) (h3 : Kd.C k101 w A3 b.f3.length b.f3) (g3 : b.f3.length ≤ c3) (hb : bucketB b = false)  :
  Calls Tryz.prog 27 #[.agg #[.string b.f0,.int .i64 b.f1,.slice A2 b.f2.length c2,.slice A3 b.f3.length c3,.int .u64 b.f4],.int .i64 st] w fun e w'=>e = .returned (.tuple #[.agg #[.string b.f0,.int .i64 b.f1,.slice A2 b.f2.length c2,.slice A3 b.f3.length c3,.int .u64 b.f4],.int .i64 1]) ∧ Below w.heap.size w w':=by
 have HC:=zh (fun (W : World) (h : Below w.heap.size w W)=>bucket.walk b A2 A3 c2 c3 W (Kd.C_below h2 h) g2 (Kd.C_below h3 h) g3)
 have e0 : errB (bucketB b) = 1:=by rw [hb];rfl
 rw [e0] at HC
 have HB:=zh (Below.refl w.heap.size w)
 clear h2 h3 g2 g3 hb e0
 go_enter Tryz.func27,Tryz.ntmps27
 go_wp2_with (first
  | ((with_reducible refine gate_dst (N:=2) rfl ?_);go_must (refine zx HB (N:=2) (cs:=#[.string b.f0,.int .i64 b.f1,.slice A2 b.f2.length c2,.slice A3 b.f3.length c3,.int .u64 b.f4]) (t:=26) ?hr ?_;(case hr=>first | (go_simp;done) | (go_simp;rfl));intro gb w1 Kgb Lgb HB hbelgb hqgb;clear hbelgb hqgb))
  | ((with_reducible refine gate_dst (N:=4) rfl ?_);go_must (refine zx HB (N:=4) (cs:=#[.string ⟨#[]⟩,.int .i64 0,.slice none 0 0,.slice none 0 0,.int .u64 0]) (t:=26) ?hr ?_;(case hr=>first | (go_simp;done) | (go_simp;rfl));intro go w2 Kgo Lgo HB hbelgo hqgo;have M1:=zh (show gb < go by rw [hqgo];exact blk_lt Kgb.out);have Kgb:=zk Kgb hbelgo;obtain ⟨a0,a1,a2,a3,a4⟩:=zz5 Kgb.out;clear hbelgo hqgo))
  | (go_at_call 25;go_must (refine (HC.out _ HB.out).mono ?_;rintro e w3 ⟨rfl,hb⟩;have HB:=keepB HB hb;have Kgb:=zk Kgb hb;have Kgo:=zk Kgo hb;obtain ⟨m0,m1,m2,m3,m4⟩:=zz5 Kgb.out;clear hb a0 a1 a2 a3 a4))
  | ((with_reducible refine gate_store (t:=26) (p:=4) (v:=.tmp 18) rfl ?_);go_must (refine zs 26 (.tmp 4) (.tmp 18) go 0 26 [.string b.f0,.int .i64 b.f1,.slice A2 b.f2.length c2,.slice A3 b.f3.length c3,.int .u64 b.f4] Kgo isz_bucket ?_;intro w5 hk ho;have HB:=zo ho HB Lgo;obtain ⟨z0,z1,z2,z3,z4⟩:=zz5 hk.out;clear hk ho)))
 refine bodyPost_ret (v:=.tuple #[.agg #[.string b.f0,.int .i64 b.f1,.slice A2 b.f2.length c2,.slice A3 b.f3.length c3,.int .u64 b.f4],.int .i64 1]) (by simp [results,Tryz.results27,go_sem,z0,z1,z2,z3,z4]) rfl ?_
 exact ⟨rfl,HB.out⟩
theorem turn_b (b : S26) (A2 A3 : Option Addr) (c2 c3 : Nat) (st : Int) (w : World) (h2 : Kd.C k56 w A2 b.f2.length b.f2) (g2 : b.f2.length ≤ c2) (h3 : Kd.C k101 w A3 b.f3.length b.f3) (g3 : b.f3.length ≤ c3) (hb : bucketB b = true) (hs : st < 0) :
  Calls Tryz.prog 27 #[.agg #[.string b.f0,.int .i64 b.f1,.slice A2 b.f2.length c2,.slice A3 b.f3.length c3,.int .u64 b.f4],.int .i64 st] w fun e w'=>e = .returned (.tuple #[.agg #[.string b.f0,.int .i64 b.f1,.slice A2 b.f2.length c2,.slice A3 b.f3.length c3,.int .u64 b.f4],.int .i64 1]) ∧ Below w.heap.size w w':=by
 have HC:=zh (fun (W : World) (h : Below w.heap.size w W)=>bucket.walk b A2 A3 c2 c3 W (Kd.C_below h2 h) g2 (Kd.C_below h3 h) g3)
 have e0 : errB (bucketB b) = 0:=by rw [hb];rfl
 rw [e0] at HC
 have q0:=(decide_eq_true (by omega) : decide (st < 0) = true)
 have HB:=zh (Below.refl w.heap.size w)
 clear h2 h3 g2 g3 hb e0
 go_enter Tryz.func27,Tryz.ntmps27
 go_wp2_with (first
  | ((with_reducible refine gate_dst (N:=2) rfl ?_);go_must (refine zx HB (N:=2) (cs:=#[.string b.f0,.int .i64 b.f1,.slice A2 b.f2.length c2,.slice A3 b.f3.length c3,.int .u64 b.f4]) (t:=26) ?hr ?_;(case hr=>first | (go_simp;done) | (go_simp;rfl));intro gb w1 Kgb Lgb HB hbelgb hqgb;clear hbelgb hqgb))
  | ((with_reducible refine gate_dst (N:=4) rfl ?_);go_must (refine zx HB (N:=4) (cs:=#[.string ⟨#[]⟩,.int .i64 0,.slice none 0 0,.slice none 0 0,.int .u64 0]) (t:=26) ?hr ?_;(case hr=>first | (go_simp;done) | (go_simp;rfl));intro go w2 Kgo Lgo HB hbelgo hqgo;have M1:=zh (show gb < go by rw [hqgo];exact blk_lt Kgb.out);have Kgb:=zk Kgb hbelgo;obtain ⟨a0,a1,a2,a3,a4⟩:=zz5 Kgb.out;clear hbelgo hqgo))
  | (go_at_call 25;go_must (refine (HC.out _ HB.out).mono ?_;rintro e w3 ⟨rfl,hb⟩;have HB:=keepB HB hb;have Kgb:=zk Kgb hb;have Kgo:=zk Kgo hb;obtain ⟨m0,m1,m2,m3,m4⟩:=zz5 Kgb.out;clear hb a0 a1 a2 a3 a4))
  | ((with_reducible refine gate_store (t:=26) (p:=4) (v:=.tmp 18) rfl ?_);go_must (refine zs 26 (.tmp 4) (.tmp 18) go 0 26 [.string b.f0,.int .i64 b.f1,.slice A2 b.f2.length c2,.slice A3 b.f3.length c3,.int .u64 b.f4] Kgo isz_bucket ?_;intro w5 hk ho;have HB:=zo ho HB Lgo;obtain ⟨z0,z1,z2,z3,z4⟩:=zz5 hk.out;clear hk ho)))
 refine bodyPost_ret (v:=.tuple #[.agg #[.string b.f0,.int .i64 b.f1,.slice A2 b.f2.length c2,.slice A3 b.f3.length c3,.int .u64 b.f4],.int .i64 1]) (by simp [results,Tryz.results27,go_sem,z0,z1,z2,z3,z4]) rfl ?_
 exact ⟨rfl,HB.out⟩
theorem turn_c (b : S26) (A2 A3 : Option Addr) (c2 c3 : Nat) (st : Int) (w : World) (h2 : Kd.C k56 w A2 b.f2.length b.f2) (g2 : b.f2.length ≤ c2) (h3 : Kd.C k101 w A3 b.f3.length b.f3) (g3 : b.f3.length ≤ c3) (hb : bucketB b = true) (hs : 2 < st) :
  Calls Tryz.prog 27 #[.agg #[.string b.f0,.int .i64 b.f1,.slice A2 b.f2.length c2,.slice A3 b.f3.length c3,.int .u64 b.f4],.int .i64 st] w fun e w'=>e = .returned (.tuple #[.agg #[.string b.f0,.int .i64 b.f1,.slice A2 b.f2.length c2,.slice A3 b.f3.length c3,.int .u64 b.f4],.int .i64 1]) ∧ Below w.heap.size w w':=by
 have HC:=zh (fun (W : World) (h : Below w.heap.size w W)=>bucket.walk b A2 A3 c2 c3 W (Kd.C_below h2 h) g2 (Kd.C_below h3 h) g3)
 have e0 : errB (bucketB b) = 0:=by rw [hb];rfl
 rw [e0] at HC
 have q0:=(decide_eq_false (by omega) : decide (st < 0) = false)
 have q1:=(decide_eq_true (by omega) : decide (2 < st) = true)
 have q2:=(decide_eq_true (by omega) : decide (st > 2) = true)
 have HB:=zh (Below.refl w.heap.size w)
 clear h2 h3 g2 g3 hb e0
 go_enter Tryz.func27,Tryz.ntmps27
 go_wp2_with (first
  | ((with_reducible refine gate_dst (N:=2) rfl ?_);go_must (refine zx HB (N:=2) (cs:=#[.string b.f0,.int .i64 b.f1,.slice A2 b.f2.length c2,.slice A3 b.f3.length c3,.int .u64 b.f4]) (t:=26) ?hr ?_;(case hr=>first | (go_simp;done) | (go_simp;rfl));intro gb w1 Kgb Lgb HB hbelgb hqgb;clear hbelgb hqgb))
  | ((with_reducible refine gate_dst (N:=4) rfl ?_);go_must (refine zx HB (N:=4) (cs:=#[.string ⟨#[]⟩,.int .i64 0,.slice none 0 0,.slice none 0 0,.int .u64 0]) (t:=26) ?hr ?_;(case hr=>first | (go_simp;done) | (go_simp;rfl));intro go w2 Kgo Lgo HB hbelgo hqgo;have M1:=zh (show gb < go by rw [hqgo];exact blk_lt Kgb.out);have Kgb:=zk Kgb hbelgo;obtain ⟨a0,a1,a2,a3,a4⟩:=zz5 Kgb.out;clear hbelgo hqgo))
  | (go_at_call 25;go_must (refine (HC.out _ HB.out).mono ?_;rintro e w3 ⟨rfl,hb⟩;have HB:=keepB HB hb;have Kgb:=zk Kgb hb;have Kgo:=zk Kgo hb;obtain ⟨m0,m1,m2,m3,m4⟩:=zz5 Kgb.out;clear hb a0 a1 a2 a3 a4))
  | ((with_reducible refine gate_store (t:=26) (p:=4) (v:=.tmp 18) rfl ?_);go_must (refine zs 26 (.tmp 4) (.tmp 18) go 0 26 [.string b.f0,.int .i64 b.f1,.slice A2 b.f2.length c2,.slice A3 b.f3.length c3,.int .u64 b.f4] Kgo isz_bucket ?_;intro w5 hk ho;have HB:=zo ho HB Lgo;obtain ⟨z0,z1,z2,z3,z4⟩:=zz5 hk.out;clear hk ho)))
 refine bodyPost_ret (v:=.tuple #[.agg #[.string b.f0,.int .i64 b.f1,.slice A2 b.f2.length c2,.slice A3 b.f3.length c3,.int .u64 b.f4],.int .i64 1]) (by simp [results,Tryz.results27,go_sem,z0,z1,z2,z3,z4]) rfl ?_
 exact ⟨rfl,HB.out⟩
theorem turn_d (b : S26) (A2 A3 : Option Addr) (c2 c3 : Nat) (w : World) (h2 : Kd.C k56 w A2 b.f2.length b.f2) (g2 : b.f2.length ≤ c2) (h3 : Kd.C k101 w A3 b.f3.length b.f3) (g3 : b.f3.length ≤ c3) (hb : bucketB b = true) (hf : b.f1 ≠ 0) :
  Calls Tryz.prog 27 #[.agg #[.string b.f0,.int .i64 b.f1,.slice A2 b.f2.length c2,.slice A3 b.f3.length c3,.int .u64 b.f4],.int .i64 0] w fun e w'=>e = .returned (.tuple #[.agg #[.string b.f0,.int .i64 b.f1,.slice A2 b.f2.length c2,.slice A3 b.f3.length c3,.int .u64 b.f4],.int .i64 8]) ∧ Below w.heap.size w w':=by
 have HC:=zh (fun (W : World) (h : Below w.heap.size w W)=>bucket.walk b A2 A3 c2 c3 W (Kd.C_below h2 h) g2 (Kd.C_below h3 h) g3)
 have e0 : errB (bucketB b) = 0:=by rw [hb];rfl
 rw [e0] at HC
 have r0 : (b.f1 == 0) = false:=beq_eq_false_iff_ne.2 hf
 have rn0 : (b.f1 != 0) = true:=by rw [bne,r0];rfl
 have HB:=zh (Below.refl w.heap.size w)
 clear h2 h3 g2 g3 hb e0
 go_enter Tryz.func27,Tryz.ntmps27
 go_wp2_with (first
  | ((with_reducible refine gate_dst (N:=2) rfl ?_);go_must (refine zx HB (N:=2) (cs:=#[.string b.f0,.int .i64 b.f1,.slice A2 b.f2.length c2,.slice A3 b.f3.length c3,.int .u64 b.f4]) (t:=26) ?hr ?_;(case hr=>first | (go_simp;done) | (go_simp;rfl));intro gb w1 Kgb Lgb HB hbelgb hqgb;clear hbelgb hqgb))
  | ((with_reducible refine gate_dst (N:=4) rfl ?_);go_must (refine zx HB (N:=4) (cs:=#[.string ⟨#[]⟩,.int .i64 0,.slice none 0 0,.slice none 0 0,.int .u64 0]) (t:=26) ?hr ?_;(case hr=>first | (go_simp;done) | (go_simp;rfl));intro go w2 Kgo Lgo HB hbelgo hqgo;have M1:=zh (show gb < go by rw [hqgo];exact blk_lt Kgb.out);have Kgb:=zk Kgb hbelgo;obtain ⟨a0,a1,a2,a3,a4⟩:=zz5 Kgb.out;clear hbelgo hqgo))
  | (go_at_call 25;go_must (refine (HC.out _ HB.out).mono ?_;rintro e w3 ⟨rfl,hb⟩;have HB:=keepB HB hb;have Kgb:=zk Kgb hb;have Kgo:=zk Kgo hb;obtain ⟨m0,m1,m2,m3,m4⟩:=zz5 Kgb.out;clear hb a0 a1 a2 a3 a4))
  | ((with_reducible refine gate_store (t:=26) (p:=4) (v:=.tmp 27) rfl ?_);go_must (refine zs 26 (.tmp 4) (.tmp 27) go 0 26 [.string b.f0,.int .i64 b.f1,.slice A2 b.f2.length c2,.slice A3 b.f3.length c3,.int .u64 b.f4] Kgo isz_bucket ?_;intro w5 hk ho;have HB:=zo ho HB Lgo;obtain ⟨z0,z1,z2,z3,z4⟩:=zz5 hk.out;clear hk ho)))
 refine bodyPost_ret (v:=.tuple #[.agg #[.string b.f0,.int .i64 b.f1,.slice A2 b.f2.length c2,.slice A3 b.f3.length c3,.int .u64 b.f4],.int .i64 8]) (by simp [results,Tryz.results27,go_sem,z0,z1,z2,z3,z4]) rfl ?_
 exact ⟨rfl,HB.out⟩
theorem turn_e (b : S26) (A2 A3 : Option Addr) (c2 c3 : Nat) (st : Int) (w : World) (h2 : Kd.C k56 w A2 b.f2.length b.f2) (g2 : b.f2.length ≤ c2) (h3 : Kd.C k101 w A3 b.f3.length b.f3) (g3 : b.f3.length ≤ c3) (hb : bucketB b = true) (hs : st = 0) (hf : b.f1 = 0) :
  Calls Tryz.prog 27 #[.agg #[.string b.f0,.int .i64 b.f1,.slice A2 b.f2.length c2,.slice A3 b.f3.length c3,.int .u64 b.f4],.int .i64 st] w fun e w'=>e = .returned (.tuple #[.agg #[.string b.f0,.int .i64 st,.slice A2 b.f2.length c2,.slice A3 b.f3.length c3,.int .u64 b.f4],.int .i64 0]) ∧ Below w.heap.size w w':=by
 have HC:=zh (fun (W : World) (h : Below w.heap.size w W)=>bucket.walk b A2 A3 c2 c3 W (Kd.C_below h2 h) g2 (Kd.C_below h3 h) g3)
 have e0 : errB (bucketB b) = 0:=by rw [hb];rfl
 rw [e0] at HC
 have q0:=(decide_eq_false (by omega) : decide (st < 0) = false)
 have q1:=(decide_eq_false (by omega) : decide (2 < st) = false)
 have q2:=(decide_eq_false (by omega) : decide (st > 2) = false)
 have r0 : (st == 0) = true:=beq_iff_eq.2 hs
 have rn0 : (st != 0) = false:=by rw [bne,r0];rfl
 have r1 : (b.f1 == 0) = true:=beq_iff_eq.2 hf
 have rn1 : (b.f1 != 0) = false:=by rw [bne,r1];rfl
 clear hs hf
 have HB:=zh (Below.refl w.heap.size w)
 clear h2 h3 g2 g3 hb e0
 go_enter Tryz.func27,Tryz.ntmps27
 go_wp2_with (first
  | ((with_reducible refine gate_dst (N:=2) rfl ?_);go_must (refine zx HB (N:=2) (cs:=#[.string b.f0,.int .i64 b.f1,.slice A2 b.f2.length c2,.slice A3 b.f3.length c3,.int .u64 b.f4]) (t:=26) ?hr ?_;(case hr=>first | (go_simp;done) | (go_simp;rfl));intro gb w1 Kgb Lgb HB hbelgb hqgb;clear hbelgb hqgb))
  | ((with_reducible refine gate_dst (N:=4) rfl ?_);go_must (refine zx HB (N:=4) (cs:=#[.string ⟨#[]⟩,.int .i64 0,.slice none 0 0,.slice none 0 0,.int .u64 0]) (t:=26) ?hr ?_;(case hr=>first | (go_simp;done) | (go_simp;rfl));intro go w2 Kgo Lgo HB hbelgo hqgo;have M1:=zh (show gb < go by rw [hqgo];exact blk_lt Kgb.out);have Kgb:=zk Kgb hbelgo;obtain ⟨a0,a1,a2,a3,a4⟩:=zz5 Kgb.out;clear hbelgo hqgo))
  | (go_at_call 25;go_must (refine (HC.out _ HB.out).mono ?_;rintro e w3 ⟨rfl,hb⟩;have HB:=keepB HB hb;have Kgb:=zk Kgb hb;have Kgo:=zk Kgo hb;obtain ⟨m0,m1,m2,m3,m4⟩:=zz5 Kgb.out;clear hb a0 a1 a2 a3 a4))
  | ((with_reducible refine gate_store (t:=3) (p:=29) (v:=.tmp 28) rfl ?_);go_must (refine zq 3 (.tmp 29) (.tmp 28) gb 1 26 (.int .i64 st) Kgb (by kernel_rfl) ?_;intro w4 hk ho;have Kgb : Hid (w4.heap[gb]? = some (.cells #[.string b.f0,.int .i64 st,.slice A2 b.f2.length c2,.slice A3 b.f3.length c3,.int .u64 b.f4] 26 (0,0))):=hk;have HB:=zo ho HB Lgb;have Kgo:=zl ho Kgo (by have:=M1.out;omega);obtain ⟨n0,n1,n2,n3,n4⟩:=zz5 Kgb.out;clear m0 m1 m2 m3 m4;clear hk ho))
  | ((with_reducible refine gate_store (t:=26) (p:=4) (v:=.tmp 30) rfl ?_);go_must (refine zs 26 (.tmp 4) (.tmp 30) go 0 26 [.string b.f0,.int .i64 st,.slice A2 b.f2.length c2,.slice A3 b.f3.length c3,.int .u64 b.f4] Kgo isz_bucket ?_;intro w5 hk ho;have HB:=zo ho HB Lgo;obtain ⟨z0,z1,z2,z3,z4⟩:=zz5 hk.out;clear hk ho)))
 refine bodyPost_ret (v:=.tuple #[.agg #[.string b.f0,.int .i64 st,.slice A2 b.f2.length c2,.slice A3 b.f3.length c3,.int .u64 b.f4],.int .i64 0]) (by simp [results,Tryz.results27,go_sem,z0,z1,z2,z3,z4]) rfl ?_
 exact ⟨rfl,HB.out⟩
theorem turn_f (b : S26) (A2 A3 : Option Addr) (c2 c3 : Nat) (st : Int) (w : World) (h2 : Kd.C k56 w A2 b.f2.length b.f2) (g2 : b.f2.length ≤ c2) (h3 : Kd.C k101 w A3 b.f3.length b.f3) (g3 : b.f3.length ≤ c3) (hb : bucketB b = true) (hs : 0 < st) (hs2 : st ≤ 2) :
  Calls Tryz.prog 27 #[.agg #[.string b.f0,.int .i64 b.f1,.slice A2 b.f2.length c2,.slice A3 b.f3.length c3,.int .u64 b.f4],.int .i64 st] w fun e w'=>e = .returned (.tuple #[.agg #[.string b.f0,.int .i64 st,.slice A2 b.f2.length c2,.slice A3 b.f3.length c3,.int .u64 b.f4],.int .i64 0]) ∧ Below w.heap.size w w':=by
 have HC:=zh (fun (W : World) (h : Below w.heap.size w W)=>bucket.walk b A2 A3 c2 c3 W (Kd.C_below h2 h) g2 (Kd.C_below h3 h) g3)
 have e0 : errB (bucketB b) = 0:=by rw [hb];rfl
 rw [e0] at HC
 have q0:=(decide_eq_false (by omega) : decide (st < 0) = false)
 have q1:=(decide_eq_false (by omega) : decide (2 < st) = false)
 have q2:=(decide_eq_false (by omega) : decide (st > 2) = false)
 have r0 : (st == 0) = false:=beq_eq_false_iff_ne.2 (by omega)
 have rn0 : (st != 0) = true:=by rw [bne,r0];rfl
 have HB:=zh (Below.refl w.heap.size w)
 clear h2 h3 g2 g3 hb e0
 go_enter Tryz.func27,Tryz.ntmps27
 go_wp2_with (first
  | ((with_reducible refine gate_dst (N:=2) rfl ?_);go_must (refine zx HB (N:=2) (cs:=#[.string b.f0,.int .i64 b.f1,.slice A2 b.f2.length c2,.slice A3 b.f3.length c3,.int .u64 b.f4]) (t:=26) ?hr ?_;(case hr=>first | (go_simp;done) | (go_simp;rfl));intro gb w1 Kgb Lgb HB hbelgb hqgb;clear hbelgb hqgb))
  | ((with_reducible refine gate_dst (N:=4) rfl ?_);go_must (refine zx HB (N:=4) (cs:=#[.string ⟨#[]⟩,.int .i64 0,.slice none 0 0,.slice none 0 0,.int .u64 0]) (t:=26) ?hr ?_;(case hr=>first | (go_simp;done) | (go_simp;rfl));intro go w2 Kgo Lgo HB hbelgo hqgo;have M1:=zh (show gb < go by rw [hqgo];exact blk_lt Kgb.out);have Kgb:=zk Kgb hbelgo;obtain ⟨a0,a1,a2,a3,a4⟩:=zz5 Kgb.out;clear hbelgo hqgo))
  | (go_at_call 25;go_must (refine (HC.out _ HB.out).mono ?_;rintro e w3 ⟨rfl,hb⟩;have HB:=keepB HB hb;have Kgb:=zk Kgb hb;have Kgo:=zk Kgo hb;obtain ⟨m0,m1,m2,m3,m4⟩:=zz5 Kgb.out;clear hb a0 a1 a2 a3 a4))
  | ((with_reducible refine gate_store (t:=3) (p:=29) (v:=.tmp 28) rfl ?_);go_must (refine zq 3 (.tmp 29) (.tmp 28) gb 1 26 (.int .i64 st) Kgb (by kernel_rfl) ?_;intro w4 hk ho;have Kgb : Hid (w4.heap[gb]? = some (.cells #[.string b.f0,.int .i64 st,.slice A2 b.f2.length c2,.slice A3 b.f3.length c3,.int .u64 b.f4] 26 (0,0))):=hk;have HB:=zo ho HB Lgb;have Kgo:=zl ho Kgo (by have:=M1.out;omega);obtain ⟨n0,n1,n2,n3,n4⟩:=zz5 Kgb.out;clear m0 m1 m2 m3 m4;clear hk ho))
  | ((with_reducible refine gate_store (t:=26) (p:=4) (v:=.tmp 30) rfl ?_);go_must (refine zs 26 (.tmp 4) (.tmp 30) go 0 26 [.string b.f0,.int .i64 st,.slice A2 b.f2.length c2,.slice A3 b.f3.length c3,.int .u64 b.f4] Kgo isz_bucket ?_;intro w5 hk ho;have HB:=zo ho HB Lgo;obtain ⟨z0,z1,z2,z3,z4⟩:=zz5 hk.out;clear hk ho)))
 refine bodyPost_ret (v:=.tuple #[.agg #[.string b.f0,.int .i64 st,.slice A2 b.f2.length c2,.slice A3 b.f3.length c3,.int .u64 b.f4],.int .i64 0]) (by simp [results,Tryz.results27,go_sem,z0,z1,z2,z3,z4]) rfl ?_
 exact ⟨rfl,HB.out⟩
theorem turnB.walk (b : S26) (A2 A3 : Option Addr) (c2 c3 : Nat) (st : Int) (w : World) (h2 : Kd.C k56 w A2 b.f2.length b.f2) (g2 : b.f2.length ≤ c2) (h3 : Kd.C k101 w A3 b.f3.length b.f3) (g3 : b.f3.length ≤ c3) :
  Calls Tryz.prog 27 #[.agg #[.string b.f0,.int .i64 b.f1,.slice A2 b.f2.length c2,.slice A3 b.f3.length c3,.int .u64 b.f4],.int .i64 st] w (BkPost (turnB b st).1 [.int .i64 (turnB b st).2] w):=by
 have fin : ∀ (x : S26) (er : Int),x.f2 = b.f2 → x.f3 = b.f3 → Calls Tryz.prog 27 #[.agg #[.string b.f0,.int .i64 b.f1,.slice A2 b.f2.length c2,.slice A3 b.f3.length c3,.int .u64 b.f4],.int .i64 st] w (fun e w'=>e = .returned (.tuple #[.agg #[.string x.f0,.int .i64 x.f1,.slice A2 b.f2.length c2,.slice A3 b.f3.length c3,.int .u64 x.f4],.int .i64 er]) ∧ Below w.heap.size w w') → Calls Tryz.prog 27 #[.agg #[.string b.f0,.int .i64 b.f1,.slice A2 b.f2.length c2,.slice A3 b.f3.length c3,.int .u64 b.f4],.int .i64 st] w (BkPost x [.int .i64 er] w):=by
  intro x er e2 e3 h
  refine h.mono ?_
  rintro e w' ⟨rfl,hb⟩
  exact ⟨_,rfl,⟨A2,c2,A3,c3,by rw [e2,e3],by rw [e2];exact g2,by rw [e3];exact g3,by rw [e2];exact Kd.C_below h2 hb,by rw [e3];exact Kd.C_below h3 hb⟩,hb⟩
 unfold turnB
 cases hb : bucketB b with
 | false=>rw [if_pos (Or.inl rfl)];exact fin b 1 rfl rfl (turn_a b A2 A3 c2 c3 st w h2 g2 h3 g3 hb)
 | true =>
  by_cases s0 : st < 0
  ·rw [if_pos (Or.inr (Or.inl s0))];exact fin b 1 rfl rfl (turn_b b A2 A3 c2 c3 st w h2 g2 h3 g3 hb s0)
  ·by_cases s2 : 2 < st
   ·rw [if_pos (Or.inr (Or.inr s2))];exact fin b 1 rfl rfl (turn_c b A2 A3 c2 c3 st w h2 g2 h3 g3 hb s2)
   ·rw [if_neg (by rintro (h | h | h);cases h;exact s0 h;exact s2 h)]
    by_cases z : st = 0
    ·by_cases hf : b.f1 = 0
     ·rw [if_neg (by rintro ⟨_,h⟩;exact h hf)];exact fin ⟨b.f0,st,b.f2,b.f3,b.f4⟩ 0 rfl rfl (turn_e b A2 A3 c2 c3 st w h2 g2 h3 g3 hb z hf)
     ·subst z;rw [if_pos ⟨rfl,hf⟩];exact fin b 8 rfl rfl (turn_d b A2 A3 c2 c3 w h2 g2 h3 g3 hb hf)
    ·rw [if_neg (by rintro ⟨h,_⟩;exact z h)];exact fin ⟨b.f0,st,b.f2,b.f3,b.f4⟩ 0 rfl rfl (turn_f b A2 A3 c2 c3 st w h2 g2 h3 g3 hb (by omega) (by omega))
end
section
open Go.WideMaps Go.Maps
attribute [local go_sem] Oper.semAt_some
def getB (b : S26) (key : ByteArray) : S47 × Int:=if openR b key = 0 then atV (getE b.f2 key) 0 else (z47,openR b key)
theorem getB_ok (b : S26) (A2 A3 : Option Addr) (c2 c3 : Nat) (key : ByteArray) (w : World) (h2 : Kd.C k56 w A2 b.f2.length b.f2) (g2 : b.f2.length ≤ c2) (h3 : Kd.C k101 w A3 b.f3.length b.f3) (g3 : b.f3.length ≤ c3) (ho : openR b key = 0) :
  Calls Tryz.prog 18 #[.agg #[.string b.f0,.int .i64 b.f1,.slice A2 b.f2.length c2,.slice A3 b.f3.length c3,.int .u64 b.f4],.string key] w (OnePost (atV (getE b.f2 key) 0).1 (atV (getE b.f2 key) 0).2 w):=by
 have H2:=zh (fun (W : World) (h : Below w.heap.size w W)=>Kd.C_below h2 h)
 have H3:=zh (fun (W : World) (h : Below w.heap.size w W)=>Kd.C_below h3 h)
 have HOP:=zh (fun (W : World) (h : Below w.heap.size w W)=>open.walk b A2 A3 c2 c3 key W (Kd.C_below h2 h) g2 (Kd.C_below h3 h) g3)
 rw [ho] at HOP
 have hn : ∀ x ∈ b.f2,x.f1.length ≤ 1000000:=fun x hx=>by have:=((index_mem (bucket_at (open_0 ho).1).2.1) x hx).2.2;have:=chain_le this;omega
 have HGE:=zh (fun (W : World) (h : Below w.heap.size w W)=>getE.walk A2 c2 b.f2 key W (Kd.C_below h2 h) hn)
 have HCH:=zh (fun (A : Option Addr) (c : Nat) (W : World) (h : Kd.C k47 W A (getE b.f2 key).length (getE b.f2 key))=>getV.walk A c (getE b.f2 key) W h)
 generalize getE b.f2 key = ch at *
 generalize atV ch 0 = r at *
 obtain ⟨x,er⟩:=r
 clear hn
 have HB:=zh (Below.refl w.heap.size w)
 clear h2 h3 g2 g3 ho
 go_enter Tryz.func18,Tryz.ntmps18
 go_wp2_with (first
  | ((with_reducible refine gate_dst (N:=2) rfl ?_);go_must (refine zx HB (N:=2) (cs:=#[.string b.f0,.int .i64 b.f1,.slice A2 b.f2.length c2,.slice A3 b.f3.length c3,.int .u64 b.f4]) (t:=26) ?hr ?_;(case hr=>first | (go_simp;done) | (go_simp;rfl));intro gb w1 Kgb Lgb HB hbelgb hqgb;clear hbelgb hqgb))
  | ((with_reducible refine gate_dst (N:=4) rfl ?_);go_must (refine zx HB (N:=4) (cs:=#[.int .u64 0,.string ⟨#[]⟩,.bool false,.int .i64 0]) (t:=47) ?hr ?_;(case hr=>first | (go_simp;done) | (go_simp;rfl));intro go w2 Kgo Lgo HB hbelgo hqgo;have M1:=zh (show gb < go by rw [hqgo];exact blk_lt Kgb.out);have Kgb:=zk Kgb hbelgo;obtain ⟨a0,a1,a2,a3,a4⟩:=zz5 Kgb.out;clear hbelgo hqgo))
  | (go_at_call 32;go_must (refine (HOP.out _ HB.out).mono ?_;rintro e w3 ⟨g,rfl,hgl,hk,hb⟩;have Kg:=hk;have HB:=keepB HB hb.out;have LG:=zh (show w.heap.size ≤ g by have:=hgl;have:=Lgo.out;have:=blk_lt Kgo.out;omega);have Kgb:=zk Kgb hb.out;have Kgo:=zk Kgo hb.out;obtain ⟨m0,m1,m2,m3,m4⟩:=zz5 Kgb.out;have k5:=zb Kg.out 5 (.int .i64 0);clear hk hgl a0 a1 a2 a3 a4 hb))
  | (go_at_call 49;go_must (refine (HGE.out _ HB.out).mono ?_;rintro e w4 ⟨A',c',rfl,hc',hC',hb⟩;have HC':=hC';have HB:=keepB HB hb;have Kgo:=zk Kgo hb;clear hb hC' k5 m0 m1 m2 m3 m4))
  | (go_at_call 48;go_must (refine (HCH.out _ _ _ HC'.out).mono ?_;rintro e w5 ⟨rfl,hb⟩;have HB:=keepB HB hb;have Kgo:=zk Kgo hb;clear hb))
  | ((with_reducible refine gate_store (t:=47) (p:=4) (v:=.tmp 25) rfl ?_);go_must (refine zs 47 (.tmp 4) (.tmp 25) go 0 47 [.int .u64 x.f0,.string x.f1,.bool x.f2,.int .i64 x.f3] Kgo (by kernel_rfl) ?_;intro w6 hk ho;have HB:=zo ho HB Lgo;obtain ⟨z0,z1,z2,z3⟩:=zz4 hk.out;clear hk ho)))
 refine bodyPost_ret (v:=.tuple #[.agg #[.int .u64 x.f0,.string x.f1,.bool x.f2,.int .i64 x.f3],.int .i64 er]) (by simp [results,Tryz.results18,go_sem,z0,z1,z2,z3]) rfl ?_
 exact ⟨rfl,HB.out⟩
theorem getB_no (b : S26) (A2 A3 : Option Addr) (c2 c3 : Nat) (key : ByteArray) (w : World) (h2 : Kd.C k56 w A2 b.f2.length b.f2) (g2 : b.f2.length ≤ c2) (h3 : Kd.C k101 w A3 b.f3.length b.f3) (g3 : b.f3.length ≤ c3) (ho : openR b key ≠ 0) :
  Calls Tryz.prog 18 #[.agg #[.string b.f0,.int .i64 b.f1,.slice A2 b.f2.length c2,.slice A3 b.f3.length c3,.int .u64 b.f4],.string key] w (OnePost z47 (openR b key) w):=by
 have H2:=zh (fun (W : World) (h : Below w.heap.size w W)=>Kd.C_below h2 h)
 have H3:=zh (fun (W : World) (h : Below w.heap.size w W)=>Kd.C_below h3 h)
 have HOP:=zh (fun (W : World) (h : Below w.heap.size w W)=>open.walk b A2 A3 c2 c3 key W (Kd.C_below h2 h) g2 (Kd.C_below h3 h) g3)
 generalize openR b key = e0 at *
 have q0 : (e0 == 0) = false:=beq_eq_false_iff_ne.2 ho
 have q1 : (e0 != 0) = true:=by rw [bne,q0];rfl
 have HB:=zh (Below.refl w.heap.size w)
 clear h2 h3 g2 g3 ho
 go_enter Tryz.func18,Tryz.ntmps18
 go_wp2_with (first
  | ((with_reducible refine gate_dst (N:=2) rfl ?_);go_must (refine zx HB (N:=2) (cs:=#[.string b.f0,.int .i64 b.f1,.slice A2 b.f2.length c2,.slice A3 b.f3.length c3,.int .u64 b.f4]) (t:=26) ?hr ?_;(case hr=>first | (go_simp;done) | (go_simp;rfl));intro gb w1 Kgb Lgb HB hbelgb hqgb;clear hbelgb hqgb))
  | ((with_reducible refine gate_dst (N:=4) rfl ?_);go_must (refine zx HB (N:=4) (cs:=#[.int .u64 0,.string ⟨#[]⟩,.bool false,.int .i64 0]) (t:=47) ?hr ?_;(case hr=>first | (go_simp;done) | (go_simp;rfl));intro go w2 Kgo Lgo HB hbelgo hqgo;have M1:=zh (show gb < go by rw [hqgo];exact blk_lt Kgb.out);have Kgb:=zk Kgb hbelgo;obtain ⟨a0,a1,a2,a3,a4⟩:=zz5 Kgb.out;clear hbelgo hqgo))
  | (go_at_call 32;go_must (refine (HOP.out _ HB.out).mono ?_;rintro e w3 ⟨g,rfl,hgl,hk,hb⟩;have Kg:=hk;have HB:=keepB HB hb.out;have MG:=zh (show g ≠ go by have:=hgl;have:=blk_lt Kgo.out;omega);have LG:=zh (show w.heap.size ≤ g by have:=hgl;have:=Lgo.out;have:=blk_lt Kgo.out;omega);have Kgb:=zk Kgb hb.out;have Kgo:=zk Kgo hb.out;have k5:=zb Kg.out 5 (.int .i64 e0);clear hk hgl a0 a1 a2 a3 a4 hb)))
 refine wp_region_held_drew (S:=fun W=>W.heap[g]? = some (.cells #[.string b.f0,.int .i64 b.f1,.slice A2 b.f2.length c2,.slice A3 b.f3.length c3,.int .u64 b.f4,.int .i64 e0] 87 (0,0)) ∧ W.cell? ⟨g,5,none⟩ = some (.int .i64 e0) ∧ (∃ q0 q1 q2 q3,W.heap[go]? = some (.cells #[q0,q1,q2,q3] 47 (0,0))) ∧ Below w.heap.size w W) (by kernel_rfl) ?_ (fun hHeld=>?_)
 ·exact ⟨blk_drew Kg.out,(blk_cell (blk_drew Kg.out) 5).trans rfl,⟨_,_,_,_,blk_drew Kgo.out⟩,HB.out.drew⟩
 clear Kg Kgo Kgb HB k5
 refine zt 0 (v:=?v0g1) ?y0g1 ?r0g1
 case y0g1=>(rintro w ⟨s0,s1,s2,s3⟩;go_simp;try with_reducible rfl)
 try simp only [zA,zB,zC,Act.put,zD,zE,zF]
 refine zt 1 (v:=?v1g1) ?y1g1 ?r1g1
 case y1g1=>(rintro w ⟨s0,s1,s2,s3⟩;go_simp;try with_reducible rfl)
 try simp only [zA,zB,zC,Act.put,zD,zE,zF]
 refine zt 2 (v:=?v2g1) ?y2g1 ?r2g1
 case y2g1=>(rintro w ⟨s0,s1,s2,s3⟩;go_simp;try with_reducible rfl)
 try simp only [zA,zB,zC,Act.put,zD,zE,zF]
 refine zt 3 (v:=?v3g1) ?y3g1 ?r3g1
 case y3g1=>(rintro w ⟨s0,s1,s2,s3⟩;go_simp;try with_reducible rfl)
 try simp only [zA,zB,zC,Act.put,zD,zE,zF]
 refine zt 4 (v:=?v4g1) ?y4g1 ?r4g1
 case y4g1=>(rintro w ⟨s0,s1,s2,s3⟩;go_simp;try with_reducible rfl)
 try simp only [zA,zB,zC,Act.put,zD,zE,zF]
 refine wpAnyH_ready (rs:=[5]) (by kernel_rfl) (by simp) ?_
 refine AllReadyH.cons (o:=_) rfl (fun K hK=>?_) AllReadyH.nil
 rw [if_pos (by rfl)]
 obtain ⟨s0,s1,s2,s3⟩:=hHeld
 obtain ⟨q0,q1,q2,q3,s2⟩:=s2
 refine wp_store_row rfl 47 (.tmp 4) (.tmp 15) rfl go 0 _ 47 (.agg #[.int .u64 0,.string ⟨#[]⟩,.bool false,.int .i64 0]) [.int .u64 0,.string ⟨#[]⟩,.bool false,.int .i64 0] rfl rfl s2 rfl (by kernel_rfl) (by show 0 + 4 ≤ 4;decide) (by simp [Value.oneCell']) ?_
 intro w14 hk ho
 have KZ : Hid (w14.heap[go]? = some (.cells #[.int .u64 0,.string ⟨#[]⟩,.bool false,.int .i64 0] 47 (0,0))):=hk
 have HBZ:=zh (ho.out.below s3 s3.size Lgo.out)
 have KG2:=zh (ho.out.blk s0 (by have:=MG.out;omega))
 refine hK.out _ _ ⟨KG2.out,zj KG2 5,⟨_,_,_,_,hk.out⟩,HBZ.out⟩ (fun hHeld=>?_)
 clear hK K hk ho q0 q1 q2 q3 s0 s1 s2 s3
 try simp only [zA,zB,zC,Act.put,zD,zE,zF]
 refine zt 6 (v:=?v6g1) ?y6g1 ?r6g1
 case y6g1=>(rintro w ⟨s0,s1,s2,s3⟩;go_simp;try with_reducible rfl)
 try simp only [zA,zB,zC,Act.put,zD,zE,zF]
 refine wpAnyH_done (by kernel_rfl) ?_ _
 go_wp2
 have z0:=zb KZ.out 0 (.int .u64 0)
 have z1:=zb KZ.out 1 (.string ⟨#[]⟩)
 have z2:=zb KZ.out 2 (.bool false)
 have z3:=zb KZ.out 3 (.int .i64 0)
 refine bodyPost_ret (v:=.tuple #[.agg #[.int .u64 0,.string ⟨#[]⟩,.bool false,.int .i64 0],.int .i64 e0]) (by simp [results,Tryz.results18,go_sem,z0,z1,z2,z3]) rfl ?_
 exact ⟨rfl,HBZ.out⟩
theorem getB.walk (b : S26) (A2 A3 : Option Addr) (c2 c3 : Nat) (key : ByteArray) (w : World) (h2 : Kd.C k56 w A2 b.f2.length b.f2) (g2 : b.f2.length ≤ c2) (h3 : Kd.C k101 w A3 b.f3.length b.f3) (g3 : b.f3.length ≤ c3) :
  Calls Tryz.prog 18 #[.agg #[.string b.f0,.int .i64 b.f1,.slice A2 b.f2.length c2,.slice A3 b.f3.length c3,.int .u64 b.f4],.string key] w (OnePost (getB b key).1 (getB b key).2 w):=by
 unfold getB
 by_cases ho : openR b key = 0
 ·rw [if_pos ho];exact getB_ok b A2 A3 c2 c3 key w h2 g2 h3 g3 ho
 ·rw [if_neg ho];exact getB_no b A2 A3 c2 c3 key w h2 g2 h3 g3 ho
end
section
open Go.WideMaps Go.Maps
theorem pairInt_of {l : List Int} (h : ∀ j (hj : j + 1 < l.length),l[j] < l[j + 1]) : l.Pairwise (· < ·):=by
 rw [List.pairwise_iff_getElem]
 intro i j hi hj hij
 induction j with
 | zero=>omega
 | succ j ih =>
  rcases Nat.eq_or_lt_of_le (Nat.le_of_lt_succ hij) with rfl | h2
  ·exact h i hj
  ·exact Int.lt_trans (ih (by omega) h2) (h j hj)
theorem adjInt_of {l : List Int} (h : l.Pairwise (· < ·)) (j : Nat) (hj : j + 1 < l.length) : l[j] < l[j + 1]:=by
 rw [List.pairwise_iff_getElem] at h
 exact h j (j + 1) (by omega) hj (by omega)
theorem fine_iff (u : Int) (key : ByteArray) (l : List S40) : fineB u key l = true ↔ numB u = true ∧ keyB key = true ∧ l.length ≤ 30 ∧ (l.map (·.f0)).Pairwise (· < ·) ∧ ∀ p ∈ l,mayB p = true:=by
 unfold fineB
 simp only [Bool.and_eq_true,decide_eq_true_eq]
 constructor
 ·rintro ⟨h1,h2,h3,h4⟩
  have at' : ∀ j (hj : j < l.length),mayB l[j] = true ∧ (j = 0 ∨ (l.getD (j - 1) z40).f0 < l[j].f0):=fun j hj=>by
   have:=allFrom_at h4 j (Nat.zero_le _) (by omega)
   unfold adjB at this
   rw [getD_at l j _ hj] at this
   simpa only [Bool.and_eq_true,Bool.or_eq_true,decide_eq_true_eq] using this
  refine ⟨h1,h2,h3,pairInt_of (fun j hj=>?_),fun p hp=>?_⟩
  ·rw [List.length_map] at hj
   have:=(at' (j + 1) hj).2.resolve_left (by omega)
   rw [Nat.add_sub_cancel,getD_at l j _ (by omega)] at this
   rw [List.getElem_map,List.getElem_map];exact this
  ·obtain ⟨j,hj,rfl⟩:=List.getElem_of_mem hp
   exact (at' j hj).1
 ·rintro ⟨h1,h2,h3,h4,h5⟩
  refine ⟨h1,h2,h3,allFrom_of _ _ (fun j _ hj=>?_)⟩
  have hj' : j < l.length:=by omega
  unfold adjB
  rw [getD_at l j _ hj',h5 _ (List.getElem_mem hj')]
  rcases j with _ | j
  ·simp
  ·have:=adjInt_of h4 j (by rw [List.length_map];omega)
   rw [List.getElem_map,List.getElem_map] at this
   rw [Nat.add_sub_cancel,getD_at l j _ (by omega),decide_eq_true this];simp
theorem check_iff (l : List S101) : checkB l = true ↔ l.length ≤ 10 ∧ (l.map (·.f0)).Pairwise (· < ·) ∧ ∀ u ∈ l,fineB u.f0 u.f1 u.f2 = true:=by
 unfold checkB
 simp only [Bool.and_eq_true,decide_eq_true_eq]
 constructor
 ·rintro ⟨h3,h4⟩
  have at' : ∀ j (hj : j < l.length),fineB l[j].f0 l[j].f1 l[j].f2 = true ∧ (j = 0 ∨ (l.getD (j - 1) z101).f0 < l[j].f0):=fun j hj=>by
   have:=allFrom_at h4 j (Nat.zero_le _) (by omega)
   unfold adjU at this
   rw [getD_at l j _ hj] at this
   simpa only [Bool.and_eq_true,Bool.or_eq_true,decide_eq_true_eq] using this
  refine ⟨h3,pairInt_of (fun j hj=>?_),fun p hp=>?_⟩
  ·rw [List.length_map] at hj
   have:=(at' (j + 1) hj).2.resolve_left (by omega)
   rw [Nat.add_sub_cancel,getD_at l j _ (by omega)] at this
   rw [List.getElem_map,List.getElem_map];exact this
  ·obtain ⟨j,hj,rfl⟩:=List.getElem_of_mem hp
   exact (at' j hj).1
 ·rintro ⟨h3,h4,h5⟩
  refine ⟨h3,allFrom_of _ _ (fun j _ hj=>?_)⟩
  have hj' : j < l.length:=by omega
  unfold adjU
  rw [getD_at l j _ hj',h5 _ (List.getElem_mem hj')]
  rcases j with _ | j
  ·simp
  ·have:=adjInt_of h4 j (by rw [List.length_map];omega)
   rw [List.getElem_map,List.getElem_map] at this
   rw [Nat.add_sub_cancel,getD_at l j _ (by omega),decide_eq_true this];simp
theorem begin_check {l : List S101} {id : Int} {key : ByteArray} (h : (beginR l id key).2 = 0) : checkB (beginR l id key).1 = true ∧ (beginR l id key).1 = l ++ [⟨id,key,[]⟩] ∧ checkB l = true:=by
 unfold beginR at h ⊢
 by_cases h1 : checkB l = false ∨ numB id = false ∨ keyB key = false
 ·rw [if_pos h1] at h;cases h
 ·rw [if_neg h1] at h ⊢
  by_cases h2 : lastB l id = true
  ·rw [if_pos h2] at h;cases h
  ·rw [if_neg h2] at h ⊢
   by_cases h3 : l.length = 10
   ·rw [if_pos h3] at h;cases h
   ·rw [if_neg h3]
    have hc : checkB l = true:=by cases hc : checkB l;exact absurd (Or.inl hc) h1;rfl
    have hn : numB id = true:=by cases hc : numB id;exact absurd (Or.inr (Or.inl hc)) h1;rfl
    have hk : keyB key = true:=by cases hc : keyB key;exact absurd (Or.inr (Or.inr hc)) h1;rfl
    obtain ⟨a,b,c⟩:=(check_iff l).1 hc
    refine ⟨(check_iff _).2 ⟨by rw [List.length_append,List.length_singleton];show l.length + 1 ≤ 10;omega,?_,?_⟩,rfl,hc⟩
    ·show (List.map (·.f0) (l ++ [⟨id,key,[]⟩])).Pairwise (· < ·)
     rw [List.map_append,List.pairwise_append]
     refine ⟨b,List.pairwise_singleton _ _,fun x hx y hy=>?_⟩
     rw [List.map_singleton,List.mem_singleton] at hy
     rw [show y = id from hy]
     have h4 : ¬ (0 < l.length ∧ id ≤ (l.getD (l.length - 1) z101).f0):=by
      unfold lastB at h2
      simpa only [Bool.and_eq_true,decide_eq_true_eq] using h2
     obtain ⟨u,hu,rfl⟩:=List.mem_map.1 hx
     obtain ⟨j,hj,rfl⟩:=List.getElem_of_mem hu
     rw [getD_at l (l.length - 1) _ (by omega)] at h4
     rcases Nat.eq_or_lt_of_le (show j ≤ l.length - 1 by omega) with e | e
     ·subst e;have:=fun hh=>h4 ⟨by omega,hh⟩;omega
     ·have b':=b
      rw [List.pairwise_iff_getElem] at b'
      have:=b' j (l.length - 1) (by rw [List.length_map];omega) (by rw [List.length_map];omega) e
      rw [List.getElem_map,List.getElem_map] at this
      have:=fun hh=>h4 ⟨by omega,hh⟩
      omega
    ·intro u hu
     rcases List.mem_append.1 hu with hu | hu
     ·exact c u hu
     ·rw [List.mem_singleton] at hu
      subst hu
      exact (fine_iff _ _ _).2 ⟨hn,hk,Nat.zero_le _,List.Pairwise.nil,fun p hp=>by cases hp⟩
theorem lay_parts {u : Int} {key : ByteArray} {l : List S40} {p : S40} (h : fineB u key l = true) (hm : mayB p = true) (h30 : ¬ (thereP l p.f0 = false ∧ l.length = 30)) : fineB u key (layParts l p) = true:=by
 obtain ⟨a,b,c,d,e⟩:=(fine_iff _ _ _).1 h
 have lo : ∀ x ∈ l.take (lowP l p.f0),x.f0 < p.f0:=fun x hx=>by
  obtain ⟨j,hj,rfl⟩:=List.getElem_of_mem hx
  rw [List.length_take] at hj
  rw [List.getElem_take]
  have:=List.not_of_lt_findIdx (p:=fun q : S40=>decide (p.f0 ≤ q.f0)) (xs:=l) (i:=j) (show j < List.findIdx _ l by unfold lowP at hj;omega)
  simp only [decide_eq_true_eq,decide_eq_false_iff_not] at this
  omega
 have dd:=d
 rw [List.pairwise_iff_getElem] at dd
 have up : ∀ i j (hi : i < l.length) (hj : j < l.length),i < j → l[i].f0 < l[j].f0:=fun i j hi hj hij=>by
  have:=dd i j (by rw [List.length_map];exact hi) (by rw [List.length_map];exact hj) hij
  rwa [List.getElem_map,List.getElem_map] at this
 have at' : ∀ (hl : lowP l p.f0 < l.length),p.f0 ≤ (l[lowP l p.f0]'hl).f0:=fun hl=>by
  have:=List.findIdx_getElem (p:=fun q : S40=>decide (p.f0 ≤ q.f0)) (xs:=l) (w:=hl)
  exact of_decide_eq_true this
 unfold layParts
 cases ht : thereP l p.f0 with
 | true =>
  rw [if_pos rfl]
  obtain ⟨q,hq,hqe⟩:=List.any_eq_true.1 ht
  obtain ⟨j,hj,rfl⟩:=List.getElem_of_mem hq
  have hqe' : l[j].f0 = p.f0:=by simpa using hqe
  have hl : lowP l p.f0 ≤ j:=by
   rcases Nat.lt_or_ge j (lowP l p.f0) with h' | h'
   ·have:=lo l[j] (by rw [List.mem_iff_getElem];exact ⟨j,by rw [List.length_take];omega,by rw [List.getElem_take]⟩)
    omega
   ·exact h'
  have hl2 : lowP l p.f0 < l.length:=by omega
  have he : (l[lowP l p.f0]'hl2).f0 = p.f0:=by
   rcases Nat.eq_or_lt_of_le hl with e1 | e1
   ·have : (l[lowP l p.f0]'hl2) = l[j]:=getElem_congr_idx e1
    rw [this];exact hqe'
   ·have:=up _ _ hl2 hj e1
    have:=at' hl2
    omega
  refine (fine_iff _ _ _).2 ⟨a,b,by rw [List.length_set];exact c,?_,fun x hx=>?_⟩
  ·have : (l.set (lowP l p.f0) p).map (·.f0) = l.map (·.f0):=by
    rw [List.map_set]
    apply List.ext_getElem (by simp)
    intro n h1 h2
    rw [List.getElem_set]
    split
    ·rename_i hn;subst hn;rw [List.getElem_map];exact he.symm
    ·rfl
   rw [this];exact d
  ·rcases List.mem_or_eq_of_mem_set hx with h' | h'
   ·exact e x h'
   ·rw [h'];exact hm
 | false =>
  rw [if_neg (by decide)]
  have hi : ∀ x ∈ l.drop (lowP l p.f0),p.f0 < x.f0:=fun x hx=>by
   obtain ⟨j,hj,rfl⟩:=List.getElem_of_mem hx
   rw [List.length_drop] at hj
   rw [List.getElem_drop]
   have hl : lowP l p.f0 < l.length:=by omega
   have h1:=at' hl
   have h2 : (l[lowP l p.f0 + j]'(by omega)).f0 ≠ p.f0:=fun hh=>by
    have:=List.any_eq_false.1 ht _ (List.getElem_mem (show lowP l p.f0 + j < l.length by omega))
    rw [hh] at this;simp at this
   rcases Nat.eq_or_lt_of_le (Nat.zero_le j) with e1 | e1
   ·subst e1
    have e2 : (l[lowP l p.f0 + 0]'(by omega)) = l[lowP l p.f0]'hl:=rfl
    rw [e2] at h2 ⊢
    omega
   ·have:=up (lowP l p.f0) (lowP l p.f0 + j) hl (by omega) (by omega)
    omega
  refine (fine_iff _ _ _).2 ⟨a,b,?_,?_,fun x hx=>?_⟩
  ·have hle : lowP l p.f0 ≤ l.length:=List.findIdx_le_length
   have : l.length ≠ 30:=fun hh=>h30 ⟨ht,hh⟩
   simp only [List.length_append,List.length_cons,List.length_take,List.length_drop]
   omega
  ·rw [List.map_append,List.map_cons,List.pairwise_append]
   refine ⟨?_,?_,?_⟩
   ·rw [List.map_take];exact d.sublist (List.take_sublist _ _)
   ·rw [List.pairwise_cons]
    refine ⟨fun y hy=>?_,by rw [List.map_drop];exact d.sublist (List.drop_sublist _ _)⟩
    obtain ⟨x,hx,rfl⟩:=List.mem_map.1 hy
    exact hi x hx
   ·intro x hx y hy
    obtain ⟨x',hx',rfl⟩:=List.mem_map.1 hx
    have h1:=lo x' hx'
    rcases List.mem_cons.1 hy with rfl | hy
    ·exact h1
    ·obtain ⟨y',hy',rfl⟩:=List.mem_map.1 hy
     have:=hi y' hy'
     show x'.f0 < y'.f0
     omega
  ·rcases List.mem_append.1 hx with h' | h'
   ·exact e x (List.mem_of_mem_take h')
   ·rcases List.mem_cons.1 h' with rfl | h'
    ·exact hm
    ·exact e x (List.mem_of_mem_drop h')
theorem lay_check {l : List S101} {id : Int} {p : S40} (h : (layR l id p).2.2 = 0) : checkB (layR l id p).1 = true ∧ checkB l = true ∧ mayB p = true:=by
 unfold layR at h ⊢
 by_cases h1 : checkB l = false ∨ mayB p = false
 ·rw [if_pos h1] at h;cases h
 ·rw [if_neg h1] at h ⊢
  have hc : checkB l = true:=by cases hc : checkB l;exact absurd (Or.inl hc) h1;rfl
  have hm : mayB p = true:=by cases hm : mayB p;exact absurd (Or.inr hm) h1;rfl
  cases hp : posU l id with
  | none=>rw [hp] at h;cases h
  | some i =>
   rw [hp] at h
   obtain ⟨hi,hid⟩:=posU_lt hp
   show checkB (if _ then _ else _ : List S101 × Int × Int).1 = true ∧ _
   change (if _ then _ else _ : List S101 × Int × Int).2.2 = 0 at h
   by_cases h2 : thereP (l.getD i z101).f2 p.f0 = false ∧ (l.getD i z101).f2.length = 30
   ·rw [if_pos h2] at h;cases h
   ·rw [if_neg h2]
    refine ⟨?_,hc,hm⟩
    obtain ⟨a,b,c⟩:=(check_iff l).1 hc
    rw [getD_at l i _ hi] at h2 ⊢
    refine (check_iff _).2 ⟨by rw [List.length_set];exact a,?_,fun u hu=>?_⟩
    ·have : (l.set i ⟨l[i].f0,l[i].f1,layParts l[i].f2 p⟩).map (·.f0) = l.map (·.f0):=by
      rw [List.map_set]
      apply List.ext_getElem (by simp)
      intro n h1 h2
      rw [List.getElem_set]
      split
      ·rename_i hn;subst hn;rw [List.getElem_map]
      ·rfl
     show ((l.set i ⟨l[i].f0,l[i].f1,layParts l[i].f2 p⟩).map (·.f0)).Pairwise (· < ·)
     rw [this];exact b
    ·rcases List.mem_or_eq_of_mem_set hu with h' | h'
     ·exact c u h'
     ·subst h';exact lay_parts (c _ (List.getElem_mem hi)) hm h2
end
section
open Go.WideMaps Go.Maps
attribute [local go_sem] Oper.semAt_some
theorem noR_ok {er e : Int} (h : noR (!(er == 0)) er e = 0) : er = 0 ∧ e = 0:=by
 unfold noR at h
 by_cases hb : (!(er == 0)) = true ∧ e = 0
 ·rw [if_pos hb] at h;subst h;exact absurd hb.1 (by decide)
 ·rw [if_neg hb] at h
  subst h
  refine ⟨?_,rfl⟩
  cases hq : (er == 0)
  ·exact absurd ⟨by rw [hq];rfl,rfl⟩ hb
  ·exact beq_iff_eq.1 hq
/-- no key is asked for -/
def anyK : ByteArray:=⟨#[107]⟩
def abortB (b : S26) (id : Int) : S26 × Int:=closeR b ⟨b.f0,b.f1,b.f2,(abortR b.f3 id).1,b.f4⟩ (noR (!((abortR b.f3 id).2 == 0)) (abortR b.f3 id).2 (openR b anyK))
def beginQ (b : S26) (key : ByteArray) (id e1 : Int) : S26 × Int:=if e1 = 0 then (⟨b.f0,b.f1,b.f2,(beginR b.f3 id key).1,id⟩,noR (!((beginR b.f3 id key).2 == 0)) (beginR b.f3 id key).2 e1) else (⟨b.f0,b.f1,b.f2,b.f3,id⟩,e1)
def beginB (b : S26) (key : ByteArray) : S26 × Int × Int :=
 let id:=IntKind.u64.wrap (b.f4 + 1)
 let q:=beginQ b key id (noR (decide (281474976710655 ≤ b.f4)) 6 (openR b key))
 let c:=closeR b q.1 q.2
 if c.2 = 0 then (c.1,id,0) else (b,0,c.2)
theorem begin_gg (b : S26) (A2 A3 : Option Addr) (c2 c3 : Nat) (key : ByteArray) (w : World) (h2 : Kd.C k56 w A2 b.f2.length b.f2) (g2 : b.f2.length ≤ c2) (h3 : Kd.C k101 w A3 b.f3.length b.f3) (g3 : b.f3.length ≤ c3) (l2 : Int) (hl2 : IntKind.u64.wrap (b.f4 + 1) = l2) (e1 : Int) (he1 : noR (decide (281474976710655 ≤ b.f4)) 6 (openR b key) = e1) (h1 : e1 = 0) (r3 : List S101) (ar : Int) (hr : beginR b.f3 l2 key = (r3,ar)) (kb : S26) (ce : Int) (hce : closeR b (⟨b.f0,b.f1,b.f2,r3,l2⟩ : S26) (noR (!(ar == 0)) ar 0) = (kb,ce)) (hz : ce = 0) :
  Calls Tryz.prog 12 #[.agg #[.string b.f0,.int .i64 b.f1,.slice A2 b.f2.length c2,.slice A3 b.f3.length c3,.int .u64 b.f4],.string key] w (BkPost kb [.int .u64 l2,.int .i64 0] w):=by
 have H2:=zh (fun (W : World) (h : Below w.heap.size w W)=>Kd.C_below h2 h)
 have H3:=zh (fun (W : World) (h : Below w.heap.size w W)=>Kd.C_below h3 h)
 have HOP:=zh (fun (W : World) (h : Below w.heap.size w W)=>open.walk b A2 A3 c2 c3 key W (Kd.C_below h2 h) g2 (Kd.C_below h3 h) g3)
 have HNX:=zh (fun (g : Nat) (W : World) hW=>next.walk g (.string b.f0) (.int .i64 b.f1) (.slice A2 b.f2.length c2) (.slice A3 b.f3.length c3) b.f4 (openR b key) W hW)
 rw [hl2,he1] at HNX
 have HQ : Hid (noR (!(ar == 0)) ar 0 = 0 → indexB b.f2 = true ∧ checkB r3 = true):=fun h=>by
  have x:=begin_check (l:=b.f3) (id:=l2) (key:=key) (by rw [hr];exact (noR_ok h).1)
  rw [hr] at x
  exact ⟨(bucket_at (open_0 (noR_zero (he1.trans h1))).1).2.1,x.1⟩
 have HBG:=zh (fun (W : World) (h : Below w.heap.size w W)=>begin.walk A3 c3 b.f3 l2 key W (Kd.C_below h3 h) g3)
 rw [hr] at HBG
 subst h1
 have HUP:=zh (fun (g : Nat) (A4 : Option Addr) (c4 : Nat) (W : World) hW=>uploadsW.walk g (.string b.f0) (.int .i64 b.f1) (.slice A2 b.f2.length c2) (.slice A3 b.f3.length c3) (.int .u64 l2) A4 r3.length c4 0 ar W hW)
 generalize noR (!(ar == 0)) ar 0 = e2 at *
 have HCL:=zh (fun (g : Nat) (A4 : Option Addr) (c4 : Nat) (W : World) (hW : Below w.heap.size w W) (K : W.heap[g]? = some (.cells #[.string b.f0,.int .i64 b.f1,.slice A2 b.f2.length c2,.slice A4 r3.length c4,.int .u64 l2,.int .i64 e2] 87 (0,0))) (C4 : Kd.C k101 W A4 r3.length r3) (g4 : r3.length ≤ c4) =>
  close.calls (⟨b.f0,b.f1,b.f2,r3,l2⟩ : S26) b A2 A4 A2 A3 c2 c4 c2 c3 (e2) g W K (Kd.C_below h2 hW) g2 C4 g4 (Kd.C_below h2 hW) g2 (Kd.C_below h3 hW) g3 HQ.out)
 rw [hce] at HCL
 have q0 : (ce == 0) = true:=beq_iff_eq.2 hz
 have q1 : (ce != 0) = false:=by rw [bne,q0];rfl
 generalize openR b key = e0 at *
 have HB:=zh (Below.refl w.heap.size w)
 clear h2 h3 g2 g3 HQ he1 hl2 hce hz hr
 go_enter Tryz.func12,Tryz.ntmps12
 go_wp2_with (first
  | ((with_reducible refine gate_dst (N:=2) rfl ?_);go_must (refine zx HB (N:=2) (cs:=#[.string b.f0,.int .i64 b.f1,.slice A2 b.f2.length c2,.slice A3 b.f3.length c3,.int .u64 b.f4]) (t:=26) ?hr ?_;(case hr=>first | (go_simp;done) | (go_simp;rfl));intro gb w1 Kgb Lgb HB hbelgb hqgb;clear hbelgb hqgb))
  | ((with_reducible refine gate_dst (N:=4) rfl ?_);go_must (refine zx HB (N:=4) (cs:=#[.string ⟨#[]⟩,.int .i64 0,.slice none 0 0,.slice none 0 0,.int .u64 0]) (t:=26) ?hr ?_;(case hr=>first | (go_simp;done) | (go_simp;rfl));intro go w3 Kgo Lgo HB hbelgo hqgo;have M2:=zh (show gb < go by rw [hqgo];exact blk_lt Kgb.out);have Kgb:=zk Kgb hbelgo;obtain ⟨a0,a1,a2,a3,a4⟩:=zz5 Kgb.out;clear hbelgo hqgo))
  | (go_at_call 32;go_must (refine (HOP.out _ HB.out).mono ?_;rintro e w4 ⟨g,rfl,hgl,hk,hb⟩;have Kg:=hk;have M3:=zh (show go < g from Nat.lt_of_lt_of_le (blk_lt Kgo.out) hgl);have HB:=keepB HB hb.out;have Kgb:=zk Kgb hb.out;have Kgo:=zk Kgo hb.out;clear hk hb hgl a0 a1 a2 a3 a4))
  | (go_at_call 33;go_must (refine (HNX.out g _ Kg.out).mono ?_;rintro e w7 ⟨rfl,hk,ho⟩;have Kg:=hk;have HB:=zh (ho.out.below HB.out HB.out.size (by have:=Lgo.out;have:=M3.out;omega));have Kgb:=zl ho Kgb (by have:=M2.out;have:=M3.out;omega);have Kgo:=zl ho Kgo (by have:=M2.out;have:=M3.out;omega);have k5:=zb Kg.out 5 (.int .i64 0);have k3:=zb Kg.out 3 (.slice A3 b.f3.length c3);clear hk ho))
  | (go_at_call 35;go_must (refine (HBG.out _ HB.out).mono ?_;rintro e w5 ⟨A4,c4,rfl,hc4,hC4,hb⟩;have HC4:=zh hC4;have HB:=keepB HB hb;have Kgb:=zk Kgb hb;have Kgo:=zk Kgo hb;have Kg:=zk Kg hb;clear hb hC4 k3 k5))
  | (go_at_call 34;go_must (refine (HUP.out g A4 c4 _ Kg.out).mono ?_;rintro e w6 ⟨rfl,hk,ho⟩;have HC4:=zh (keepU HC4.out Kg.out (work_like b.f0 b.f1 A2 b.f2.length c2 A3 b.f3.length c3 l2 0) ho.out);have Kg:=hk;have HB:=zh (ho.out.below HB.out HB.out.size (by have:=Lgo.out;have:=M3.out;omega));have Kgb:=zl ho Kgb (by have:=M2.out;have:=M3.out;omega);have Kgo:=zl ho Kgo (by have:=M2.out;have:=M3.out;omega);obtain ⟨m0,m1,m2,m3,m4⟩:=zz5 Kgb.out;clear hk ho))
  | (go_at_call 36;go_must (refine (HCL.out g A4 c4 _ HB.out Kg.out HC4.out hc4).mono ?_;rintro e w10 ⟨v10,rfl,hv,ho⟩;obtain ⟨A5,c5,A6,c6,rfl,y1,y2,y3,y4⟩:=hv;have HB:=zh (ho.below HB.out HB.out.size (by have:=Lgo.out;have:=M3.out;omega));have Kgb:=zh (ho.blk Kgb.out (by have:=M2.out;have:=M3.out;omega));have Kgo:=zh (ho.blk Kgo.out (by have:=M2.out;have:=M3.out;omega));have Y3:=zh y3;have Y4:=zh y4;clear ho y3 y4 m0 m1 m2 m3 m4))
  | ((with_reducible refine gate_dst (N:=9) rfl ?_);go_must (refine zx HB (N:=9) (cs:=#[.string ⟨#[]⟩,.int .i64 0,.slice none 0 0,.slice none 0 0,.int .u64 0]) (t:=26) ?hr ?_;(case hr=>first | (go_simp;done) | (go_simp;rfl));intro gx w11 Kgx Lgx HB hbelgx hqgx;have M4:=zh (show go < gx by rw [hqgx];exact blk_lt Kgo.out);have Kgb:=zk Kgb hbelgx;have Kgo:=zk Kgo hbelgx;have Y3:=zc Y3 hbelgx;have Y4:=zc Y4 hbelgx;clear hbelgx hqgx))
  | ((with_reducible refine gate_store (t:=26) (p:=9) (v:=.tmp 37) rfl ?_);go_must (refine zs 26 (.tmp 9) (.tmp 37) gx 0 26 [.string kb.f0,.int .i64 kb.f1,.slice A5 kb.f2.length c5,.slice A6 kb.f3.length c6,.int .u64 kb.f4] Kgx isz_bucket ?_;intro w12 hk ho;have Y3:=zh (keepE Y3.out Kgx.out (bk_like _ _ _ _ _ _ _ _ _) ho.out);have Y4:=zh (keepU Y4.out Kgx.out (bk_like _ _ _ _ _ _ _ _ _) ho.out);have HB:=zo ho HB Lgx;have Kgb:=zl ho Kgb (by have:=M2.out;have:=M4.out;omega);have Kgo:=zl ho Kgo (by have:=M2.out;have:=M4.out;omega);have Kgx : Hid (w12.heap[gx]? = some (.cells #[.string kb.f0,.int .i64 kb.f1,.slice A5 kb.f2.length c5,.slice A6 kb.f3.length c6,.int .u64 kb.f4] 26 (0,0))):=hk;obtain ⟨p0,p1,p2,p3,p4⟩:=zz5 Kgx.out;clear hk ho))
  | ((with_reducible refine gate_store (t:=26) (p:=4) (v:=.tmp 43) rfl ?_);go_must (refine zs 26 (.tmp 4) (.tmp 43) go 0 26 [.string kb.f0,.int .i64 kb.f1,.slice A5 kb.f2.length c5,.slice A6 kb.f3.length c6,.int .u64 kb.f4] Kgo isz_bucket ?_;intro w13 hk ho;have Y3:=zh (keepE Y3.out Kgo.out (bk_like _ _ _ _ _ _ _ _ _) ho.out);have Y4:=zh (keepU Y4.out Kgo.out (bk_like _ _ _ _ _ _ _ _ _) ho.out);have HB:=zo ho HB Lgo;obtain ⟨z0,z1,z2,z3,z4⟩:=zz5 hk.out;clear hk ho)))
 refine bodyPost_ret (v:=.tuple #[.agg #[.string kb.f0,.int .i64 kb.f1,.slice A5 kb.f2.length c5,.slice A6 kb.f3.length c6,.int .u64 kb.f4],.int .u64 l2,.int .i64 0]) (by simp [results,Tryz.results12,go_sem,z0,z1,z2,z3,z4]) rfl ?_
 exact ⟨_,rfl,⟨A5,c5,A6,c6,rfl,y1,y2,Y3.out,Y4.out⟩,HB.out⟩
theorem begin_gn (b : S26) (A2 A3 : Option Addr) (c2 c3 : Nat) (key : ByteArray) (w : World) (h2 : Kd.C k56 w A2 b.f2.length b.f2) (g2 : b.f2.length ≤ c2) (h3 : Kd.C k101 w A3 b.f3.length b.f3) (g3 : b.f3.length ≤ c3) (l2 : Int) (hl2 : IntKind.u64.wrap (b.f4 + 1) = l2) (e1 : Int) (he1 : noR (decide (281474976710655 ≤ b.f4)) 6 (openR b key) = e1) (h1 : e1 = 0) (r3 : List S101) (ar : Int) (hr : beginR b.f3 l2 key = (r3,ar)) (kb : S26) (ce : Int) (hce : closeR b (⟨b.f0,b.f1,b.f2,r3,l2⟩ : S26) (noR (!(ar == 0)) ar 0) = (kb,ce)) (hz : ce ≠ 0) :
  Calls Tryz.prog 12 #[.agg #[.string b.f0,.int .i64 b.f1,.slice A2 b.f2.length c2,.slice A3 b.f3.length c3,.int .u64 b.f4],.string key] w (BkPost b [.int .u64 0,.int .i64 ce] w):=by
 have H2:=zh (fun (W : World) (h : Below w.heap.size w W)=>Kd.C_below h2 h)
 have H3:=zh (fun (W : World) (h : Below w.heap.size w W)=>Kd.C_below h3 h)
 have HOP:=zh (fun (W : World) (h : Below w.heap.size w W)=>open.walk b A2 A3 c2 c3 key W (Kd.C_below h2 h) g2 (Kd.C_below h3 h) g3)
 have HNX:=zh (fun (g : Nat) (W : World) hW=>next.walk g (.string b.f0) (.int .i64 b.f1) (.slice A2 b.f2.length c2) (.slice A3 b.f3.length c3) b.f4 (openR b key) W hW)
 rw [hl2,he1] at HNX
 have HQ : Hid (noR (!(ar == 0)) ar 0 = 0 → indexB b.f2 = true ∧ checkB r3 = true):=fun h=>by
  have x:=begin_check (l:=b.f3) (id:=l2) (key:=key) (by rw [hr];exact (noR_ok h).1)
  rw [hr] at x
  exact ⟨(bucket_at (open_0 (noR_zero (he1.trans h1))).1).2.1,x.1⟩
 have HBG:=zh (fun (W : World) (h : Below w.heap.size w W)=>begin.walk A3 c3 b.f3 l2 key W (Kd.C_below h3 h) g3)
 rw [hr] at HBG
 subst h1
 have HUP:=zh (fun (g : Nat) (A4 : Option Addr) (c4 : Nat) (W : World) hW=>uploadsW.walk g (.string b.f0) (.int .i64 b.f1) (.slice A2 b.f2.length c2) (.slice A3 b.f3.length c3) (.int .u64 l2) A4 r3.length c4 0 ar W hW)
 generalize noR (!(ar == 0)) ar 0 = e2 at *
 have HCL:=zh (fun (g : Nat) (A4 : Option Addr) (c4 : Nat) (W : World) (hW : Below w.heap.size w W) (K : W.heap[g]? = some (.cells #[.string b.f0,.int .i64 b.f1,.slice A2 b.f2.length c2,.slice A4 r3.length c4,.int .u64 l2,.int .i64 e2] 87 (0,0))) (C4 : Kd.C k101 W A4 r3.length r3) (g4 : r3.length ≤ c4) =>
  close.calls (⟨b.f0,b.f1,b.f2,r3,l2⟩ : S26) b A2 A4 A2 A3 c2 c4 c2 c3 (e2) g W K (Kd.C_below h2 hW) g2 C4 g4 (Kd.C_below h2 hW) g2 (Kd.C_below h3 hW) g3 HQ.out)
 rw [hce] at HCL
 have q0 : (ce == 0) = false:=beq_eq_false_iff_ne.2 hz
 have q1 : (ce != 0) = true:=by rw [bne,q0];rfl
 generalize openR b key = e0 at *
 have G3:=zh g3
 have G2:=zh g2
 have HB:=zh (Below.refl w.heap.size w)
 clear h2 h3 g2 g3 HQ he1 hl2 hce hz hr
 go_enter Tryz.func12,Tryz.ntmps12
 go_wp2_with (first
  | ((with_reducible refine gate_dst (N:=2) rfl ?_);go_must (refine zx HB (N:=2) (cs:=#[.string b.f0,.int .i64 b.f1,.slice A2 b.f2.length c2,.slice A3 b.f3.length c3,.int .u64 b.f4]) (t:=26) ?hr ?_;(case hr=>first | (go_simp;done) | (go_simp;rfl));intro gb w1 Kgb Lgb HB hbelgb hqgb;clear hbelgb hqgb))
  | ((with_reducible refine gate_dst (N:=4) rfl ?_);go_must (refine zx HB (N:=4) (cs:=#[.string ⟨#[]⟩,.int .i64 0,.slice none 0 0,.slice none 0 0,.int .u64 0]) (t:=26) ?hr ?_;(case hr=>first | (go_simp;done) | (go_simp;rfl));intro go w3 Kgo Lgo HB hbelgo hqgo;have M2:=zh (show gb < go by rw [hqgo];exact blk_lt Kgb.out);have Kgb:=zk Kgb hbelgo;obtain ⟨a0,a1,a2,a3,a4⟩:=zz5 Kgb.out;clear hbelgo hqgo))
  | (go_at_call 32;go_must (refine (HOP.out _ HB.out).mono ?_;rintro e w4 ⟨g,rfl,hgl,hk,hb⟩;have Kg:=hk;have M3:=zh (show go < g from Nat.lt_of_lt_of_le (blk_lt Kgo.out) hgl);have HB:=keepB HB hb.out;have Kgb:=zk Kgb hb.out;have Kgo:=zk Kgo hb.out;clear hk hb hgl a0 a1 a2 a3 a4))
  | (go_at_call 33;go_must (refine (HNX.out g _ Kg.out).mono ?_;rintro e w7 ⟨rfl,hk,ho⟩;have Kg:=hk;have HB:=zh (ho.out.below HB.out HB.out.size (by have:=Lgo.out;have:=M3.out;omega));have Kgb:=zl ho Kgb (by have:=M2.out;have:=M3.out;omega);have Kgo:=zl ho Kgo (by have:=M2.out;have:=M3.out;omega);have k5:=zb Kg.out 5 (.int .i64 0);have k3:=zb Kg.out 3 (.slice A3 b.f3.length c3);clear hk ho))
  | (go_at_call 35;go_must (refine (HBG.out _ HB.out).mono ?_;rintro e w5 ⟨A4,c4,rfl,hc4,hC4,hb⟩;have HC4:=zh hC4;have HB:=keepB HB hb;have Kgb:=zk Kgb hb;have Kgo:=zk Kgo hb;have Kg:=zk Kg hb;clear hb hC4 k3 k5))
  | (go_at_call 34;go_must (refine (HUP.out g A4 c4 _ Kg.out).mono ?_;rintro e w6 ⟨rfl,hk,ho⟩;have HC4:=zh (keepU HC4.out Kg.out (work_like b.f0 b.f1 A2 b.f2.length c2 A3 b.f3.length c3 l2 0) ho.out);have Kg:=hk;have HB:=zh (ho.out.below HB.out HB.out.size (by have:=Lgo.out;have:=M3.out;omega));have Kgb:=zl ho Kgb (by have:=M2.out;have:=M3.out;omega);have Kgo:=zl ho Kgo (by have:=M2.out;have:=M3.out;omega);obtain ⟨m0,m1,m2,m3,m4⟩:=zz5 Kgb.out;clear hk ho))
  | (go_at_call 36;go_must (refine (HCL.out g A4 c4 _ HB.out Kg.out HC4.out hc4).mono ?_;rintro e w10 ⟨v10,rfl,hv,ho⟩;obtain ⟨A5,c5,A6,c6,rfl,y1,y2,y3,y4⟩:=hv;have HB:=zh (ho.below HB.out HB.out.size (by have:=Lgo.out;have:=M3.out;omega));have Kgb:=zh (ho.blk Kgb.out (by have:=M2.out;have:=M3.out;omega));have Kgo:=zh (ho.blk Kgo.out (by have:=M2.out;have:=M3.out;omega));have Y3:=zh y3;have Y4:=zh y4;clear ho y3 y4 m0 m1 m2 m3 m4))
  | ((with_reducible refine gate_dst (N:=9) rfl ?_);go_must (refine zx HB (N:=9) (cs:=#[.string ⟨#[]⟩,.int .i64 0,.slice none 0 0,.slice none 0 0,.int .u64 0]) (t:=26) ?hr ?_;(case hr=>first | (go_simp;done) | (go_simp;rfl));intro gx w11 Kgx Lgx HB hbelgx hqgx;have M4:=zh (show go < gx by rw [hqgx];exact blk_lt Kgo.out);have Kgb:=zk Kgb hbelgx;have Kgo:=zk Kgo hbelgx;have Y3:=zc Y3 hbelgx;have Y4:=zc Y4 hbelgx;clear hbelgx hqgx))
  | ((with_reducible refine gate_store (t:=26) (p:=9) (v:=.tmp 37) rfl ?_);go_must (refine zs 26 (.tmp 9) (.tmp 37) gx 0 26 [.string kb.f0,.int .i64 kb.f1,.slice A5 kb.f2.length c5,.slice A6 kb.f3.length c6,.int .u64 kb.f4] Kgx isz_bucket ?_;intro w12 hk ho;have Y3:=zh (keepE Y3.out Kgx.out (bk_like _ _ _ _ _ _ _ _ _) ho.out);have Y4:=zh (keepU Y4.out Kgx.out (bk_like _ _ _ _ _ _ _ _ _) ho.out);have HB:=zo ho HB Lgx;have Kgb:=zl ho Kgb (by have:=M2.out;have:=M4.out;omega);have Kgo:=zl ho Kgo (by have:=M2.out;have:=M4.out;omega);obtain ⟨p0,p1,p2,p3,p4⟩:=zz5 Kgb.out;clear hk ho))
  | ((with_reducible refine gate_store (t:=26) (p:=4) (v:=.tmp 41) rfl ?_);go_must (refine zs 26 (.tmp 4) (.tmp 41) go 0 26 [.string b.f0,.int .i64 b.f1,.slice A2 b.f2.length c2,.slice A3 b.f3.length c3,.int .u64 b.f4] Kgo isz_bucket ?_;intro w13 hk ho;have HB:=zo ho HB Lgo;obtain ⟨z0,z1,z2,z3,z4⟩:=zz5 hk.out;clear hk ho)))
 refine bodyPost_ret (v:=.tuple #[.agg #[.string b.f0,.int .i64 b.f1,.slice A2 b.f2.length c2,.slice A3 b.f3.length c3,.int .u64 b.f4],.int .u64 0,.int .i64 ce]) (by simp [results,Tryz.results12,go_sem,z0,z1,z2,z3,z4]) rfl ?_
 exact ⟨_,rfl,⟨A2,c2,A3,c3,rfl,G2.out,G3.out,H2.out _ HB.out,H3.out _ HB.out⟩,HB.out⟩
theorem begin_n (b : S26) (A2 A3 : Option Addr) (c2 c3 : Nat) (key : ByteArray) (w : World) (h2 : Kd.C k56 w A2 b.f2.length b.f2) (g2 : b.f2.length ≤ c2) (h3 : Kd.C k101 w A3 b.f3.length b.f3) (g3 : b.f3.length ≤ c3) (l2 : Int) (hl2 : IntKind.u64.wrap (b.f4 + 1) = l2) (e1 : Int) (he1 : noR (decide (281474976710655 ≤ b.f4)) 6 (openR b key) = e1) (h1 : e1 ≠ 0) (kb : S26) (ce : Int) (hce : closeR b (⟨b.f0,b.f1,b.f2,b.f3,l2⟩ : S26) e1 = (kb,ce)) (hz : ce ≠ 0) :
  Calls Tryz.prog 12 #[.agg #[.string b.f0,.int .i64 b.f1,.slice A2 b.f2.length c2,.slice A3 b.f3.length c3,.int .u64 b.f4],.string key] w (BkPost b [.int .u64 0,.int .i64 ce] w):=by
 have H2:=zh (fun (W : World) (h : Below w.heap.size w W)=>Kd.C_below h2 h)
 have H3:=zh (fun (W : World) (h : Below w.heap.size w W)=>Kd.C_below h3 h)
 have HOP:=zh (fun (W : World) (h : Below w.heap.size w W)=>open.walk b A2 A3 c2 c3 key W (Kd.C_below h2 h) g2 (Kd.C_below h3 h) g3)
 have HNX:=zh (fun (g : Nat) (W : World) hW=>next.walk g (.string b.f0) (.int .i64 b.f1) (.slice A2 b.f2.length c2) (.slice A3 b.f3.length c3) b.f4 (openR b key) W hW)
 rw [hl2,he1] at HNX
 have HQ : Hid (e1 = 0 → indexB b.f2 = true ∧ checkB b.f3 = true):=fun h=>absurd h h1
 have HCL:=zh (fun (g : Nat) (A4 : Option Addr) (c4 : Nat) (W : World) (hW : Below w.heap.size w W) (K : W.heap[g]? = some (.cells #[.string b.f0,.int .i64 b.f1,.slice A2 b.f2.length c2,.slice A4 b.f3.length c4,.int .u64 l2,.int .i64 e1] 87 (0,0))) (C4 : Kd.C k101 W A4 b.f3.length b.f3) (g4 : b.f3.length ≤ c4) =>
  close.calls (⟨b.f0,b.f1,b.f2,b.f3,l2⟩ : S26) b A2 A4 A2 A3 c2 c4 c2 c3 (e1) g W K (Kd.C_below h2 hW) g2 C4 g4 (Kd.C_below h2 hW) g2 (Kd.C_below h3 hW) g3 HQ.out)
 have p0 : (e1 == 0) = false:=beq_eq_false_iff_ne.2 h1
 have p1 : (e1 != 0) = true:=by rw [bne,p0];rfl
 rw [hce] at HCL
 have q0 : (ce == 0) = false:=beq_eq_false_iff_ne.2 hz
 have q1 : (ce != 0) = true:=by rw [bne,q0];rfl
 generalize openR b key = e0 at *
 have G3:=zh g3
 have G2:=zh g2
 have HB:=zh (Below.refl w.heap.size w)
 clear h2 h3 g2 g3 HQ he1 hl2 hce hz h1
 go_enter Tryz.func12,Tryz.ntmps12
 go_wp2_with (first
  | ((with_reducible refine gate_dst (N:=2) rfl ?_);go_must (refine zx HB (N:=2) (cs:=#[.string b.f0,.int .i64 b.f1,.slice A2 b.f2.length c2,.slice A3 b.f3.length c3,.int .u64 b.f4]) (t:=26) ?hr ?_;(case hr=>first | (go_simp;done) | (go_simp;rfl));intro gb w1 Kgb Lgb HB hbelgb hqgb;clear hbelgb hqgb))
  | ((with_reducible refine gate_dst (N:=4) rfl ?_);go_must (refine zx HB (N:=4) (cs:=#[.string ⟨#[]⟩,.int .i64 0,.slice none 0 0,.slice none 0 0,.int .u64 0]) (t:=26) ?hr ?_;(case hr=>first | (go_simp;done) | (go_simp;rfl));intro go w3 Kgo Lgo HB hbelgo hqgo;have M2:=zh (show gb < go by rw [hqgo];exact blk_lt Kgb.out);have Kgb:=zk Kgb hbelgo;obtain ⟨a0,a1,a2,a3,a4⟩:=zz5 Kgb.out;clear hbelgo hqgo))
  | (go_at_call 32;go_must (refine (HOP.out _ HB.out).mono ?_;rintro e w4 ⟨g,rfl,hgl,hk,hb⟩;have Kg:=hk;have M3:=zh (show go < g from Nat.lt_of_lt_of_le (blk_lt Kgo.out) hgl);have HB:=keepB HB hb.out;have Kgb:=zk Kgb hb.out;have Kgo:=zk Kgo hb.out;clear hk hb hgl a0 a1 a2 a3 a4))
  | (go_at_call 33;go_must (refine (HNX.out g _ Kg.out).mono ?_;rintro e w7 ⟨rfl,hk,ho⟩;have Kg:=hk;have HB:=zh (ho.out.below HB.out HB.out.size (by have:=Lgo.out;have:=M3.out;omega));have Kgb:=zl ho Kgb (by have:=M2.out;have:=M3.out;omega);have Kgo:=zl ho Kgo (by have:=M2.out;have:=M3.out;omega);have k5:=zb Kg.out 5 (.int .i64 e1);obtain ⟨m0,m1,m2,m3,m4⟩:=zz5 Kgb.out;clear hk ho))
  | (go_at_call 36;go_must (refine (HCL.out g A3 c3 _ HB.out Kg.out (H3.out _ HB.out) G3.out).mono ?_;rintro e w10 ⟨v10,rfl,hv,ho⟩;obtain ⟨A5,c5,A6,c6,rfl,y1,y2,y3,y4⟩:=hv;have HB:=zh (ho.below HB.out HB.out.size (by have:=Lgo.out;have:=M3.out;omega));have Kgb:=zh (ho.blk Kgb.out (by have:=M2.out;have:=M3.out;omega));have Kgo:=zh (ho.blk Kgo.out (by have:=M2.out;have:=M3.out;omega));have Y3:=zh y3;have Y4:=zh y4;clear ho y3 y4 m0 m1 m2 m3 m4 k5))
  | ((with_reducible refine gate_dst (N:=9) rfl ?_);go_must (refine zx HB (N:=9) (cs:=#[.string ⟨#[]⟩,.int .i64 0,.slice none 0 0,.slice none 0 0,.int .u64 0]) (t:=26) ?hr ?_;(case hr=>first | (go_simp;done) | (go_simp;rfl));intro gx w11 Kgx Lgx HB hbelgx hqgx;have M4:=zh (show go < gx by rw [hqgx];exact blk_lt Kgo.out);have Kgb:=zk Kgb hbelgx;have Kgo:=zk Kgo hbelgx;have Y3:=zc Y3 hbelgx;have Y4:=zc Y4 hbelgx;clear hbelgx hqgx))
  | ((with_reducible refine gate_store (t:=26) (p:=9) (v:=.tmp 37) rfl ?_);go_must (refine zs 26 (.tmp 9) (.tmp 37) gx 0 26 [.string kb.f0,.int .i64 kb.f1,.slice A5 kb.f2.length c5,.slice A6 kb.f3.length c6,.int .u64 kb.f4] Kgx isz_bucket ?_;intro w12 hk ho;have Y3:=zh (keepE Y3.out Kgx.out (bk_like _ _ _ _ _ _ _ _ _) ho.out);have Y4:=zh (keepU Y4.out Kgx.out (bk_like _ _ _ _ _ _ _ _ _) ho.out);have HB:=zo ho HB Lgx;have Kgb:=zl ho Kgb (by have:=M2.out;have:=M4.out;omega);have Kgo:=zl ho Kgo (by have:=M2.out;have:=M4.out;omega);obtain ⟨p0,p1,p2,p3,p4⟩:=zz5 Kgb.out;clear hk ho))
  | ((with_reducible refine gate_store (t:=26) (p:=4) (v:=.tmp 41) rfl ?_);go_must (refine zs 26 (.tmp 4) (.tmp 41) go 0 26 [.string b.f0,.int .i64 b.f1,.slice A2 b.f2.length c2,.slice A3 b.f3.length c3,.int .u64 b.f4] Kgo isz_bucket ?_;intro w13 hk ho;have HB:=zo ho HB Lgo;obtain ⟨z0,z1,z2,z3,z4⟩:=zz5 hk.out;clear hk ho)))
 refine bodyPost_ret (v:=.tuple #[.agg #[.string b.f0,.int .i64 b.f1,.slice A2 b.f2.length c2,.slice A3 b.f3.length c3,.int .u64 b.f4],.int .u64 0,.int .i64 ce]) (by simp [results,Tryz.results12,go_sem,z0,z1,z2,z3,z4]) rfl ?_
 exact ⟨_,rfl,⟨A2,c2,A3,c3,rfl,G2.out,G3.out,H2.out _ HB.out,H3.out _ HB.out⟩,HB.out⟩
theorem beginB.walk (b : S26) (A2 A3 : Option Addr) (c2 c3 : Nat) (key : ByteArray) (w : World) (h2 : Kd.C k56 w A2 b.f2.length b.f2) (g2 : b.f2.length ≤ c2) (h3 : Kd.C k101 w A3 b.f3.length b.f3) (g3 : b.f3.length ≤ c3) :
  Calls Tryz.prog 12 #[.agg #[.string b.f0,.int .i64 b.f1,.slice A2 b.f2.length c2,.slice A3 b.f3.length c3,.int .u64 b.f4],.string key] w (BkPost (beginB b key).1 [.int .u64 (beginB b key).2.1,.int .i64 (beginB b key).2.2] w):=by
 obtain ⟨l2,hl2⟩ : ∃ l2,IntKind.u64.wrap (b.f4 + 1) = l2:=⟨_,rfl⟩
 obtain ⟨e1,he1⟩ : ∃ e1,noR (decide (281474976710655 ≤ b.f4)) 6 (openR b key) = e1:=⟨_,rfl⟩
 obtain ⟨⟨r3,ar⟩,hr⟩ : ∃ r,beginR b.f3 l2 key = r:=⟨_,rfl⟩
 by_cases h1 : e1 = 0
 ·have e : beginB b key = if (closeR b ⟨b.f0,b.f1,b.f2,r3,l2⟩ (noR (!(ar == 0)) ar 0)).2 = 0 then ((closeR b ⟨b.f0,b.f1,b.f2,r3,l2⟩ (noR (!(ar == 0)) ar 0)).1,l2,0) else (b,0,(closeR b ⟨b.f0,b.f1,b.f2,r3,l2⟩ (noR (!(ar == 0)) ar 0)).2):=by
   unfold beginB beginQ
   simp only [hl2,he1,h1,hr,if_pos]
  rw [e]
  obtain ⟨⟨kb,ce⟩,hce⟩ : ∃ c,closeR b ⟨b.f0,b.f1,b.f2,r3,l2⟩ (noR (!(ar == 0)) ar 0) = c:=⟨_,rfl⟩
  rw [hce]
  by_cases hz : ce = 0
  ·rw [if_pos hz];exact begin_gg b A2 A3 c2 c3 key w h2 g2 h3 g3 l2 hl2 e1 he1 h1 r3 ar hr kb ce hce hz
  ·rw [if_neg hz];exact begin_gn b A2 A3 c2 c3 key w h2 g2 h3 g3 l2 hl2 e1 he1 h1 r3 ar hr kb ce hce hz
 ·have hc : closeR b ⟨b.f0,b.f1,b.f2,b.f3,l2⟩ e1 = (b,e1):=by unfold closeR;rw [if_neg h1]
  have e : beginB b key = (b,0,e1):=by
   unfold beginB beginQ
   simp only [hl2,he1,h1,if_false,hc]
  rw [e]
  exact begin_n b A2 A3 c2 c3 key w h2 g2 h3 g3 l2 hl2 e1 he1 h1 b e1 hc h1
end
section
open Go.WideMaps Go.Maps
attribute [local go_sem] Oper.semAt_some
def layB (b : S26) (id : Int) (p : S40) : S26 × Int × Int :=
 let r:=layR b.f3 id p
 let c:=closeR b ⟨b.f0,b.f1,b.f2,r.1,b.f4⟩ (noR (!(r.2.2 == 0)) r.2.2 (openR b anyK))
 if c.2 = 0 then (c.1,r.2.1,0) else (b,0,c.2)
theorem lay_g (b : S26) (A2 A3 : Option Addr) (c2 c3 : Nat) (id : Int) (p : S40) (w : World) (h2 : Kd.C k56 w A2 b.f2.length b.f2) (g2 : b.f2.length ≤ c2) (h3 : Kd.C k101 w A3 b.f3.length b.f3) (g3 : b.f3.length ≤ c3) (r3 : List S101) (tg ar : Int) (hr : layR b.f3 id p = (r3,tg,ar)) (kb : S26) (ce : Int) (hce : closeR b ⟨b.f0,b.f1,b.f2,r3,b.f4⟩ (noR (!(ar == 0)) ar (openR b anyK)) = (kb,ce)) (hz : ce = 0) :
  Calls Tryz.prog 15 #[.agg #[.string b.f0,.int .i64 b.f1,.slice A2 b.f2.length c2,.slice A3 b.f3.length c3,.int .u64 b.f4],.int .u64 id,.agg #[.int .i64 p.f0,.string p.f1]] w (BkPost kb [.int .u32 tg,.int .i64 0] w):=by
 have H2:=zh (fun (W : World) (h : Below w.heap.size w W)=>Kd.C_below h2 h)
 have H3:=zh (fun (W : World) (h : Below w.heap.size w W)=>Kd.C_below h3 h)
 have HOP:=zh (fun (W : World) (h : Below w.heap.size w W)=>open.walk b A2 A3 c2 c3 anyK W (Kd.C_below h2 h) g2 (Kd.C_below h3 h) g3)
 have HLY:=zh (fun (W : World) (h : Below w.heap.size w W)=>lay.walk A3 c3 b.f3 id p W (Kd.C_below h3 h) g3)
 rw [hr] at HLY
 have HQ : Hid (noR (!(ar == 0)) ar (openR b anyK) = 0 → indexB b.f2 = true ∧ checkB r3 = true):=fun h=>by
  have x:=lay_check (l:=b.f3) (id:=id) (p:=p) (by rw [hr];exact (noR_ok h).1)
  rw [hr] at x
  exact ⟨(bucket_at (open_0 (noR_ok h).2).1).2.1,x.1⟩
 generalize openR b anyK = e0 at *
 have HUP:=zh (fun (g : Nat) (A4 : Option Addr) (c4 : Nat) (W : World) hW=>uploadsW.walk g (.string b.f0) (.int .i64 b.f1) (.slice A2 b.f2.length c2) (.slice A3 b.f3.length c3) (.int .u64 b.f4) A4 r3.length c4 e0 ar W hW)
 generalize noR (!(ar == 0)) ar e0 = e2 at *
 have HCL:=zh (fun (g : Nat) (A4 : Option Addr) (c4 : Nat) (W : World) (hW : Below w.heap.size w W) (K : W.heap[g]? = some (.cells #[.string b.f0,.int .i64 b.f1,.slice A2 b.f2.length c2,.slice A4 r3.length c4,.int .u64 b.f4,.int .i64 e2] 87 (0,0))) (C4 : Kd.C k101 W A4 r3.length r3) (g4 : r3.length ≤ c4) =>
  close.calls (⟨b.f0,b.f1,b.f2,r3,b.f4⟩ : S26) b A2 A4 A2 A3 c2 c4 c2 c3 (e2) g W K (Kd.C_below h2 hW) g2 C4 g4 (Kd.C_below h2 hW) g2 (Kd.C_below h3 hW) g3 HQ.out)
 rw [hce] at HCL
 have q0 : (ce == 0) = true:=beq_iff_eq.2 hz
 have q1 : (ce != 0) = false:=by rw [bne,q0];rfl
 have G2:=zh g2
 have G3:=zh g3
 have HB:=zh (Below.refl w.heap.size w)
 clear h2 h3 g2 g3 HQ hce hz hr
 go_enter Tryz.func15,Tryz.ntmps15
 go_wp2_with (first
  | ((with_reducible refine gate_dst (N:=3) rfl ?_);go_must (refine zx HB (N:=3) (cs:=#[.string b.f0,.int .i64 b.f1,.slice A2 b.f2.length c2,.slice A3 b.f3.length c3,.int .u64 b.f4]) (t:=26) ?hr ?_;(case hr=>first | (go_simp;done) | (go_simp;rfl));intro gb w1 Kgb Lgb HB hbelgb hqgb;clear hbelgb hqgb))
  | ((with_reducible refine gate_dst (N:=5) rfl ?_);go_must (refine zx HB (N:=5) (cs:=#[.int .i64 p.f0,.string p.f1]) (t:=40) ?hr ?_;(case hr=>first | (go_simp;done) | (go_simp;rfl));intro gp w2 Kgp Lgp HB hbelgp hqgp;have M1:=zh (show gb < gp by rw [hqgp];exact blk_lt Kgb.out);have Kgb:=zk Kgb hbelgp;clear hbelgp hqgp))
  | ((with_reducible refine gate_dst (N:=6) rfl ?_);go_must (refine zx HB (N:=6) (cs:=#[.string ⟨#[]⟩,.int .i64 0,.slice none 0 0,.slice none 0 0,.int .u64 0]) (t:=26) ?hr ?_;(case hr=>first | (go_simp;done) | (go_simp;rfl));intro go w3 Kgo Lgo HB hbelgo hqgo;have M2:=zh (show gp < go by rw [hqgo];exact blk_lt Kgp.out);have Kgb:=zk Kgb hbelgo;have Kgp:=zk Kgp hbelgo;obtain ⟨a0,a1,a2,a3,a4⟩:=zz5 Kgb.out;clear hbelgo hqgo))
  | (go_at_call 32;go_must (refine (HOP.out _ HB.out).mono ?_;rintro e w4 ⟨g,rfl,hgl,hk,hb⟩;have Kg:=hk;have M3:=zh (show go < g from Nat.lt_of_lt_of_le (blk_lt Kgo.out) hgl);have HB:=keepB HB hb.out;have Kgb:=zk Kgb hb.out;have Kgp:=zk Kgp hb.out;have Kgo:=zk Kgo hb.out;clear hk hb hgl a0 a1 a2 a3 a4)))
 refine wp_region_held_drew (S:=fun W=>W.heap[g]? = some (.cells #[.string b.f0,.int .i64 b.f1,.slice A2 b.f2.length c2,.slice A3 b.f3.length c3,.int .u64 b.f4,.int .i64 e0] 87 (0,0)) ∧ W.cell? ⟨g,3,none⟩ = some (.slice A3 b.f3.length c3) ∧ W.heap[gb]? = some (.cells #[.string b.f0,.int .i64 b.f1,.slice A2 b.f2.length c2,.slice A3 b.f3.length c3,.int .u64 b.f4] 26 (0,0)) ∧ W.heap[go]? = some (.cells #[.string ⟨#[]⟩,.int .i64 0,.slice none 0 0,.slice none 0 0,.int .u64 0] 26 (0,0)) ∧ W.heap[gp]? = some (.cells #[.int .i64 p.f0,.string p.f1] 40 (0,0)) ∧ W.cell? ⟨gp,0,none⟩ = some (.int .i64 p.f0) ∧ W.cell? ⟨gp,1,none⟩ = some (.string p.f1) ∧ Below w.heap.size w W) (by kernel_rfl) ?_ (fun hHeld=>?_)
 ·exact ⟨blk_drew Kg.out,(blk_cell (blk_drew Kg.out) 3).trans rfl,blk_drew Kgb.out,blk_drew Kgo.out,blk_drew Kgp.out,blk_cell (blk_drew Kgp.out) 0,blk_cell (blk_drew Kgp.out) 1,HB.out.drew⟩
 clear Kg Kgb Kgo Kgp HB
 refine zt 0 (v:=?v0g1) ?y0g1 ?r0g1
 case y0g1=>(rintro w ⟨s0,s1,s2,s3,s4,s5,s6,s7⟩;go_simp;try with_reducible rfl)
 try simp only [zA,zB,zC,Act.put,zD,zE,zF]
 refine zt 1 (v:=?v1g1) ?y1g1 ?r1g1
 case y1g1=>(rintro w ⟨s0,s1,s2,s3,s4,s5,s6,s7⟩;go_simp;try with_reducible rfl)
 try simp only [zA,zB,zC,Act.put,zD,zE,zF]
 refine zt 2 (v:=?v2g1) ?y2g1 ?r2g1
 case y2g1=>(rintro w ⟨s0,s1,s2,s3,s4,s5,s6,s7⟩;go_simp;try with_reducible rfl)
 try simp only [zA,zB,zC,Act.put,zD,zE,zF]
 refine zt 3 (v:=?v3g1) ?y3g1 ?r3g1
 case y3g1=>(rintro w ⟨s0,s1,s2,s3,s4,s5,s6,s7⟩;go_simp;try with_reducible rfl)
 try simp only [zA,zB,zC,Act.put,zD,zE,zF]
 refine zt 4 (v:=?v4g1) ?y4g1 ?r4g1
 case y4g1=>(rintro w ⟨s0,s1,s2,s3,s4,s5,s6,s7⟩;go_simp;try with_reducible rfl)
 try simp only [zA,zB,zC,Act.put,zD,zE,zF]
 refine zt 5 (v:=?v5g1) ?y5g1 ?r5g1
 case y5g1=>(rintro w ⟨s0,s1,s2,s3,s4,s5,s6,s7⟩;go_simp;try with_reducible rfl)
 try simp only [zA,zB,zC,Act.put,zD,zE,zF]
 refine zt 6 (v:=?v6g1) ?y6g1 ?r6g1
 case y6g1=>(rintro w ⟨s0,s1,s2,s3,s4,s5,s6,s7⟩;go_simp;try with_reducible rfl)
 try simp only [zA,zB,zC,Act.put,zD,zE,zF]
 refine wpAnyH_ready (rs:=[7]) (by kernel_rfl) (by simp) ?_
 refine AllReadyH.cons (o:=_) rfl (fun K hK=>?_) AllReadyH.nil
 rw [if_pos (by rfl)]
 go_simp
 obtain ⟨s0,s1,s2,s3,s4,s5,s6,s7⟩:=hHeld
 refine (HLY.out _ s7).mono ?_
 rintro e8 w8 ⟨A4,c4,rfl,hc4,hC4,hb8⟩
 have HC4:=zh hC4
 clear hC4
 have Kg:=zh (blk_below s0 hb8)
 have Kgb:=zh (blk_below s2 hb8)
 have Kgo:=zh (blk_below s3 hb8)
 have Kgp:=zh (blk_below s4 hb8)
 have HB:=zh (s7.trans (hb8.mono s7.size))
 refine hK.out _ _ ⟨Kg.out,zj Kg 3,Kgb.out,Kgo.out,Kgp.out,zj Kgp 0,zj Kgp 1,HB.out⟩ (fun hHeld=>?_)
 clear hK K hb8 s0 s1 s2 s3 s4 s5 s6 s7
 try simp only [zA,zB,zC,Act.put,zD,zE,zF]
 refine zt 8 (v:=?v8g1) ?y8g1 ?r8g1
 case y8g1=>(rintro w ⟨s0,s1,s2,s3,s4,s5,s6,s7⟩;go_simp;try with_reducible rfl)
 try simp only [zA,zB,zC,Act.put,zD,zE,zF]
 refine zt 9 (v:=?v9g1) ?y9g1 ?r9g1
 case y9g1=>(rintro w ⟨s0,s1,s2,s3,s4,s5,s6,s7⟩;go_simp;try with_reducible rfl)
 try simp only [zA,zB,zC,Act.put,zD,zE,zF]
 refine zt 10 (v:=?v10g1) ?y10g1 ?r10g1
 case y10g1=>(rintro w ⟨s0,s1,s2,s3,s4,s5,s6,s7⟩;go_simp;try with_reducible rfl)
 try simp only [zA,zB,zC,Act.put,zD,zE,zF]
 refine zt 11 (v:=?v11g1) ?y11g1 ?r11g1
 case y11g1=>(rintro w ⟨s0,s1,s2,s3,s4,s5,s6,s7⟩;go_simp;try with_reducible rfl)
 try simp only [zA,zB,zC,Act.put,zD,zE,zF]
 refine zt 12 (v:=?v12g1) ?y12g1 ?r12g1
 case y12g1=>(rintro w ⟨s0,s1,s2,s3,s4,s5,s6,s7⟩;go_simp;try with_reducible rfl)
 try simp only [zA,zB,zC,Act.put,zD,zE,zF]
 refine zt 13 (v:=?v13g1) ?y13g1 ?r13g1
 case y13g1=>(rintro w ⟨s0,s1,s2,s3,s4,s5,s6,s7⟩;go_simp;try with_reducible rfl)
 try simp only [zA,zB,zC,Act.put,zD,zE,zF]
 refine zt 14 (v:=?v14g1) ?y14g1 ?r14g1
 case y14g1=>(rintro w ⟨s0,s1,s2,s3,s4,s5,s6,s7⟩;go_simp;try with_reducible rfl)
 try simp only [zA,zB,zC,Act.put,zD,zE,zF]
 refine wpAnyH_done (by kernel_rfl) ?_ _
 go_wp2_with (first
  | (go_at_call 34;go_must (refine (HUP.out g A4 c4 _ Kg.out).mono ?_;rintro e w6 ⟨rfl,hk,ho⟩;have HC4:=zh (keepU HC4.out Kg.out (work_like b.f0 b.f1 A2 b.f2.length c2 A3 b.f3.length c3 b.f4 e0) ho.out);have Kg:=hk;have HB:=zh (ho.out.below HB.out HB.out.size (by have:=Lgo.out;have:=M3.out;omega));have Kgb:=zl ho Kgb (by have:=M1.out;have:=M2.out;have:=M3.out;omega);have Kgo:=zl ho Kgo (by have:=M1.out;have:=M2.out;have:=M3.out;omega);obtain ⟨m0,m1,m2,m3,m4⟩:=zz5 Kgb.out;clear hk ho))
  | (go_at_call 36;go_must (refine (HCL.out g A4 c4 _ HB.out Kg.out HC4.out hc4).mono ?_;rintro e w10 ⟨v10,rfl,hv,ho⟩;obtain ⟨A5,c5,A6,c6,rfl,y1,y2,y3,y4⟩:=hv;have HB:=zh (ho.below HB.out HB.out.size (by have:=Lgo.out;have:=M3.out;omega));have Kgb:=zh (ho.blk Kgb.out (by have:=M1.out;have:=M2.out;have:=M3.out;omega));have Kgo:=zh (ho.blk Kgo.out (by have:=M1.out;have:=M2.out;have:=M3.out;omega));have Y3:=zh y3;have Y4:=zh y4;clear ho y3 y4 m0 m1 m2 m3 m4))
  | ((with_reducible refine gate_dst (N:=13) rfl ?_);go_must (refine zx HB (N:=13) (cs:=#[.string ⟨#[]⟩,.int .i64 0,.slice none 0 0,.slice none 0 0,.int .u64 0]) (t:=26) ?hr ?_;(case hr=>first | (go_simp;done) | (go_simp;rfl));intro gx w11 Kgx Lgx HB hbelgx hqgx;have M4:=zh (show go < gx by rw [hqgx];exact blk_lt Kgo.out);have Kgb:=zk Kgb hbelgx;have Kgo:=zk Kgo hbelgx;have Y3:=zc Y3 hbelgx;have Y4:=zc Y4 hbelgx;clear hbelgx hqgx))
  | ((with_reducible refine gate_store (t:=26) (p:=13) (v:=.tmp 36) rfl ?_);go_must (refine zs 26 (.tmp 13) (.tmp 36) gx 0 26 [.string kb.f0,.int .i64 kb.f1,.slice A5 kb.f2.length c5,.slice A6 kb.f3.length c6,.int .u64 kb.f4] Kgx isz_bucket ?_;intro w12 hk ho;have Y3:=zh (keepE Y3.out Kgx.out (bk_like _ _ _ _ _ _ _ _ _) ho.out);have Y4:=zh (keepU Y4.out Kgx.out (bk_like _ _ _ _ _ _ _ _ _) ho.out);have HB:=zo ho HB Lgx;have Kgb:=zl ho Kgb (by have:=M1.out;have:=M2.out;have:=M4.out;omega);have Kgo:=zl ho Kgo (by have:=M1.out;have:=M2.out;have:=M4.out;omega);have Kgx : Hid (w12.heap[gx]? = some (.cells #[.string kb.f0,.int .i64 kb.f1,.slice A5 kb.f2.length c5,.slice A6 kb.f3.length c6,.int .u64 kb.f4] 26 (0,0))):=hk;obtain ⟨p0,p1,p2,p3,p4⟩:=zz5 Kgx.out;clear hk ho))
  | ((with_reducible refine gate_store (t:=26) (p:=6) (v:=.tmp 42) rfl ?_);go_must (refine zs 26 (.tmp 6) (.tmp 42) go 0 26 [.string kb.f0,.int .i64 kb.f1,.slice A5 kb.f2.length c5,.slice A6 kb.f3.length c6,.int .u64 kb.f4] Kgo isz_bucket ?_;intro w13 hk ho;have Y3:=zh (keepE Y3.out Kgo.out (bk_like _ _ _ _ _ _ _ _ _) ho.out);have Y4:=zh (keepU Y4.out Kgo.out (bk_like _ _ _ _ _ _ _ _ _) ho.out);have HB:=zo ho HB Lgo;obtain ⟨z0,z1,z2,z3,z4⟩:=zz5 hk.out;clear hk ho)))
 refine bodyPost_ret (v:=.tuple #[.agg #[.string kb.f0,.int .i64 kb.f1,.slice A5 kb.f2.length c5,.slice A6 kb.f3.length c6,.int .u64 kb.f4],.int .u32 tg,.int .i64 0]) (by simp [results,Tryz.results15,go_sem,z0,z1,z2,z3,z4]) rfl ?_
 exact ⟨_,rfl,⟨A5,c5,A6,c6,rfl,y1,y2,Y3.out,Y4.out⟩,HB.out⟩
theorem lay_n (b : S26) (A2 A3 : Option Addr) (c2 c3 : Nat) (id : Int) (p : S40) (w : World) (h2 : Kd.C k56 w A2 b.f2.length b.f2) (g2 : b.f2.length ≤ c2) (h3 : Kd.C k101 w A3 b.f3.length b.f3) (g3 : b.f3.length ≤ c3) (r3 : List S101) (tg ar : Int) (hr : layR b.f3 id p = (r3,tg,ar)) (kb : S26) (ce : Int) (hce : closeR b ⟨b.f0,b.f1,b.f2,r3,b.f4⟩ (noR (!(ar == 0)) ar (openR b anyK)) = (kb,ce)) (hz : ce ≠ 0) :
  Calls Tryz.prog 15 #[.agg #[.string b.f0,.int .i64 b.f1,.slice A2 b.f2.length c2,.slice A3 b.f3.length c3,.int .u64 b.f4],.int .u64 id,.agg #[.int .i64 p.f0,.string p.f1]] w (BkPost b [.int .u32 0,.int .i64 ce] w):=by
 have H2:=zh (fun (W : World) (h : Below w.heap.size w W)=>Kd.C_below h2 h)
 have H3:=zh (fun (W : World) (h : Below w.heap.size w W)=>Kd.C_below h3 h)
 have HOP:=zh (fun (W : World) (h : Below w.heap.size w W)=>open.walk b A2 A3 c2 c3 anyK W (Kd.C_below h2 h) g2 (Kd.C_below h3 h) g3)
 have HLY:=zh (fun (W : World) (h : Below w.heap.size w W)=>lay.walk A3 c3 b.f3 id p W (Kd.C_below h3 h) g3)
 rw [hr] at HLY
 have HQ : Hid (noR (!(ar == 0)) ar (openR b anyK) = 0 → indexB b.f2 = true ∧ checkB r3 = true):=fun h=>by
  have x:=lay_check (l:=b.f3) (id:=id) (p:=p) (by rw [hr];exact (noR_ok h).1)
  rw [hr] at x
  exact ⟨(bucket_at (open_0 (noR_ok h).2).1).2.1,x.1⟩
 generalize openR b anyK = e0 at *
 have HUP:=zh (fun (g : Nat) (A4 : Option Addr) (c4 : Nat) (W : World) hW=>uploadsW.walk g (.string b.f0) (.int .i64 b.f1) (.slice A2 b.f2.length c2) (.slice A3 b.f3.length c3) (.int .u64 b.f4) A4 r3.length c4 e0 ar W hW)
 generalize noR (!(ar == 0)) ar e0 = e2 at *
 have HCL:=zh (fun (g : Nat) (A4 : Option Addr) (c4 : Nat) (W : World) (hW : Below w.heap.size w W) (K : W.heap[g]? = some (.cells #[.string b.f0,.int .i64 b.f1,.slice A2 b.f2.length c2,.slice A4 r3.length c4,.int .u64 b.f4,.int .i64 e2] 87 (0,0))) (C4 : Kd.C k101 W A4 r3.length r3) (g4 : r3.length ≤ c4) =>
  close.calls (⟨b.f0,b.f1,b.f2,r3,b.f4⟩ : S26) b A2 A4 A2 A3 c2 c4 c2 c3 (e2) g W K (Kd.C_below h2 hW) g2 C4 g4 (Kd.C_below h2 hW) g2 (Kd.C_below h3 hW) g3 HQ.out)
 rw [hce] at HCL
 have q0 : (ce == 0) = false:=beq_eq_false_iff_ne.2 hz
 have q1 : (ce != 0) = true:=by rw [bne,q0];rfl
 have G2:=zh g2
 have G3:=zh g3
 have HB:=zh (Below.refl w.heap.size w)
 clear h2 h3 g2 g3 HQ hce hz hr
 go_enter Tryz.func15,Tryz.ntmps15
 go_wp2_with (first
  | ((with_reducible refine gate_dst (N:=3) rfl ?_);go_must (refine zx HB (N:=3) (cs:=#[.string b.f0,.int .i64 b.f1,.slice A2 b.f2.length c2,.slice A3 b.f3.length c3,.int .u64 b.f4]) (t:=26) ?hr ?_;(case hr=>first | (go_simp;done) | (go_simp;rfl));intro gb w1 Kgb Lgb HB hbelgb hqgb;clear hbelgb hqgb))
  | ((with_reducible refine gate_dst (N:=5) rfl ?_);go_must (refine zx HB (N:=5) (cs:=#[.int .i64 p.f0,.string p.f1]) (t:=40) ?hr ?_;(case hr=>first | (go_simp;done) | (go_simp;rfl));intro gp w2 Kgp Lgp HB hbelgp hqgp;have M1:=zh (show gb < gp by rw [hqgp];exact blk_lt Kgb.out);have Kgb:=zk Kgb hbelgp;clear hbelgp hqgp))
  | ((with_reducible refine gate_dst (N:=6) rfl ?_);go_must (refine zx HB (N:=6) (cs:=#[.string ⟨#[]⟩,.int .i64 0,.slice none 0 0,.slice none 0 0,.int .u64 0]) (t:=26) ?hr ?_;(case hr=>first | (go_simp;done) | (go_simp;rfl));intro go w3 Kgo Lgo HB hbelgo hqgo;have M2:=zh (show gp < go by rw [hqgo];exact blk_lt Kgp.out);have Kgb:=zk Kgb hbelgo;have Kgp:=zk Kgp hbelgo;obtain ⟨a0,a1,a2,a3,a4⟩:=zz5 Kgb.out;clear hbelgo hqgo))
  | (go_at_call 32;go_must (refine (HOP.out _ HB.out).mono ?_;rintro e w4 ⟨g,rfl,hgl,hk,hb⟩;have Kg:=hk;have M3:=zh (show go < g from Nat.lt_of_lt_of_le (blk_lt Kgo.out) hgl);have HB:=keepB HB hb.out;have Kgb:=zk Kgb hb.out;have Kgp:=zk Kgp hb.out;have Kgo:=zk Kgo hb.out;clear hk hb hgl a0 a1 a2 a3 a4)))
 refine wp_region_held_drew (S:=fun W=>W.heap[g]? = some (.cells #[.string b.f0,.int .i64 b.f1,.slice A2 b.f2.length c2,.slice A3 b.f3.length c3,.int .u64 b.f4,.int .i64 e0] 87 (0,0)) ∧ W.cell? ⟨g,3,none⟩ = some (.slice A3 b.f3.length c3) ∧ W.heap[gb]? = some (.cells #[.string b.f0,.int .i64 b.f1,.slice A2 b.f2.length c2,.slice A3 b.f3.length c3,.int .u64 b.f4] 26 (0,0)) ∧ W.heap[go]? = some (.cells #[.string ⟨#[]⟩,.int .i64 0,.slice none 0 0,.slice none 0 0,.int .u64 0] 26 (0,0)) ∧ W.heap[gp]? = some (.cells #[.int .i64 p.f0,.string p.f1] 40 (0,0)) ∧ W.cell? ⟨gp,0,none⟩ = some (.int .i64 p.f0) ∧ W.cell? ⟨gp,1,none⟩ = some (.string p.f1) ∧ Below w.heap.size w W) (by kernel_rfl) ?_ (fun hHeld=>?_)
 ·exact ⟨blk_drew Kg.out,(blk_cell (blk_drew Kg.out) 3).trans rfl,blk_drew Kgb.out,blk_drew Kgo.out,blk_drew Kgp.out,blk_cell (blk_drew Kgp.out) 0,blk_cell (blk_drew Kgp.out) 1,HB.out.drew⟩
 clear Kg Kgb Kgo Kgp HB
 refine zt 0 (v:=?v0g2) ?y0g2 ?r0g2
 case y0g2=>(rintro w ⟨s0,s1,s2,s3,s4,s5,s6,s7⟩;go_simp;try with_reducible rfl)
 try simp only [zA,zB,zC,Act.put,zD,zE,zF]
 refine zt 1 (v:=?v1g2) ?y1g2 ?r1g2
 case y1g2=>(rintro w ⟨s0,s1,s2,s3,s4,s5,s6,s7⟩;go_simp;try with_reducible rfl)
 try simp only [zA,zB,zC,Act.put,zD,zE,zF]
 refine zt 2 (v:=?v2g2) ?y2g2 ?r2g2
 case y2g2=>(rintro w ⟨s0,s1,s2,s3,s4,s5,s6,s7⟩;go_simp;try with_reducible rfl)
 try simp only [zA,zB,zC,Act.put,zD,zE,zF]
 refine zt 3 (v:=?v3g2) ?y3g2 ?r3g2
 case y3g2=>(rintro w ⟨s0,s1,s2,s3,s4,s5,s6,s7⟩;go_simp;try with_reducible rfl)
 try simp only [zA,zB,zC,Act.put,zD,zE,zF]
 refine zt 4 (v:=?v4g2) ?y4g2 ?r4g2
 case y4g2=>(rintro w ⟨s0,s1,s2,s3,s4,s5,s6,s7⟩;go_simp;try with_reducible rfl)
 try simp only [zA,zB,zC,Act.put,zD,zE,zF]
 refine zt 5 (v:=?v5g2) ?y5g2 ?r5g2
 case y5g2=>(rintro w ⟨s0,s1,s2,s3,s4,s5,s6,s7⟩;go_simp;try with_reducible rfl)
 try simp only [zA,zB,zC,Act.put,zD,zE,zF]
 refine zt 6 (v:=?v6g2) ?y6g2 ?r6g2
 case y6g2=>(rintro w ⟨s0,s1,s2,s3,s4,s5,s6,s7⟩;go_simp;try with_reducible rfl)
 try simp only [zA,zB,zC,Act.put,zD,zE,zF]
 refine wpAnyH_ready (rs:=[7]) (by kernel_rfl) (by simp) ?_
 refine AllReadyH.cons (o:=_) rfl (fun K hK=>?_) AllReadyH.nil
 rw [if_pos (by rfl)]
 go_simp
 obtain ⟨s0,s1,s2,s3,s4,s5,s6,s7⟩:=hHeld
 refine (HLY.out _ s7).mono ?_
 rintro e8 w8 ⟨A4,c4,rfl,hc4,hC4,hb8⟩
 have HC4:=zh hC4
 clear hC4
 have Kg:=zh (blk_below s0 hb8)
 have Kgb:=zh (blk_below s2 hb8)
 have Kgo:=zh (blk_below s3 hb8)
 have Kgp:=zh (blk_below s4 hb8)
 have HB:=zh (s7.trans (hb8.mono s7.size))
 refine hK.out _ _ ⟨Kg.out,zj Kg 3,Kgb.out,Kgo.out,Kgp.out,zj Kgp 0,zj Kgp 1,HB.out⟩ (fun hHeld=>?_)
 clear hK K hb8 s0 s1 s2 s3 s4 s5 s6 s7
 try simp only [zA,zB,zC,Act.put,zD,zE,zF]
 refine zt 8 (v:=?v8g2) ?y8g2 ?r8g2
 case y8g2=>(rintro w ⟨s0,s1,s2,s3,s4,s5,s6,s7⟩;go_simp;try with_reducible rfl)
 try simp only [zA,zB,zC,Act.put,zD,zE,zF]
 refine zt 9 (v:=?v9g2) ?y9g2 ?r9g2
 case y9g2=>(rintro w ⟨s0,s1,s2,s3,s4,s5,s6,s7⟩;go_simp;try with_reducible rfl)
 try simp only [zA,zB,zC,Act.put,zD,zE,zF]
 refine zt 10 (v:=?v10g2) ?y10g2 ?r10g2
 case y10g2=>(rintro w ⟨s0,s1,s2,s3,s4,s5,s6,s7⟩;go_simp;try with_reducible rfl)
 try simp only [zA,zB,zC,Act.put,zD,zE,zF]
 refine zt 11 (v:=?v11g2) ?y11g2 ?r11g2
 case y11g2=>(rintro w ⟨s0,s1,s2,s3,s4,s5,s6,s7⟩;go_simp;try with_reducible rfl)
 try simp only [zA,zB,zC,Act.put,zD,zE,zF]
 refine zt 12 (v:=?v12g2) ?y12g2 ?r12g2
 case y12g2=>(rintro w ⟨s0,s1,s2,s3,s4,s5,s6,s7⟩;go_simp;try with_reducible rfl)
 try simp only [zA,zB,zC,Act.put,zD,zE,zF]
 refine zt 13 (v:=?v13g2) ?y13g2 ?r13g2
 case y13g2=>(rintro w ⟨s0,s1,s2,s3,s4,s5,s6,s7⟩;go_simp;try with_reducible rfl)
 try simp only [zA,zB,zC,Act.put,zD,zE,zF]
 refine zt 14 (v:=?v14g2) ?y14g2 ?r14g2
 case y14g2=>(rintro w ⟨s0,s1,s2,s3,s4,s5,s6,s7⟩;go_simp;try with_reducible rfl)
 try simp only [zA,zB,zC,Act.put,zD,zE,zF]
 refine wpAnyH_done (by kernel_rfl) ?_ _
 go_wp2_with (first
  | (go_at_call 34;go_must (refine (HUP.out g A4 c4 _ Kg.out).mono ?_;rintro e w6 ⟨rfl,hk,ho⟩;have HC4:=zh (keepU HC4.out Kg.out (work_like b.f0 b.f1 A2 b.f2.length c2 A3 b.f3.length c3 b.f4 e0) ho.out);have Kg:=hk;have HB:=zh (ho.out.below HB.out HB.out.size (by have:=Lgo.out;have:=M3.out;omega));have Kgb:=zl ho Kgb (by have:=M1.out;have:=M2.out;have:=M3.out;omega);have Kgo:=zl ho Kgo (by have:=M1.out;have:=M2.out;have:=M3.out;omega);obtain ⟨m0,m1,m2,m3,m4⟩:=zz5 Kgb.out;clear hk ho))
  | (go_at_call 36;go_must (refine (HCL.out g A4 c4 _ HB.out Kg.out HC4.out hc4).mono ?_;rintro e w10 ⟨v10,rfl,hv,ho⟩;obtain ⟨A5,c5,A6,c6,rfl,y1,y2,y3,y4⟩:=hv;have HB:=zh (ho.below HB.out HB.out.size (by have:=Lgo.out;have:=M3.out;omega));have Kgb:=zh (ho.blk Kgb.out (by have:=M1.out;have:=M2.out;have:=M3.out;omega));have Kgo:=zh (ho.blk Kgo.out (by have:=M1.out;have:=M2.out;have:=M3.out;omega));have Y3:=zh y3;have Y4:=zh y4;clear ho y3 y4 m0 m1 m2 m3 m4))
  | ((with_reducible refine gate_dst (N:=13) rfl ?_);go_must (refine zx HB (N:=13) (cs:=#[.string ⟨#[]⟩,.int .i64 0,.slice none 0 0,.slice none 0 0,.int .u64 0]) (t:=26) ?hr ?_;(case hr=>first | (go_simp;done) | (go_simp;rfl));intro gx w11 Kgx Lgx HB hbelgx hqgx;have M4:=zh (show go < gx by rw [hqgx];exact blk_lt Kgo.out);have Kgb:=zk Kgb hbelgx;have Kgo:=zk Kgo hbelgx;have Y3:=zc Y3 hbelgx;have Y4:=zc Y4 hbelgx;clear hbelgx hqgx))
  | ((with_reducible refine gate_store (t:=26) (p:=13) (v:=.tmp 36) rfl ?_);go_must (refine zs 26 (.tmp 13) (.tmp 36) gx 0 26 [.string kb.f0,.int .i64 kb.f1,.slice A5 kb.f2.length c5,.slice A6 kb.f3.length c6,.int .u64 kb.f4] Kgx isz_bucket ?_;intro w12 hk ho;have Y3:=zh (keepE Y3.out Kgx.out (bk_like _ _ _ _ _ _ _ _ _) ho.out);have Y4:=zh (keepU Y4.out Kgx.out (bk_like _ _ _ _ _ _ _ _ _) ho.out);have HB:=zo ho HB Lgx;have Kgb:=zl ho Kgb (by have:=M1.out;have:=M2.out;have:=M4.out;omega);have Kgo:=zl ho Kgo (by have:=M1.out;have:=M2.out;have:=M4.out;omega);obtain ⟨p0,p1,p2,p3,p4⟩:=zz5 Kgb.out;clear hk ho))
  | ((with_reducible refine gate_store (t:=26) (p:=6) (v:=.tmp 40) rfl ?_);go_must (refine zs 26 (.tmp 6) (.tmp 40) go 0 26 [.string b.f0,.int .i64 b.f1,.slice A2 b.f2.length c2,.slice A3 b.f3.length c3,.int .u64 b.f4] Kgo isz_bucket ?_;intro w13 hk ho;have HB:=zo ho HB Lgo;obtain ⟨z0,z1,z2,z3,z4⟩:=zz5 hk.out;clear hk ho)))
 refine bodyPost_ret (v:=.tuple #[.agg #[.string b.f0,.int .i64 b.f1,.slice A2 b.f2.length c2,.slice A3 b.f3.length c3,.int .u64 b.f4],.int .u32 0,.int .i64 ce]) (by simp [results,Tryz.results15,go_sem,z0,z1,z2,z3,z4]) rfl ?_
 exact ⟨_,rfl,⟨A2,c2,A3,c3,rfl,G2.out,G3.out,H2.out _ HB.out,H3.out _ HB.out⟩,HB.out⟩
theorem layB.walk (b : S26) (A2 A3 : Option Addr) (c2 c3 : Nat) (id : Int) (p : S40) (w : World) (h2 : Kd.C k56 w A2 b.f2.length b.f2) (g2 : b.f2.length ≤ c2) (h3 : Kd.C k101 w A3 b.f3.length b.f3) (g3 : b.f3.length ≤ c3) :
  Calls Tryz.prog 15 #[.agg #[.string b.f0,.int .i64 b.f1,.slice A2 b.f2.length c2,.slice A3 b.f3.length c3,.int .u64 b.f4],.int .u64 id,.agg #[.int .i64 p.f0,.string p.f1]] w (BkPost (layB b id p).1 [.int .u32 (layB b id p).2.1,.int .i64 (layB b id p).2.2] w):=by
 obtain ⟨⟨r3,tg,ar⟩,hr⟩ : ∃ r,layR b.f3 id p = r:=⟨_,rfl⟩
 obtain ⟨⟨kb,ce⟩,hce⟩ : ∃ c,closeR b ⟨b.f0,b.f1,b.f2,r3,b.f4⟩ (noR (!(ar == 0)) ar (openR b anyK)) = c:=⟨_,rfl⟩
 have e : layB b id p = if ce = 0 then (kb,tg,0) else (b,0,ce):=by
  unfold layB
  simp only [hr,hce]
 rw [e]
 by_cases hz : ce = 0
 ·rw [if_pos hz];exact lay_g b A2 A3 c2 c3 id p w h2 g2 h3 g3 r3 tg ar hr kb ce hce hz
 ·rw [if_neg hz];exact lay_n b A2 A3 c2 c3 id p w h2 g2 h3 g3 r3 tg ar hr kb ce hce hz
end
section
open Go.WideMaps Go.Maps
attribute [local go_sem] Oper.semAt_some
theorem whole_n00 (b : S26) (A2 A3 : Option Addr) (c2 c3 : Nat) (id : Int) (ps : List S43) (A : Option Addr) (c : Nat) (q : Int) (w : World) (h2 : Kd.C k56 w A2 b.f2.length b.f2) (g2 : b.f2.length ≤ c2) (h3 : Kd.C k101 w A3 b.f3.length b.f3) (g3 : b.f3.length ≤ c3) (hl : ps.length < 100) (h4 : Kd.C k43 w A ps.length ps) (e0 : Int) (he0 : openR b anyK = e0) (u : S101) (hf : findR b.f3 id = (u,0)) (data tx : ByteArray) (hw : wholeR u ps = (data,tx,0)) (e1 e2 : Int) (he1 : noR false 0 e0 = e1) (he2 : noR false 0 e1 = e2) (hz : e2 ≠ 0) :
  Calls Tryz.prog 17 #[.agg #[.string b.f0,.int .i64 b.f1,.slice A2 b.f2.length c2,.slice A3 b.f3.length c3,.int .u64 b.f4],.int .u64 id,.slice A ps.length c,.int .i64 q] w (BkPost b [.int .u64 0,.string ⟨#[]⟩,.int .i64 e2] w):=by
 have H2:=zh (fun (W : World) (h : Below w.heap.size w W)=>Kd.C_below h2 h)
 have H3:=zh (fun (W : World) (h : Below w.heap.size w W)=>Kd.C_below h3 h)
 have HOP:=zh (fun (W : World) (h : Below w.heap.size w W)=>open.walk b A2 A3 c2 c3 anyK W (Kd.C_below h2 h) g2 (Kd.C_below h3 h) g3)
 rw [he0] at HOP
 have HFD:=zh (fun (W : World) (h : Below w.heap.size w W)=>find.walk A3 c3 b.f3 id W (Kd.C_below h3 h) g3)
 unfold FindPost at HFD
 rw [hf] at HFD
 dsimp only at HFD
 have HWH:=zh (fun (A7 : Option Addr) (c7 : Nat) (W : World) (hW : Below w.heap.size w W) (hC : Kd.C k40 W A7 u.f2.length u.f2) (hc : u.f2.length ≤ c7)=>whole.walk u A7 c7 A c ps W hl hC hc (Kd.C_below h4 hW))
 rw [hw] at HWH
 unfold wholeV at HWH
 dsimp only at HWH
 have HN1:=zh (fun (g : Nat) (W : World) hW=>no.walk g (.string b.f0) (.int .i64 b.f1) (.slice A2 b.f2.length c2) (.slice A3 b.f3.length c3) (.int .u64 b.f4) e0 0 false W hW)
 rw [he1] at HN1
 have HN2:=zh (fun (g : Nat) (W : World) hW=>no.walk g (.string b.f0) (.int .i64 b.f1) (.slice A2 b.f2.length c2) (.slice A3 b.f3.length c3) (.int .u64 b.f4) e1 0 false W hW)
 rw [he2] at HN2
 have q2 : (e2 == 0) = false:=beq_eq_false_iff_ne.2 hz
 have r2 : (e2 != 0) = true:=by rw [bne,q2];rfl
 have G2:=zh g2
 have G3:=zh g3
 have HB:=zh (Below.refl w.heap.size w)
 clear h2 h3 g2 g3 h4 hl he0 hf hw he1 he2 hz
 go_enter Tryz.func17,Tryz.ntmps17
 go_wp2_with (first
  | ((with_reducible refine gate_dst (N:=4) rfl ?_);go_must (refine zx HB (N:=4) (cs:=#[.string b.f0,.int .i64 b.f1,.slice A2 b.f2.length c2,.slice A3 b.f3.length c3,.int .u64 b.f4]) (t:=26) ?hr ?_;(case hr=>first | (go_simp;done) | (go_simp;rfl));intro gb w1 Kgb Lgb HB hbelgb hqgb;clear hbelgb hqgb))
  | ((with_reducible refine gate_dst (N:=8) rfl ?_);go_must (refine zx HB (N:=8) (cs:=#[.string ⟨#[]⟩,.int .i64 0,.slice none 0 0,.slice none 0 0,.int .u64 0]) (t:=26) ?hr ?_;(case hr=>first | (go_simp;done) | (go_simp;rfl));intro go w3 Kgo Lgo HB hbelgo hqgo;have M2:=zh (show gb < go by rw [hqgo];exact blk_lt Kgb.out);have Kgb:=zk Kgb hbelgo;obtain ⟨a0,a1,a2,a3,a4⟩:=zz5 Kgb.out;clear hbelgo hqgo))
  | (go_at_call 32;go_must (refine (HOP.out _ HB.out).mono ?_;rintro e w4 ⟨g,rfl,hgl,hk,hb⟩;have Kg:=hk;have M3:=zh (show go < g from Nat.lt_of_lt_of_le (blk_lt Kgo.out) hgl);have HB:=keepB HB hb.out;have Kgb:=zk Kgb hb.out;have Kgo:=zk Kgo hb.out;have k3:=zb Kg.out 3 (.slice A3 b.f3.length c3);clear hk hb hgl a0 a1 a2 a3 a4))
  | (go_at_call 44;go_must (refine (HFD.out _ HB.out).mono ?_;rintro e w5 ⟨A7,c7,rfl,hc7,hC5,hb⟩;have HC5:=zh hC5;have HG5:=zh hc7;have HB:=keepB HB hb;have Kgb:=zk Kgb hb;have Kgo:=zk Kgo hb;have Kg:=zk Kg hb;clear hb hC5 hc7 k3))
  | ((with_reducible refine gate_dst (N:=13) rfl ?_);go_must (refine zx HB (N:=13) (cs:=#[.int .u64 0,.string ⟨#[]⟩,.slice none 0 0]) (t:=101) ?hr ?_;(case hr=>first | (go_simp;done) | (go_simp;rfl));intro gu w6 Kgu Lgu HB hbelgu hqgu;have M4:=zh (show g < gu by rw [hqgu];exact blk_lt Kg.out);have HD:=zh hbelgu;have LD5:=zh (show w5.heap.size ≤ gu by rw [hqgu];exact Nat.le_refl _);have Kgb:=zk Kgb hbelgu;have Kgo:=zk Kgo hbelgu;have Kg:=zk Kg hbelgu;clear hbelgu hqgu))
  | ((with_reducible refine gate_store (t:=101) (p:=13) (v:=.tmp 29) rfl ?_);go_must (refine zs 101 (.tmp 13) (.tmp 29) gu 0 101 [.int .u64 u.f0,.string u.f1,.slice A7 u.f2.length c7] Kgu (by kernel_rfl) ?_;intro w7 hk ho;have HC5:=zc HC5 (ho.out.below HD.out HD.out.size LD5.out);have Kgu : Hid (w7.heap[gu]? = some (.cells #[.int .u64 u.f0,.string u.f1,.slice A7 u.f2.length c7] 101 (0,0))):=hk;have HB:=zo ho HB Lgu;have Kgb:=zl ho Kgb (by have:=M2.out;have:=M3.out;have:=M4.out;omega);have Kgo:=zl ho Kgo (by have:=M2.out;have:=M3.out;have:=M4.out;omega);have Kg:=zl ho Kg (by have:=M2.out;have:=M3.out;have:=M4.out;omega);have MK1:=zh True.intro;clear HD LD5;clear hk ho))
  | (go_at_call 45;go_must (first
   | (clear MK1;refine (HN1.out g _ Kg.out).mono ?_;rintro e w8 ⟨rfl,hk,ho⟩;have HC5:=zh (keepPt HC5.out Kg.out (work_like b.f0 b.f1 A2 b.f2.length c2 A3 b.f3.length c3 b.f4 e0) ho.out);have Kg:=hk;have HB:=zh (ho.out.below HB.out HB.out.size (by have:=Lgo.out;have:=M3.out;omega));have Kgb:=zl ho Kgb (by have:=M2.out;have:=M3.out;have:=M4.out;omega);have Kgo:=zl ho Kgo (by have:=M2.out;have:=M3.out;have:=M4.out;omega);have Kgu:=zl ho Kgu (by have:=M2.out;have:=M3.out;have:=M4.out;omega);obtain ⟨u0,u1,u2⟩:=zz3 Kgu.out;have MK2:=zh True.intro;clear hk ho)
   | (clear MK2;refine (HN2.out g _ Kg.out).mono ?_;rintro e w8 ⟨rfl,hk,ho⟩;have HC5:=zh (keepPt HC5.out Kg.out (work_like b.f0 b.f1 A2 b.f2.length c2 A3 b.f3.length c3 b.f4 e1) ho.out);have Kg:=hk;have HB:=zh (ho.out.below HB.out HB.out.size (by have:=Lgo.out;have:=M3.out;omega));have Kgb:=zl ho Kgb (by have:=M2.out;have:=M3.out;have:=M4.out;omega);have Kgo:=zl ho Kgo (by have:=M2.out;have:=M3.out;have:=M4.out;omega);have Kgu:=zl ho Kgu (by have:=M2.out;have:=M3.out;have:=M4.out;omega);have k5:=zb Kg.out 5 (.int .i64 e2);clear hk ho)))
  | (go_at_call 46;go_must (refine (HWH.out A7 c7 _ HB.out HC5.out HG5.out).mono ?_;rintro e w9 ⟨rfl,hb⟩;have HC5:=zc HC5 hb;have HB:=keepB HB hb;have Kgb:=zk Kgb hb;have Kgo:=zk Kgo hb;have Kg:=zk Kg hb;have Kgu:=zk Kgu hb;clear hb u0 u1 u2)))
 refine wp_region_held_drew (S:=fun W=>W.heap[g]? = some (.cells #[.string b.f0,.int .i64 b.f1,.slice A2 b.f2.length c2,.slice A3 b.f3.length c3,.int .u64 b.f4,.int .i64 e2] 87 (0,0)) ∧ W.cell? ⟨g,5,none⟩ = some (.int .i64 e2) ∧ W.cell? ⟨gb,0,none⟩ = some (.string b.f0) ∧ W.cell? ⟨gb,1,none⟩ = some (.int .i64 b.f1) ∧ W.cell? ⟨gb,2,none⟩ = some (.slice A2 b.f2.length c2) ∧ W.cell? ⟨gb,3,none⟩ = some (.slice A3 b.f3.length c3) ∧ W.cell? ⟨gb,4,none⟩ = some (.int .u64 b.f4) ∧ W.heap[gb]? = some (.cells #[.string b.f0,.int .i64 b.f1,.slice A2 b.f2.length c2,.slice A3 b.f3.length c3,.int .u64 b.f4] 26 (0,0)) ∧ (∃ q0 q1 q2 q3 q4,W.heap[go]? = some (.cells #[q0,q1,q2,q3,q4] 26 (0,0))) ∧ Below w.heap.size w W) (by kernel_rfl) ?_ (fun hHeld=>?_)
 ·exact ⟨blk_drew Kg.out,(blk_cell (blk_drew Kg.out) 5).trans rfl,blk_cell (blk_drew Kgb.out) 0,blk_cell (blk_drew Kgb.out) 1,blk_cell (blk_drew Kgb.out) 2,blk_cell (blk_drew Kgb.out) 3,blk_cell (blk_drew Kgb.out) 4,blk_drew Kgb.out,⟨_,_,_,_,_,blk_drew Kgo.out⟩,HB.out.drew⟩
 clear Kg Kgo Kgb Kgu HB k5 HC5
 refine zt 0 (v:=?v0g1) ?y0g1 ?r0g1
 case y0g1=>(rintro w ⟨s0,s1,s2,s3,s4,s5,s6,s7,s8,s9⟩;go_simp;try with_reducible rfl)
 try simp only [zA,zB,zC,Act.put,zD,zE,zF]
 refine zt 1 (v:=?v1g1) ?y1g1 ?r1g1
 case y1g1=>(rintro w ⟨s0,s1,s2,s3,s4,s5,s6,s7,s8,s9⟩;go_simp;try with_reducible rfl)
 try simp only [zA,zB,zC,Act.put,zD,zE,zF]
 refine zt 2 (v:=?v2g1) ?y2g1 ?r2g1
 case y2g1=>(rintro w ⟨s0,s1,s2,s3,s4,s5,s6,s7,s8,s9⟩;go_simp;try with_reducible rfl)
 try simp only [zA,zB,zC,Act.put,zD,zE,zF]
 refine zt 3 (v:=?v3g1) ?y3g1 ?r3g1
 case y3g1=>(rintro w ⟨s0,s1,s2,s3,s4,s5,s6,s7,s8,s9⟩;go_simp;try with_reducible rfl)
 try simp only [zA,zB,zC,Act.put,zD,zE,zF]
 refine zt 4 (v:=?v4g1) ?y4g1 ?r4g1
 case y4g1=>(rintro w ⟨s0,s1,s2,s3,s4,s5,s6,s7,s8,s9⟩;go_simp;try with_reducible rfl)
 try simp only [zA,zB,zC,Act.put,zD,zE,zF]
 refine wpAnyH_ready (rs:=[5]) (by kernel_rfl) (by simp) ?_
 refine AllReadyH.cons (o:=_) rfl (fun K hK=>?_) AllReadyH.nil
 rw [if_pos (by rfl)]
 obtain ⟨s0,s1,s2,s3,s4,s5,s6,s7,s8,s9⟩:=hHeld
 obtain ⟨q0,q1,q2,q3,q4,s8⟩:=s8
 refine wp_store_row rfl 26 (.tmp 8) (.tmp 69) rfl go 0 _ 26 (.agg #[.string b.f0,.int .i64 b.f1,.slice A2 b.f2.length c2,.slice A3 b.f3.length c3,.int .u64 b.f4]) [.string b.f0,.int .i64 b.f1,.slice A2 b.f2.length c2,.slice A3 b.f3.length c3,.int .u64 b.f4] rfl rfl s8 rfl isz_bucket (by show 0 + 5 ≤ 5;decide) (by simp [Value.oneCell']) ?_
 intro w14 hk ho
 have KZ : Hid (w14.heap[go]? = some (.cells #[.string b.f0,.int .i64 b.f1,.slice A2 b.f2.length c2,.slice A3 b.f3.length c3,.int .u64 b.f4] 26 (0,0))):=hk
 have HBZ:=zh (ho.out.below s9 s9.size Lgo.out)
 have KG2:=zh (ho.out.blk s0 (by have:=M3.out;omega))
 have KB2:=zh (ho.out.blk s7 (by have:=M2.out;omega))
 refine hK.out _ _ ⟨KG2.out,zj KG2 5,zj KB2 0,zj KB2 1,zj KB2 2,zj KB2 3,zj KB2 4,KB2.out,⟨_,_,_,_,_,hk.out⟩,HBZ.out⟩ (fun hHeld=>?_)
 clear hK K hk ho q0 q1 q2 q3 q4 s0 s1 s2 s3 s4 s5 s6 s7 s8 s9
 try simp only [zA,zB,zC,Act.put,zD,zE,zF]
 refine zt 6 (v:=?v6g1) ?y6g1 ?r6g1
 case y6g1=>(rintro w ⟨s0,s1,s2,s3,s4,s5,s6,s7,s8,s9⟩;go_simp;try with_reducible rfl)
 try simp only [zA,zB,zC,Act.put,zD,zE,zF]
 refine zt 7 (v:=?v7g1) ?y7g1 ?r7g1
 case y7g1=>(rintro w ⟨s0,s1,s2,s3,s4,s5,s6,s7,s8,s9⟩;go_simp;try with_reducible rfl)
 try simp only [zA,zB,zC,Act.put,zD,zE,zF]
 refine zt 8 (v:=?v8g1) ?y8g1 ?r8g1
 case y8g1=>(rintro w ⟨s0,s1,s2,s3,s4,s5,s6,s7,s8,s9⟩;go_simp;try with_reducible rfl)
 try simp only [zA,zB,zC,Act.put,zD,zE,zF]
 refine wpAnyH_done (by kernel_rfl) ?_ _
 go_wp2
 have z0:=zb KZ.out 0 (.string b.f0)
 have z1:=zb KZ.out 1 (.int .i64 b.f1)
 have z2:=zb KZ.out 2 (.slice A2 b.f2.length c2)
 have z3:=zb KZ.out 3 (.slice A3 b.f3.length c3)
 have z4:=zb KZ.out 4 (.int .u64 b.f4)
 refine bodyPost_ret (v:=.tuple #[.agg #[.string b.f0,.int .i64 b.f1,.slice A2 b.f2.length c2,.slice A3 b.f3.length c3,.int .u64 b.f4],.int .u64 0,.string ⟨#[]⟩,.int .i64 e2]) (by simp [results,Tryz.results17,go_sem,z0,z1,z2,z3,z4]) rfl ?_
 exact ⟨_,rfl,⟨A2,c2,A3,c3,rfl,G2.out,G3.out,H2.out _ HBZ.out,H3.out _ HBZ.out⟩,HBZ.out⟩
theorem whole_n01 (b : S26) (A2 A3 : Option Addr) (c2 c3 : Nat) (id : Int) (ps : List S43) (A : Option Addr) (c : Nat) (q : Int) (w : World) (h2 : Kd.C k56 w A2 b.f2.length b.f2) (g2 : b.f2.length ≤ c2) (h3 : Kd.C k101 w A3 b.f3.length b.f3) (g3 : b.f3.length ≤ c3) (hl : ps.length < 100) (h4 : Kd.C k43 w A ps.length ps) (e0 : Int) (he0 : openR b anyK = e0) (u : S101) (hf : findR b.f3 id = (u,0)) (data tx : ByteArray) (we : Int) (hwe : we ≠ 0) (hw : wholeR u ps = (data,tx,we)) (e1 e2 : Int) (he1 : noR false 0 e0 = e1) (he2 : noR true we e1 = e2) (hz : e2 ≠ 0) :
  Calls Tryz.prog 17 #[.agg #[.string b.f0,.int .i64 b.f1,.slice A2 b.f2.length c2,.slice A3 b.f3.length c3,.int .u64 b.f4],.int .u64 id,.slice A ps.length c,.int .i64 q] w (BkPost b [.int .u64 0,.string ⟨#[]⟩,.int .i64 e2] w):=by
 have H2:=zh (fun (W : World) (h : Below w.heap.size w W)=>Kd.C_below h2 h)
 have H3:=zh (fun (W : World) (h : Below w.heap.size w W)=>Kd.C_below h3 h)
 have HOP:=zh (fun (W : World) (h : Below w.heap.size w W)=>open.walk b A2 A3 c2 c3 anyK W (Kd.C_below h2 h) g2 (Kd.C_below h3 h) g3)
 rw [he0] at HOP
 have HFD:=zh (fun (W : World) (h : Below w.heap.size w W)=>find.walk A3 c3 b.f3 id W (Kd.C_below h3 h) g3)
 unfold FindPost at HFD
 rw [hf] at HFD
 dsimp only at HFD
 have HWH:=zh (fun (A7 : Option Addr) (c7 : Nat) (W : World) (hW : Below w.heap.size w W) (hC : Kd.C k40 W A7 u.f2.length u.f2) (hc : u.f2.length ≤ c7)=>whole.walk u A7 c7 A c ps W hl hC hc (Kd.C_below h4 hW))
 rw [hw] at HWH
 unfold wholeV at HWH
 dsimp only at HWH
 have HN1:=zh (fun (g : Nat) (W : World) hW=>no.walk g (.string b.f0) (.int .i64 b.f1) (.slice A2 b.f2.length c2) (.slice A3 b.f3.length c3) (.int .u64 b.f4) e0 0 false W hW)
 rw [he1] at HN1
 have HN2:=zh (fun (g : Nat) (W : World) hW=>no.walk g (.string b.f0) (.int .i64 b.f1) (.slice A2 b.f2.length c2) (.slice A3 b.f3.length c3) (.int .u64 b.f4) e1 we true W hW)
 rw [he2] at HN2
 have q1 : (we == 0) = false:=beq_eq_false_iff_ne.2 hwe
 have r1 : (we != 0) = true:=by rw [bne,q1];rfl
 have q2 : (e2 == 0) = false:=beq_eq_false_iff_ne.2 hz
 have r2 : (e2 != 0) = true:=by rw [bne,q2];rfl
 have G2:=zh g2
 have G3:=zh g3
 have HB:=zh (Below.refl w.heap.size w)
 clear h2 h3 g2 g3 h4 hl he0 hf hw he1 he2 hz
 go_enter Tryz.func17,Tryz.ntmps17
 go_wp2_with (first
  | ((with_reducible refine gate_dst (N:=4) rfl ?_);go_must (refine zx HB (N:=4) (cs:=#[.string b.f0,.int .i64 b.f1,.slice A2 b.f2.length c2,.slice A3 b.f3.length c3,.int .u64 b.f4]) (t:=26) ?hr ?_;(case hr=>first | (go_simp;done) | (go_simp;rfl));intro gb w1 Kgb Lgb HB hbelgb hqgb;clear hbelgb hqgb))
  | ((with_reducible refine gate_dst (N:=8) rfl ?_);go_must (refine zx HB (N:=8) (cs:=#[.string ⟨#[]⟩,.int .i64 0,.slice none 0 0,.slice none 0 0,.int .u64 0]) (t:=26) ?hr ?_;(case hr=>first | (go_simp;done) | (go_simp;rfl));intro go w3 Kgo Lgo HB hbelgo hqgo;have M2:=zh (show gb < go by rw [hqgo];exact blk_lt Kgb.out);have Kgb:=zk Kgb hbelgo;obtain ⟨a0,a1,a2,a3,a4⟩:=zz5 Kgb.out;clear hbelgo hqgo))
  | (go_at_call 32;go_must (refine (HOP.out _ HB.out).mono ?_;rintro e w4 ⟨g,rfl,hgl,hk,hb⟩;have Kg:=hk;have M3:=zh (show go < g from Nat.lt_of_lt_of_le (blk_lt Kgo.out) hgl);have HB:=keepB HB hb.out;have Kgb:=zk Kgb hb.out;have Kgo:=zk Kgo hb.out;have k3:=zb Kg.out 3 (.slice A3 b.f3.length c3);clear hk hb hgl a0 a1 a2 a3 a4))
  | (go_at_call 44;go_must (refine (HFD.out _ HB.out).mono ?_;rintro e w5 ⟨A7,c7,rfl,hc7,hC5,hb⟩;have HC5:=zh hC5;have HG5:=zh hc7;have HB:=keepB HB hb;have Kgb:=zk Kgb hb;have Kgo:=zk Kgo hb;have Kg:=zk Kg hb;clear hb hC5 hc7 k3))
  | ((with_reducible refine gate_dst (N:=13) rfl ?_);go_must (refine zx HB (N:=13) (cs:=#[.int .u64 0,.string ⟨#[]⟩,.slice none 0 0]) (t:=101) ?hr ?_;(case hr=>first | (go_simp;done) | (go_simp;rfl));intro gu w6 Kgu Lgu HB hbelgu hqgu;have M4:=zh (show g < gu by rw [hqgu];exact blk_lt Kg.out);have HD:=zh hbelgu;have LD5:=zh (show w5.heap.size ≤ gu by rw [hqgu];exact Nat.le_refl _);have Kgb:=zk Kgb hbelgu;have Kgo:=zk Kgo hbelgu;have Kg:=zk Kg hbelgu;clear hbelgu hqgu))
  | ((with_reducible refine gate_store (t:=101) (p:=13) (v:=.tmp 29) rfl ?_);go_must (refine zs 101 (.tmp 13) (.tmp 29) gu 0 101 [.int .u64 u.f0,.string u.f1,.slice A7 u.f2.length c7] Kgu (by kernel_rfl) ?_;intro w7 hk ho;have HC5:=zc HC5 (ho.out.below HD.out HD.out.size LD5.out);have Kgu : Hid (w7.heap[gu]? = some (.cells #[.int .u64 u.f0,.string u.f1,.slice A7 u.f2.length c7] 101 (0,0))):=hk;have HB:=zo ho HB Lgu;have Kgb:=zl ho Kgb (by have:=M2.out;have:=M3.out;have:=M4.out;omega);have Kgo:=zl ho Kgo (by have:=M2.out;have:=M3.out;have:=M4.out;omega);have Kg:=zl ho Kg (by have:=M2.out;have:=M3.out;have:=M4.out;omega);have MK1:=zh True.intro;clear HD LD5;clear hk ho))
  | (go_at_call 45;go_must (first
   | (clear MK1;refine (HN1.out g _ Kg.out).mono ?_;rintro e w8 ⟨rfl,hk,ho⟩;have HC5:=zh (keepPt HC5.out Kg.out (work_like b.f0 b.f1 A2 b.f2.length c2 A3 b.f3.length c3 b.f4 e0) ho.out);have Kg:=hk;have HB:=zh (ho.out.below HB.out HB.out.size (by have:=Lgo.out;have:=M3.out;omega));have Kgb:=zl ho Kgb (by have:=M2.out;have:=M3.out;have:=M4.out;omega);have Kgo:=zl ho Kgo (by have:=M2.out;have:=M3.out;have:=M4.out;omega);have Kgu:=zl ho Kgu (by have:=M2.out;have:=M3.out;have:=M4.out;omega);obtain ⟨u0,u1,u2⟩:=zz3 Kgu.out;have MK2:=zh True.intro;clear hk ho)
   | (clear MK2;refine (HN2.out g _ Kg.out).mono ?_;rintro e w8 ⟨rfl,hk,ho⟩;have HC5:=zh (keepPt HC5.out Kg.out (work_like b.f0 b.f1 A2 b.f2.length c2 A3 b.f3.length c3 b.f4 e1) ho.out);have Kg:=hk;have HB:=zh (ho.out.below HB.out HB.out.size (by have:=Lgo.out;have:=M3.out;omega));have Kgb:=zl ho Kgb (by have:=M2.out;have:=M3.out;have:=M4.out;omega);have Kgo:=zl ho Kgo (by have:=M2.out;have:=M3.out;have:=M4.out;omega);have Kgu:=zl ho Kgu (by have:=M2.out;have:=M3.out;have:=M4.out;omega);have k5:=zb Kg.out 5 (.int .i64 e2);clear hk ho)))
  | (go_at_call 46;go_must (refine (HWH.out A7 c7 _ HB.out HC5.out HG5.out).mono ?_;rintro e w9 ⟨rfl,hb⟩;have HC5:=zc HC5 hb;have HB:=keepB HB hb;have Kgb:=zk Kgb hb;have Kgo:=zk Kgo hb;have Kg:=zk Kg hb;have Kgu:=zk Kgu hb;clear hb u0 u1 u2)))
 refine wp_region_held_drew (S:=fun W=>W.heap[g]? = some (.cells #[.string b.f0,.int .i64 b.f1,.slice A2 b.f2.length c2,.slice A3 b.f3.length c3,.int .u64 b.f4,.int .i64 e2] 87 (0,0)) ∧ W.cell? ⟨g,5,none⟩ = some (.int .i64 e2) ∧ W.cell? ⟨gb,0,none⟩ = some (.string b.f0) ∧ W.cell? ⟨gb,1,none⟩ = some (.int .i64 b.f1) ∧ W.cell? ⟨gb,2,none⟩ = some (.slice A2 b.f2.length c2) ∧ W.cell? ⟨gb,3,none⟩ = some (.slice A3 b.f3.length c3) ∧ W.cell? ⟨gb,4,none⟩ = some (.int .u64 b.f4) ∧ W.heap[gb]? = some (.cells #[.string b.f0,.int .i64 b.f1,.slice A2 b.f2.length c2,.slice A3 b.f3.length c3,.int .u64 b.f4] 26 (0,0)) ∧ (∃ q0 q1 q2 q3 q4,W.heap[go]? = some (.cells #[q0,q1,q2,q3,q4] 26 (0,0))) ∧ Below w.heap.size w W) (by kernel_rfl) ?_ (fun hHeld=>?_)
 ·exact ⟨blk_drew Kg.out,(blk_cell (blk_drew Kg.out) 5).trans rfl,blk_cell (blk_drew Kgb.out) 0,blk_cell (blk_drew Kgb.out) 1,blk_cell (blk_drew Kgb.out) 2,blk_cell (blk_drew Kgb.out) 3,blk_cell (blk_drew Kgb.out) 4,blk_drew Kgb.out,⟨_,_,_,_,_,blk_drew Kgo.out⟩,HB.out.drew⟩
 clear Kg Kgo Kgb Kgu HB k5 HC5
 refine zt 0 (v:=?v0g2) ?y0g2 ?r0g2
 case y0g2=>(rintro w ⟨s0,s1,s2,s3,s4,s5,s6,s7,s8,s9⟩;go_simp;try with_reducible rfl)
 try simp only [zA,zB,zC,Act.put,zD,zE,zF]
 refine zt 1 (v:=?v1g2) ?y1g2 ?r1g2
 case y1g2=>(rintro w ⟨s0,s1,s2,s3,s4,s5,s6,s7,s8,s9⟩;go_simp;try with_reducible rfl)
 try simp only [zA,zB,zC,Act.put,zD,zE,zF]
 refine zt 2 (v:=?v2g2) ?y2g2 ?r2g2
 case y2g2=>(rintro w ⟨s0,s1,s2,s3,s4,s5,s6,s7,s8,s9⟩;go_simp;try with_reducible rfl)
 try simp only [zA,zB,zC,Act.put,zD,zE,zF]
 refine zt 3 (v:=?v3g2) ?y3g2 ?r3g2
 case y3g2=>(rintro w ⟨s0,s1,s2,s3,s4,s5,s6,s7,s8,s9⟩;go_simp;try with_reducible rfl)
 try simp only [zA,zB,zC,Act.put,zD,zE,zF]
 refine zt 4 (v:=?v4g2) ?y4g2 ?r4g2
 case y4g2=>(rintro w ⟨s0,s1,s2,s3,s4,s5,s6,s7,s8,s9⟩;go_simp;try with_reducible rfl)
 try simp only [zA,zB,zC,Act.put,zD,zE,zF]
 refine wpAnyH_ready (rs:=[5]) (by kernel_rfl) (by simp) ?_
 refine AllReadyH.cons (o:=_) rfl (fun K hK=>?_) AllReadyH.nil
 rw [if_pos (by rfl)]
 obtain ⟨s0,s1,s2,s3,s4,s5,s6,s7,s8,s9⟩:=hHeld
 obtain ⟨q0,q1,q2,q3,q4,s8⟩:=s8
 refine wp_store_row rfl 26 (.tmp 8) (.tmp 69) rfl go 0 _ 26 (.agg #[.string b.f0,.int .i64 b.f1,.slice A2 b.f2.length c2,.slice A3 b.f3.length c3,.int .u64 b.f4]) [.string b.f0,.int .i64 b.f1,.slice A2 b.f2.length c2,.slice A3 b.f3.length c3,.int .u64 b.f4] rfl rfl s8 rfl isz_bucket (by show 0 + 5 ≤ 5;decide) (by simp [Value.oneCell']) ?_
 intro w14 hk ho
 have KZ : Hid (w14.heap[go]? = some (.cells #[.string b.f0,.int .i64 b.f1,.slice A2 b.f2.length c2,.slice A3 b.f3.length c3,.int .u64 b.f4] 26 (0,0))):=hk
 have HBZ:=zh (ho.out.below s9 s9.size Lgo.out)
 have KG2:=zh (ho.out.blk s0 (by have:=M3.out;omega))
 have KB2:=zh (ho.out.blk s7 (by have:=M2.out;omega))
 refine hK.out _ _ ⟨KG2.out,zj KG2 5,zj KB2 0,zj KB2 1,zj KB2 2,zj KB2 3,zj KB2 4,KB2.out,⟨_,_,_,_,_,hk.out⟩,HBZ.out⟩ (fun hHeld=>?_)
 clear hK K hk ho q0 q1 q2 q3 q4 s0 s1 s2 s3 s4 s5 s6 s7 s8 s9
 try simp only [zA,zB,zC,Act.put,zD,zE,zF]
 refine zt 6 (v:=?v6g2) ?y6g2 ?r6g2
 case y6g2=>(rintro w ⟨s0,s1,s2,s3,s4,s5,s6,s7,s8,s9⟩;go_simp;try with_reducible rfl)
 try simp only [zA,zB,zC,Act.put,zD,zE,zF]
 refine zt 7 (v:=?v7g2) ?y7g2 ?r7g2
 case y7g2=>(rintro w ⟨s0,s1,s2,s3,s4,s5,s6,s7,s8,s9⟩;go_simp;try with_reducible rfl)
 try simp only [zA,zB,zC,Act.put,zD,zE,zF]
 refine zt 8 (v:=?v8g2) ?y8g2 ?r8g2
 case y8g2=>(rintro w ⟨s0,s1,s2,s3,s4,s5,s6,s7,s8,s9⟩;go_simp;try with_reducible rfl)
 try simp only [zA,zB,zC,Act.put,zD,zE,zF]
 refine wpAnyH_done (by kernel_rfl) ?_ _
 go_wp2
 have z0:=zb KZ.out 0 (.string b.f0)
 have z1:=zb KZ.out 1 (.int .i64 b.f1)
 have z2:=zb KZ.out 2 (.slice A2 b.f2.length c2)
 have z3:=zb KZ.out 3 (.slice A3 b.f3.length c3)
 have z4:=zb KZ.out 4 (.int .u64 b.f4)
 refine bodyPost_ret (v:=.tuple #[.agg #[.string b.f0,.int .i64 b.f1,.slice A2 b.f2.length c2,.slice A3 b.f3.length c3,.int .u64 b.f4],.int .u64 0,.string ⟨#[]⟩,.int .i64 e2]) (by simp [results,Tryz.results17,go_sem,z0,z1,z2,z3,z4]) rfl ?_
 exact ⟨_,rfl,⟨A2,c2,A3,c3,rfl,G2.out,G3.out,H2.out _ HBZ.out,H3.out _ HBZ.out⟩,HBZ.out⟩
theorem whole_n10 (b : S26) (A2 A3 : Option Addr) (c2 c3 : Nat) (id : Int) (ps : List S43) (A : Option Addr) (c : Nat) (q : Int) (w : World) (h2 : Kd.C k56 w A2 b.f2.length b.f2) (g2 : b.f2.length ≤ c2) (h3 : Kd.C k101 w A3 b.f3.length b.f3) (g3 : b.f3.length ≤ c3) (hl : ps.length < 100) (h4 : Kd.C k43 w A ps.length ps) (e0 : Int) (he0 : openR b anyK = e0) (u : S101) (fe : Int) (hfe : fe ≠ 0) (hf : findR b.f3 id = (u,fe)) (data tx : ByteArray) (hw : wholeR u ps = (data,tx,0)) (e1 e2 : Int) (he1 : noR true fe e0 = e1) (he2 : noR false 0 e1 = e2) (hz : e2 ≠ 0) :
  Calls Tryz.prog 17 #[.agg #[.string b.f0,.int .i64 b.f1,.slice A2 b.f2.length c2,.slice A3 b.f3.length c3,.int .u64 b.f4],.int .u64 id,.slice A ps.length c,.int .i64 q] w (BkPost b [.int .u64 0,.string ⟨#[]⟩,.int .i64 e2] w):=by
 have H2:=zh (fun (W : World) (h : Below w.heap.size w W)=>Kd.C_below h2 h)
 have H3:=zh (fun (W : World) (h : Below w.heap.size w W)=>Kd.C_below h3 h)
 have HOP:=zh (fun (W : World) (h : Below w.heap.size w W)=>open.walk b A2 A3 c2 c3 anyK W (Kd.C_below h2 h) g2 (Kd.C_below h3 h) g3)
 rw [he0] at HOP
 have HFD:=zh (fun (W : World) (h : Below w.heap.size w W)=>find.walk A3 c3 b.f3 id W (Kd.C_below h3 h) g3)
 unfold FindPost at HFD
 rw [hf] at HFD
 dsimp only at HFD
 have HWH:=zh (fun (A7 : Option Addr) (c7 : Nat) (W : World) (hW : Below w.heap.size w W) (hC : Kd.C k40 W A7 u.f2.length u.f2) (hc : u.f2.length ≤ c7)=>whole.walk u A7 c7 A c ps W hl hC hc (Kd.C_below h4 hW))
 rw [hw] at HWH
 unfold wholeV at HWH
 dsimp only at HWH
 have HN1:=zh (fun (g : Nat) (W : World) hW=>no.walk g (.string b.f0) (.int .i64 b.f1) (.slice A2 b.f2.length c2) (.slice A3 b.f3.length c3) (.int .u64 b.f4) e0 fe true W hW)
 rw [he1] at HN1
 have HN2:=zh (fun (g : Nat) (W : World) hW=>no.walk g (.string b.f0) (.int .i64 b.f1) (.slice A2 b.f2.length c2) (.slice A3 b.f3.length c3) (.int .u64 b.f4) e1 0 false W hW)
 rw [he2] at HN2
 have q0 : (fe == 0) = false:=beq_eq_false_iff_ne.2 hfe
 have r0 : (fe != 0) = true:=by rw [bne,q0];rfl
 have q2 : (e2 == 0) = false:=beq_eq_false_iff_ne.2 hz
 have r2 : (e2 != 0) = true:=by rw [bne,q2];rfl
 have G2:=zh g2
 have G3:=zh g3
 have HB:=zh (Below.refl w.heap.size w)
 clear h2 h3 g2 g3 h4 hl he0 hf hw he1 he2 hz
 go_enter Tryz.func17,Tryz.ntmps17
 go_wp2_with (first
  | ((with_reducible refine gate_dst (N:=4) rfl ?_);go_must (refine zx HB (N:=4) (cs:=#[.string b.f0,.int .i64 b.f1,.slice A2 b.f2.length c2,.slice A3 b.f3.length c3,.int .u64 b.f4]) (t:=26) ?hr ?_;(case hr=>first | (go_simp;done) | (go_simp;rfl));intro gb w1 Kgb Lgb HB hbelgb hqgb;clear hbelgb hqgb))
  | ((with_reducible refine gate_dst (N:=8) rfl ?_);go_must (refine zx HB (N:=8) (cs:=#[.string ⟨#[]⟩,.int .i64 0,.slice none 0 0,.slice none 0 0,.int .u64 0]) (t:=26) ?hr ?_;(case hr=>first | (go_simp;done) | (go_simp;rfl));intro go w3 Kgo Lgo HB hbelgo hqgo;have M2:=zh (show gb < go by rw [hqgo];exact blk_lt Kgb.out);have Kgb:=zk Kgb hbelgo;obtain ⟨a0,a1,a2,a3,a4⟩:=zz5 Kgb.out;clear hbelgo hqgo))
  | (go_at_call 32;go_must (refine (HOP.out _ HB.out).mono ?_;rintro e w4 ⟨g,rfl,hgl,hk,hb⟩;have Kg:=hk;have M3:=zh (show go < g from Nat.lt_of_lt_of_le (blk_lt Kgo.out) hgl);have HB:=keepB HB hb.out;have Kgb:=zk Kgb hb.out;have Kgo:=zk Kgo hb.out;have k3:=zb Kg.out 3 (.slice A3 b.f3.length c3);clear hk hb hgl a0 a1 a2 a3 a4))
  | (go_at_call 44;go_must (refine (HFD.out _ HB.out).mono ?_;rintro e w5 ⟨A7,c7,rfl,hc7,hC5,hb⟩;have HC5:=zh hC5;have HG5:=zh hc7;have HB:=keepB HB hb;have Kgb:=zk Kgb hb;have Kgo:=zk Kgo hb;have Kg:=zk Kg hb;clear hb hC5 hc7 k3))
  | ((with_reducible refine gate_dst (N:=13) rfl ?_);go_must (refine zx HB (N:=13) (cs:=#[.int .u64 0,.string ⟨#[]⟩,.slice none 0 0]) (t:=101) ?hr ?_;(case hr=>first | (go_simp;done) | (go_simp;rfl));intro gu w6 Kgu Lgu HB hbelgu hqgu;have M4:=zh (show g < gu by rw [hqgu];exact blk_lt Kg.out);have HD:=zh hbelgu;have LD5:=zh (show w5.heap.size ≤ gu by rw [hqgu];exact Nat.le_refl _);have Kgb:=zk Kgb hbelgu;have Kgo:=zk Kgo hbelgu;have Kg:=zk Kg hbelgu;clear hbelgu hqgu))
  | ((with_reducible refine gate_store (t:=101) (p:=13) (v:=.tmp 29) rfl ?_);go_must (refine zs 101 (.tmp 13) (.tmp 29) gu 0 101 [.int .u64 u.f0,.string u.f1,.slice A7 u.f2.length c7] Kgu (by kernel_rfl) ?_;intro w7 hk ho;have HC5:=zc HC5 (ho.out.below HD.out HD.out.size LD5.out);have Kgu : Hid (w7.heap[gu]? = some (.cells #[.int .u64 u.f0,.string u.f1,.slice A7 u.f2.length c7] 101 (0,0))):=hk;have HB:=zo ho HB Lgu;have Kgb:=zl ho Kgb (by have:=M2.out;have:=M3.out;have:=M4.out;omega);have Kgo:=zl ho Kgo (by have:=M2.out;have:=M3.out;have:=M4.out;omega);have Kg:=zl ho Kg (by have:=M2.out;have:=M3.out;have:=M4.out;omega);have MK1:=zh True.intro;clear HD LD5;clear hk ho))
  | (go_at_call 45;go_must (first
   | (clear MK1;refine (HN1.out g _ Kg.out).mono ?_;rintro e w8 ⟨rfl,hk,ho⟩;have HC5:=zh (keepPt HC5.out Kg.out (work_like b.f0 b.f1 A2 b.f2.length c2 A3 b.f3.length c3 b.f4 e0) ho.out);have Kg:=hk;have HB:=zh (ho.out.below HB.out HB.out.size (by have:=Lgo.out;have:=M3.out;omega));have Kgb:=zl ho Kgb (by have:=M2.out;have:=M3.out;have:=M4.out;omega);have Kgo:=zl ho Kgo (by have:=M2.out;have:=M3.out;have:=M4.out;omega);have Kgu:=zl ho Kgu (by have:=M2.out;have:=M3.out;have:=M4.out;omega);obtain ⟨u0,u1,u2⟩:=zz3 Kgu.out;have MK2:=zh True.intro;clear hk ho)
   | (clear MK2;refine (HN2.out g _ Kg.out).mono ?_;rintro e w8 ⟨rfl,hk,ho⟩;have HC5:=zh (keepPt HC5.out Kg.out (work_like b.f0 b.f1 A2 b.f2.length c2 A3 b.f3.length c3 b.f4 e1) ho.out);have Kg:=hk;have HB:=zh (ho.out.below HB.out HB.out.size (by have:=Lgo.out;have:=M3.out;omega));have Kgb:=zl ho Kgb (by have:=M2.out;have:=M3.out;have:=M4.out;omega);have Kgo:=zl ho Kgo (by have:=M2.out;have:=M3.out;have:=M4.out;omega);have Kgu:=zl ho Kgu (by have:=M2.out;have:=M3.out;have:=M4.out;omega);have k5:=zb Kg.out 5 (.int .i64 e2);clear hk ho)))
  | (go_at_call 46;go_must (refine (HWH.out A7 c7 _ HB.out HC5.out HG5.out).mono ?_;rintro e w9 ⟨rfl,hb⟩;have HC5:=zc HC5 hb;have HB:=keepB HB hb;have Kgb:=zk Kgb hb;have Kgo:=zk Kgo hb;have Kg:=zk Kg hb;have Kgu:=zk Kgu hb;clear hb u0 u1 u2)))
 refine wp_region_held_drew (S:=fun W=>W.heap[g]? = some (.cells #[.string b.f0,.int .i64 b.f1,.slice A2 b.f2.length c2,.slice A3 b.f3.length c3,.int .u64 b.f4,.int .i64 e2] 87 (0,0)) ∧ W.cell? ⟨g,5,none⟩ = some (.int .i64 e2) ∧ W.cell? ⟨gb,0,none⟩ = some (.string b.f0) ∧ W.cell? ⟨gb,1,none⟩ = some (.int .i64 b.f1) ∧ W.cell? ⟨gb,2,none⟩ = some (.slice A2 b.f2.length c2) ∧ W.cell? ⟨gb,3,none⟩ = some (.slice A3 b.f3.length c3) ∧ W.cell? ⟨gb,4,none⟩ = some (.int .u64 b.f4) ∧ W.heap[gb]? = some (.cells #[.string b.f0,.int .i64 b.f1,.slice A2 b.f2.length c2,.slice A3 b.f3.length c3,.int .u64 b.f4] 26 (0,0)) ∧ (∃ q0 q1 q2 q3 q4,W.heap[go]? = some (.cells #[q0,q1,q2,q3,q4] 26 (0,0))) ∧ Below w.heap.size w W) (by kernel_rfl) ?_ (fun hHeld=>?_)
 ·exact ⟨blk_drew Kg.out,(blk_cell (blk_drew Kg.out) 5).trans rfl,blk_cell (blk_drew Kgb.out) 0,blk_cell (blk_drew Kgb.out) 1,blk_cell (blk_drew Kgb.out) 2,blk_cell (blk_drew Kgb.out) 3,blk_cell (blk_drew Kgb.out) 4,blk_drew Kgb.out,⟨_,_,_,_,_,blk_drew Kgo.out⟩,HB.out.drew⟩
 clear Kg Kgo Kgb Kgu HB k5 HC5
 refine zt 0 (v:=?v0g3) ?y0g3 ?r0g3
 case y0g3=>(rintro w ⟨s0,s1,s2,s3,s4,s5,s6,s7,s8,s9⟩;go_simp;try with_reducible rfl)
 try simp only [zA,zB,zC,Act.put,zD,zE,zF]
 refine zt 1 (v:=?v1g3) ?y1g3 ?r1g3
 case y1g3=>(rintro w ⟨s0,s1,s2,s3,s4,s5,s6,s7,s8,s9⟩;go_simp;try with_reducible rfl)
 try simp only [zA,zB,zC,Act.put,zD,zE,zF]
 refine zt 2 (v:=?v2g3) ?y2g3 ?r2g3
 case y2g3=>(rintro w ⟨s0,s1,s2,s3,s4,s5,s6,s7,s8,s9⟩;go_simp;try with_reducible rfl)
 try simp only [zA,zB,zC,Act.put,zD,zE,zF]
 refine zt 3 (v:=?v3g3) ?y3g3 ?r3g3
 case y3g3=>(rintro w ⟨s0,s1,s2,s3,s4,s5,s6,s7,s8,s9⟩;go_simp;try with_reducible rfl)
 try simp only [zA,zB,zC,Act.put,zD,zE,zF]
 refine zt 4 (v:=?v4g3) ?y4g3 ?r4g3
 case y4g3=>(rintro w ⟨s0,s1,s2,s3,s4,s5,s6,s7,s8,s9⟩;go_simp;try with_reducible rfl)
 try simp only [zA,zB,zC,Act.put,zD,zE,zF]
 refine wpAnyH_ready (rs:=[5]) (by kernel_rfl) (by simp) ?_
 refine AllReadyH.cons (o:=_) rfl (fun K hK=>?_) AllReadyH.nil
 rw [if_pos (by rfl)]
 obtain ⟨s0,s1,s2,s3,s4,s5,s6,s7,s8,s9⟩:=hHeld
 obtain ⟨q0,q1,q2,q3,q4,s8⟩:=s8
 refine wp_store_row rfl 26 (.tmp 8) (.tmp 69) rfl go 0 _ 26 (.agg #[.string b.f0,.int .i64 b.f1,.slice A2 b.f2.length c2,.slice A3 b.f3.length c3,.int .u64 b.f4]) [.string b.f0,.int .i64 b.f1,.slice A2 b.f2.length c2,.slice A3 b.f3.length c3,.int .u64 b.f4] rfl rfl s8 rfl isz_bucket (by show 0 + 5 ≤ 5;decide) (by simp [Value.oneCell']) ?_
 intro w14 hk ho
 have KZ : Hid (w14.heap[go]? = some (.cells #[.string b.f0,.int .i64 b.f1,.slice A2 b.f2.length c2,.slice A3 b.f3.length c3,.int .u64 b.f4] 26 (0,0))):=hk
 have HBZ:=zh (ho.out.below s9 s9.size Lgo.out)
 have KG2:=zh (ho.out.blk s0 (by have:=M3.out;omega))
 have KB2:=zh (ho.out.blk s7 (by have:=M2.out;omega))
 refine hK.out _ _ ⟨KG2.out,zj KG2 5,zj KB2 0,zj KB2 1,zj KB2 2,zj KB2 3,zj KB2 4,KB2.out,⟨_,_,_,_,_,hk.out⟩,HBZ.out⟩ (fun hHeld=>?_)
 clear hK K hk ho q0 q1 q2 q3 q4 s0 s1 s2 s3 s4 s5 s6 s7 s8 s9
 try simp only [zA,zB,zC,Act.put,zD,zE,zF]
 refine zt 6 (v:=?v6g3) ?y6g3 ?r6g3
 case y6g3=>(rintro w ⟨s0,s1,s2,s3,s4,s5,s6,s7,s8,s9⟩;go_simp;try with_reducible rfl)
 try simp only [zA,zB,zC,Act.put,zD,zE,zF]
 refine zt 7 (v:=?v7g3) ?y7g3 ?r7g3
 case y7g3=>(rintro w ⟨s0,s1,s2,s3,s4,s5,s6,s7,s8,s9⟩;go_simp;try with_reducible rfl)
 try simp only [zA,zB,zC,Act.put,zD,zE,zF]
 refine zt 8 (v:=?v8g3) ?y8g3 ?r8g3
 case y8g3=>(rintro w ⟨s0,s1,s2,s3,s4,s5,s6,s7,s8,s9⟩;go_simp;try with_reducible rfl)
 try simp only [zA,zB,zC,Act.put,zD,zE,zF]
 refine wpAnyH_done (by kernel_rfl) ?_ _
 go_wp2
 have z0:=zb KZ.out 0 (.string b.f0)
 have z1:=zb KZ.out 1 (.int .i64 b.f1)
 have z2:=zb KZ.out 2 (.slice A2 b.f2.length c2)
 have z3:=zb KZ.out 3 (.slice A3 b.f3.length c3)
 have z4:=zb KZ.out 4 (.int .u64 b.f4)
 refine bodyPost_ret (v:=.tuple #[.agg #[.string b.f0,.int .i64 b.f1,.slice A2 b.f2.length c2,.slice A3 b.f3.length c3,.int .u64 b.f4],.int .u64 0,.string ⟨#[]⟩,.int .i64 e2]) (by simp [results,Tryz.results17,go_sem,z0,z1,z2,z3,z4]) rfl ?_
 exact ⟨_,rfl,⟨A2,c2,A3,c3,rfl,G2.out,G3.out,H2.out _ HBZ.out,H3.out _ HBZ.out⟩,HBZ.out⟩
theorem whole_n11 (b : S26) (A2 A3 : Option Addr) (c2 c3 : Nat) (id : Int) (ps : List S43) (A : Option Addr) (c : Nat) (q : Int) (w : World) (h2 : Kd.C k56 w A2 b.f2.length b.f2) (g2 : b.f2.length ≤ c2) (h3 : Kd.C k101 w A3 b.f3.length b.f3) (g3 : b.f3.length ≤ c3) (hl : ps.length < 100) (h4 : Kd.C k43 w A ps.length ps) (e0 : Int) (he0 : openR b anyK = e0) (u : S101) (fe : Int) (hfe : fe ≠ 0) (hf : findR b.f3 id = (u,fe)) (data tx : ByteArray) (we : Int) (hwe : we ≠ 0) (hw : wholeR u ps = (data,tx,we)) (e1 e2 : Int) (he1 : noR true fe e0 = e1) (he2 : noR true we e1 = e2) (hz : e2 ≠ 0) :
  Calls Tryz.prog 17 #[.agg #[.string b.f0,.int .i64 b.f1,.slice A2 b.f2.length c2,.slice A3 b.f3.length c3,.int .u64 b.f4],.int .u64 id,.slice A ps.length c,.int .i64 q] w (BkPost b [.int .u64 0,.string ⟨#[]⟩,.int .i64 e2] w):=by
 have H2:=zh (fun (W : World) (h : Below w.heap.size w W)=>Kd.C_below h2 h)
 have H3:=zh (fun (W : World) (h : Below w.heap.size w W)=>Kd.C_below h3 h)
 have HOP:=zh (fun (W : World) (h : Below w.heap.size w W)=>open.walk b A2 A3 c2 c3 anyK W (Kd.C_below h2 h) g2 (Kd.C_below h3 h) g3)
 rw [he0] at HOP
 have HFD:=zh (fun (W : World) (h : Below w.heap.size w W)=>find.walk A3 c3 b.f3 id W (Kd.C_below h3 h) g3)
 unfold FindPost at HFD
 rw [hf] at HFD
 dsimp only at HFD
 have HWH:=zh (fun (A7 : Option Addr) (c7 : Nat) (W : World) (hW : Below w.heap.size w W) (hC : Kd.C k40 W A7 u.f2.length u.f2) (hc : u.f2.length ≤ c7)=>whole.walk u A7 c7 A c ps W hl hC hc (Kd.C_below h4 hW))
 rw [hw] at HWH
 unfold wholeV at HWH
 dsimp only at HWH
 have HN1:=zh (fun (g : Nat) (W : World) hW=>no.walk g (.string b.f0) (.int .i64 b.f1) (.slice A2 b.f2.length c2) (.slice A3 b.f3.length c3) (.int .u64 b.f4) e0 fe true W hW)
 rw [he1] at HN1
 have HN2:=zh (fun (g : Nat) (W : World) hW=>no.walk g (.string b.f0) (.int .i64 b.f1) (.slice A2 b.f2.length c2) (.slice A3 b.f3.length c3) (.int .u64 b.f4) e1 we true W hW)
 rw [he2] at HN2
 have q0 : (fe == 0) = false:=beq_eq_false_iff_ne.2 hfe
 have r0 : (fe != 0) = true:=by rw [bne,q0];rfl
 have q1 : (we == 0) = false:=beq_eq_false_iff_ne.2 hwe
 have r1 : (we != 0) = true:=by rw [bne,q1];rfl
 have q2 : (e2 == 0) = false:=beq_eq_false_iff_ne.2 hz
 have r2 : (e2 != 0) = true:=by rw [bne,q2];rfl
 have G2:=zh g2
 have G3:=zh g3
 have HB:=zh (Below.refl w.heap.size w)
 clear h2 h3 g2 g3 h4 hl he0 hf hw he1 he2 hz
 go_enter Tryz.func17,Tryz.ntmps17
 go_wp2_with (first
  | ((with_reducible refine gate_dst (N:=4) rfl ?_);go_must (refine zx HB (N:=4) (cs:=#[.string b.f0,.int .i64 b.f1,.slice A2 b.f2.length c2,.slice A3 b.f3.length c3,.int .u64 b.f4]) (t:=26) ?hr ?_;(case hr=>first | (go_simp;done) | (go_simp;rfl));intro gb w1 Kgb Lgb HB hbelgb hqgb;clear hbelgb hqgb))
  | ((with_reducible refine gate_dst (N:=8) rfl ?_);go_must (refine zx HB (N:=8) (cs:=#[.string ⟨#[]⟩,.int .i64 0,.slice none 0 0,.slice none 0 0,.int .u64 0]) (t:=26) ?hr ?_;(case hr=>first | (go_simp;done) | (go_simp;rfl));intro go w3 Kgo Lgo HB hbelgo hqgo;have M2:=zh (show gb < go by rw [hqgo];exact blk_lt Kgb.out);have Kgb:=zk Kgb hbelgo;obtain ⟨a0,a1,a2,a3,a4⟩:=zz5 Kgb.out;clear hbelgo hqgo))
  | (go_at_call 32;go_must (refine (HOP.out _ HB.out).mono ?_;rintro e w4 ⟨g,rfl,hgl,hk,hb⟩;have Kg:=hk;have M3:=zh (show go < g from Nat.lt_of_lt_of_le (blk_lt Kgo.out) hgl);have HB:=keepB HB hb.out;have Kgb:=zk Kgb hb.out;have Kgo:=zk Kgo hb.out;have k3:=zb Kg.out 3 (.slice A3 b.f3.length c3);clear hk hb hgl a0 a1 a2 a3 a4))
  | (go_at_call 44;go_must (refine (HFD.out _ HB.out).mono ?_;rintro e w5 ⟨A7,c7,rfl,hc7,hC5,hb⟩;have HC5:=zh hC5;have HG5:=zh hc7;have HB:=keepB HB hb;have Kgb:=zk Kgb hb;have Kgo:=zk Kgo hb;have Kg:=zk Kg hb;clear hb hC5 hc7 k3))
  | ((with_reducible refine gate_dst (N:=13) rfl ?_);go_must (refine zx HB (N:=13) (cs:=#[.int .u64 0,.string ⟨#[]⟩,.slice none 0 0]) (t:=101) ?hr ?_;(case hr=>first | (go_simp;done) | (go_simp;rfl));intro gu w6 Kgu Lgu HB hbelgu hqgu;have M4:=zh (show g < gu by rw [hqgu];exact blk_lt Kg.out);have HD:=zh hbelgu;have LD5:=zh (show w5.heap.size ≤ gu by rw [hqgu];exact Nat.le_refl _);have Kgb:=zk Kgb hbelgu;have Kgo:=zk Kgo hbelgu;have Kg:=zk Kg hbelgu;clear hbelgu hqgu))
  | ((with_reducible refine gate_store (t:=101) (p:=13) (v:=.tmp 29) rfl ?_);go_must (refine zs 101 (.tmp 13) (.tmp 29) gu 0 101 [.int .u64 u.f0,.string u.f1,.slice A7 u.f2.length c7] Kgu (by kernel_rfl) ?_;intro w7 hk ho;have HC5:=zc HC5 (ho.out.below HD.out HD.out.size LD5.out);have Kgu : Hid (w7.heap[gu]? = some (.cells #[.int .u64 u.f0,.string u.f1,.slice A7 u.f2.length c7] 101 (0,0))):=hk;have HB:=zo ho HB Lgu;have Kgb:=zl ho Kgb (by have:=M2.out;have:=M3.out;have:=M4.out;omega);have Kgo:=zl ho Kgo (by have:=M2.out;have:=M3.out;have:=M4.out;omega);have Kg:=zl ho Kg (by have:=M2.out;have:=M3.out;have:=M4.out;omega);have MK1:=zh True.intro;clear HD LD5;clear hk ho))
  | (go_at_call 45;go_must (first
   | (clear MK1;refine (HN1.out g _ Kg.out).mono ?_;rintro e w8 ⟨rfl,hk,ho⟩;have HC5:=zh (keepPt HC5.out Kg.out (work_like b.f0 b.f1 A2 b.f2.length c2 A3 b.f3.length c3 b.f4 e0) ho.out);have Kg:=hk;have HB:=zh (ho.out.below HB.out HB.out.size (by have:=Lgo.out;have:=M3.out;omega));have Kgb:=zl ho Kgb (by have:=M2.out;have:=M3.out;have:=M4.out;omega);have Kgo:=zl ho Kgo (by have:=M2.out;have:=M3.out;have:=M4.out;omega);have Kgu:=zl ho Kgu (by have:=M2.out;have:=M3.out;have:=M4.out;omega);obtain ⟨u0,u1,u2⟩:=zz3 Kgu.out;have MK2:=zh True.intro;clear hk ho)
   | (clear MK2;refine (HN2.out g _ Kg.out).mono ?_;rintro e w8 ⟨rfl,hk,ho⟩;have HC5:=zh (keepPt HC5.out Kg.out (work_like b.f0 b.f1 A2 b.f2.length c2 A3 b.f3.length c3 b.f4 e1) ho.out);have Kg:=hk;have HB:=zh (ho.out.below HB.out HB.out.size (by have:=Lgo.out;have:=M3.out;omega));have Kgb:=zl ho Kgb (by have:=M2.out;have:=M3.out;have:=M4.out;omega);have Kgo:=zl ho Kgo (by have:=M2.out;have:=M3.out;have:=M4.out;omega);have Kgu:=zl ho Kgu (by have:=M2.out;have:=M3.out;have:=M4.out;omega);have k5:=zb Kg.out 5 (.int .i64 e2);clear hk ho)))
  | (go_at_call 46;go_must (refine (HWH.out A7 c7 _ HB.out HC5.out HG5.out).mono ?_;rintro e w9 ⟨rfl,hb⟩;have HC5:=zc HC5 hb;have HB:=keepB HB hb;have Kgb:=zk Kgb hb;have Kgo:=zk Kgo hb;have Kg:=zk Kg hb;have Kgu:=zk Kgu hb;clear hb u0 u1 u2)))
 refine wp_region_held_drew (S:=fun W=>W.heap[g]? = some (.cells #[.string b.f0,.int .i64 b.f1,.slice A2 b.f2.length c2,.slice A3 b.f3.length c3,.int .u64 b.f4,.int .i64 e2] 87 (0,0)) ∧ W.cell? ⟨g,5,none⟩ = some (.int .i64 e2) ∧ W.cell? ⟨gb,0,none⟩ = some (.string b.f0) ∧ W.cell? ⟨gb,1,none⟩ = some (.int .i64 b.f1) ∧ W.cell? ⟨gb,2,none⟩ = some (.slice A2 b.f2.length c2) ∧ W.cell? ⟨gb,3,none⟩ = some (.slice A3 b.f3.length c3) ∧ W.cell? ⟨gb,4,none⟩ = some (.int .u64 b.f4) ∧ W.heap[gb]? = some (.cells #[.string b.f0,.int .i64 b.f1,.slice A2 b.f2.length c2,.slice A3 b.f3.length c3,.int .u64 b.f4] 26 (0,0)) ∧ (∃ q0 q1 q2 q3 q4,W.heap[go]? = some (.cells #[q0,q1,q2,q3,q4] 26 (0,0))) ∧ Below w.heap.size w W) (by kernel_rfl) ?_ (fun hHeld=>?_)
 ·exact ⟨blk_drew Kg.out,(blk_cell (blk_drew Kg.out) 5).trans rfl,blk_cell (blk_drew Kgb.out) 0,blk_cell (blk_drew Kgb.out) 1,blk_cell (blk_drew Kgb.out) 2,blk_cell (blk_drew Kgb.out) 3,blk_cell (blk_drew Kgb.out) 4,blk_drew Kgb.out,⟨_,_,_,_,_,blk_drew Kgo.out⟩,HB.out.drew⟩
 clear Kg Kgo Kgb Kgu HB k5 HC5
 refine zt 0 (v:=?v0g4) ?y0g4 ?r0g4
 case y0g4=>(rintro w ⟨s0,s1,s2,s3,s4,s5,s6,s7,s8,s9⟩;go_simp;try with_reducible rfl)
 try simp only [zA,zB,zC,Act.put,zD,zE,zF]
 refine zt 1 (v:=?v1g4) ?y1g4 ?r1g4
 case y1g4=>(rintro w ⟨s0,s1,s2,s3,s4,s5,s6,s7,s8,s9⟩;go_simp;try with_reducible rfl)
 try simp only [zA,zB,zC,Act.put,zD,zE,zF]
 refine zt 2 (v:=?v2g4) ?y2g4 ?r2g4
 case y2g4=>(rintro w ⟨s0,s1,s2,s3,s4,s5,s6,s7,s8,s9⟩;go_simp;try with_reducible rfl)
 try simp only [zA,zB,zC,Act.put,zD,zE,zF]
 refine zt 3 (v:=?v3g4) ?y3g4 ?r3g4
 case y3g4=>(rintro w ⟨s0,s1,s2,s3,s4,s5,s6,s7,s8,s9⟩;go_simp;try with_reducible rfl)
 try simp only [zA,zB,zC,Act.put,zD,zE,zF]
 refine zt 4 (v:=?v4g4) ?y4g4 ?r4g4
 case y4g4=>(rintro w ⟨s0,s1,s2,s3,s4,s5,s6,s7,s8,s9⟩;go_simp;try with_reducible rfl)
 try simp only [zA,zB,zC,Act.put,zD,zE,zF]
 refine wpAnyH_ready (rs:=[5]) (by kernel_rfl) (by simp) ?_
 refine AllReadyH.cons (o:=_) rfl (fun K hK=>?_) AllReadyH.nil
 rw [if_pos (by rfl)]
 obtain ⟨s0,s1,s2,s3,s4,s5,s6,s7,s8,s9⟩:=hHeld
 obtain ⟨q0,q1,q2,q3,q4,s8⟩:=s8
 refine wp_store_row rfl 26 (.tmp 8) (.tmp 69) rfl go 0 _ 26 (.agg #[.string b.f0,.int .i64 b.f1,.slice A2 b.f2.length c2,.slice A3 b.f3.length c3,.int .u64 b.f4]) [.string b.f0,.int .i64 b.f1,.slice A2 b.f2.length c2,.slice A3 b.f3.length c3,.int .u64 b.f4] rfl rfl s8 rfl isz_bucket (by show 0 + 5 ≤ 5;decide) (by simp [Value.oneCell']) ?_
 intro w14 hk ho
 have KZ : Hid (w14.heap[go]? = some (.cells #[.string b.f0,.int .i64 b.f1,.slice A2 b.f2.length c2,.slice A3 b.f3.length c3,.int .u64 b.f4] 26 (0,0))):=hk
 have HBZ:=zh (ho.out.below s9 s9.size Lgo.out)
 have KG2:=zh (ho.out.blk s0 (by have:=M3.out;omega))
 have KB2:=zh (ho.out.blk s7 (by have:=M2.out;omega))
 refine hK.out _ _ ⟨KG2.out,zj KG2 5,zj KB2 0,zj KB2 1,zj KB2 2,zj KB2 3,zj KB2 4,KB2.out,⟨_,_,_,_,_,hk.out⟩,HBZ.out⟩ (fun hHeld=>?_)
 clear hK K hk ho q0 q1 q2 q3 q4 s0 s1 s2 s3 s4 s5 s6 s7 s8 s9
 try simp only [zA,zB,zC,Act.put,zD,zE,zF]
 refine zt 6 (v:=?v6g4) ?y6g4 ?r6g4
 case y6g4=>(rintro w ⟨s0,s1,s2,s3,s4,s5,s6,s7,s8,s9⟩;go_simp;try with_reducible rfl)
 try simp only [zA,zB,zC,Act.put,zD,zE,zF]
 refine zt 7 (v:=?v7g4) ?y7g4 ?r7g4
 case y7g4=>(rintro w ⟨s0,s1,s2,s3,s4,s5,s6,s7,s8,s9⟩;go_simp;try with_reducible rfl)
 try simp only [zA,zB,zC,Act.put,zD,zE,zF]
 refine zt 8 (v:=?v8g4) ?y8g4 ?r8g4
 case y8g4=>(rintro w ⟨s0,s1,s2,s3,s4,s5,s6,s7,s8,s9⟩;go_simp;try with_reducible rfl)
 try simp only [zA,zB,zC,Act.put,zD,zE,zF]
 refine wpAnyH_done (by kernel_rfl) ?_ _
 go_wp2
 have z0:=zb KZ.out 0 (.string b.f0)
 have z1:=zb KZ.out 1 (.int .i64 b.f1)
 have z2:=zb KZ.out 2 (.slice A2 b.f2.length c2)
 have z3:=zb KZ.out 3 (.slice A3 b.f3.length c3)
 have z4:=zb KZ.out 4 (.int .u64 b.f4)
 refine bodyPost_ret (v:=.tuple #[.agg #[.string b.f0,.int .i64 b.f1,.slice A2 b.f2.length c2,.slice A3 b.f3.length c3,.int .u64 b.f4],.int .u64 0,.string ⟨#[]⟩,.int .i64 e2]) (by simp [results,Tryz.results17,go_sem,z0,z1,z2,z3,z4]) rfl ?_
 exact ⟨_,rfl,⟨A2,c2,A3,c3,rfl,G2.out,G3.out,H2.out _ HBZ.out,H3.out _ HBZ.out⟩,HBZ.out⟩
end
end Go.Proofs.YtekooapbdgippaaGreatDoor.Q
