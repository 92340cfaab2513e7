/- After each of what is done, every version that was laid is found as it was laid, at its key and its number; whatever the input, as the row says. Part 25 of 26. -/
import Derived.Test.YtekooapbdgippaaGreatDoorBk3
namespace Go.Proofs.YtekooapbdgippaaGreatDoor.Q
open Go.RowKit Go.Proofs.YtekooapbdgippaaGreatDoorW.PrintWords Go.Proofs.YtekooapbdgippaaGreatDoorW.PrintLast Go.Proofs.YtekooapbdgippaaGreatDoorW.PrintMore
open List renaming getElem_toArray → zA, getElem_cons_zero → zB, getElem_cons_succ → zC, setIfInBounds_toArray → zD, set_cons_zero → zE, set_cons_succ → zF
set_option linter.unusedVariables false
set_option linter.unusedSimpArgs false
set_option maxHeartbeats 8000000
set_option maxRecDepth 100000
section
open Go.WideMaps Go.Maps
attribute [local go_sem] Oper.semAt_some
theorem putC.walk (A : Option Addr) (c : Nat) (l : List S47) (id : Int) (b : S26) (A2 A3 : Option Addr) (c2 c3 : Nat) (data : ByteArray) (q : Int) (gb gd gq : Nat) (w : World) (hr : Kd.C k47 w A l.length l) (hb : w.heap[gb]? = some (.cells #[.string b.f0,.int .i64 b.f1,.slice A2 b.f2.length c2,.slice A3 b.f3.length c3,.int .u64 b.f4] 26 (0,0))) (hd : w.heap[gd]? = some (.cells #[.string data] 9 (0,0))) (hq : w.heap[gq]? = some (.cells #[.int .i64 q] 3 (0,0))) :
  Calls Tryz.prog 51 #[.slice A l.length c,.int .u64 id,.pointer (some ⟨gb,0,none⟩),.pointer (some ⟨gd,0,none⟩),.pointer (some ⟨gq,0,none⟩)] w (VPost (putV l b.f1 ⟨id,data,false,q⟩).1 (putV l b.f1 ⟨id,data,false,q⟩).2 w):=by
 have HC:=zh (putV.walk A c l b.f1 ⟨id,data,false,q⟩ w hr)
 generalize putV l b.f1 ⟨id,data,false,q⟩ = r at *
 have b1:=zb hb 1 (.int .i64 b.f1)
 clear hb
 have hd0:=zb hd 0 (.string data)
 clear hd
 have hq0:=zb hq 0 (.int .i64 q)
 clear hq
 clear hr
 go_enter Tryz.func51,Tryz.ntmps51
 go_wp2_with (go_at_call 52;go_must (refine HC.out.mono ?_;rintro e w1 ⟨A1,c1,rfl,hc1,hC1,hb⟩;have HC1:=hC1;have HB1:=zh hb;clear hb hC1))
 go_ret2
 exact ⟨A1,c1,rfl,hc1,HC1,HB1.out⟩
theorem delC.walk (A : Option Addr) (c : Nat) (l : List S47) (id : Int) (b : S26) (A2 A3 : Option Addr) (c2 c3 : Nat) (q : Int) (gb gq : Nat) (w : World) (hr : Kd.C k47 w A l.length l) (hb : w.heap[gb]? = some (.cells #[.string b.f0,.int .i64 b.f1,.slice A2 b.f2.length c2,.slice A3 b.f3.length c3,.int .u64 b.f4] 26 (0,0))) (hq : w.heap[gq]? = some (.cells #[.int .i64 q] 3 (0,0))) :
  Calls Tryz.prog 82 #[.slice A l.length c,.int .u64 id,.pointer (some ⟨gb,0,none⟩),.pointer (some ⟨gq,0,none⟩)] w (VPost (deleteV l b.f1 id q).1 (deleteV l b.f1 id q).2 w):=by
 have HC:=zh (deleteV.walk A c l b.f1 id q w hr)
 generalize deleteV l b.f1 id q = r at *
 have b1:=zb hb 1 (.int .i64 b.f1)
 clear hb
 have hq0:=zb hq 0 (.int .i64 q)
 clear hq
 clear hr
 go_enter Tryz.func82,Tryz.ntmps82
 go_wp2_with (go_at_call 83;go_must (refine HC.out.mono ?_;rintro e w1 ⟨A1,c1,rfl,hc1,hC1,hb⟩;have HC1:=hC1;have HB1:=zh hb;clear hb hC1))
 go_ret2
 exact ⟨A1,c1,rfl,hc1,HC1,HB1.out⟩
theorem dropC.walk (A : Option Addr) (c : Nat) (l : List S47) (id : Int) (gi : Nat) (w : World) (hr : Kd.C k47 w A l.length l) (hi : w.heap[gi]? = some (.cells #[.int .u64 id] 24 (0,0))) :
  Calls Tryz.prog 85 #[.slice A l.length c,.pointer (some ⟨gi,0,none⟩)] w (VPost (dropV l id).1 (dropV l id).2 w):=by
 have HC:=zh (dropV.walk A c l id w hr)
 generalize dropV l id = r at *
 have hi0:=zb hi 0 (.int .u64 id)
 clear hi
 clear hr
 go_enter Tryz.func85,Tryz.ntmps85
 go_wp2_with (go_at_call 86;go_must (refine HC.out.mono ?_;rintro e w1 ⟨A1,c1,rfl,hc1,hC1,hb⟩;have HC1:=hC1;have HB1:=zh hb;clear hb hC1))
 go_ret2
 exact ⟨A1,c1,rfl,hc1,HC1,HB1.out⟩
theorem putB.walk (b : S26) (A2 A3 : Option Addr) (c2 c3 : Nat) (key : ByteArray) (data : ByteArray) (q : Int) (w : World) (h2 : Kd.C k56 w A2 b.f2.length b.f2) (g2 : b.f2.length ≤ c2) (h3 : Kd.C k101 w A3 b.f3.length b.f3) (g3 : b.f3.length ≤ c3) :
  Calls Tryz.prog 19 #[.agg #[.string b.f0,.int .i64 b.f1,.slice A2 b.f2.length c2,.slice A3 b.f3.length c3,.int .u64 b.f4],.string key,.string data,.int .i64 q] w (BkPost (laidR b key (fun l id=>putV l b.f1 ⟨id,data,false,q⟩)).1 [.int .u64 (laidR b key (fun l id=>putV l b.f1 ⟨id,data,false,q⟩)).2.1,.int .i64 (laidR b key (fun l id=>putV l b.f1 ⟨id,data,false,q⟩)).2.2] w):=by
 have HLD:=zh (fun (gb gd gq : Nat) (W : World) (hW : Below w.heap.size w W) (Kgb : W.heap[gb]? = some (.cells #[.string b.f0,.int .i64 b.f1,.slice A2 b.f2.length c2,.slice A3 b.f3.length c3,.int .u64 b.f4] 26 (0,0))) (Kgd : W.heap[gd]? = some (.cells #[.string data] 9 (0,0))) (Kgq : W.heap[gq]? = some (.cells #[.int .i64 q] 3 (0,0))) =>
  laid.walk b A2 A3 c2 c3 key 51 #[.pointer (some ⟨gb,0,none⟩),.pointer (some ⟨gd,0,none⟩),.pointer (some ⟨gq,0,none⟩)] (fun l id=>putV l b.f1 ⟨id,data,false,q⟩) W (Kd.C_below h2 hW) g2 (Kd.C_below h3 hW) g3 (enters Tryz.func51 (by kernel_rfl) (by kernel_rfl))
   (fun id A' c' W' hW' hc' hC'=>putC.walk A' c' (getE b.f2 key) id b A2 A3 c2 c3 data q gb gd gq W' hC' (blk_below Kgb hW') (blk_below Kgd hW') (blk_below Kgq hW')))
 generalize laidR b key (fun l id=>putV l b.f1 ⟨id,data,false,q⟩) = r at *
 obtain ⟨kb,lid,er⟩:=r
 have HB:=zh (Below.refl w.heap.size w)
 clear h2 h3 g2 g3
 go_enter Tryz.func19,Tryz.ntmps19
 go_wp2_with (first
  | ((with_reducible refine gate_dst (N:=4) rfl ?_);go_must (refine zx HB (N:=4) (cs:=#[.string b.f0,.int .i64 b.f1,.slice A2 b.f2.length c2,.slice A3 b.f3.length c3,.int .u64 b.f4]) (t:=26) ?hr ?_;(case hr=>first | (go_simp;done) | (go_simp;rfl));intro gb wgb Kgb Lgb HB hbelgb hggb;clear hbelgb hggb))
  | ((with_reducible refine gate_dst (N:=6) rfl ?_);go_must (refine zx HB (N:=6) (cs:=#[.string data]) (t:=9) ?hr ?_;(case hr=>first | (go_simp;done) | (go_simp;rfl));intro gd wgd Kgd Lgd HB hbelgd hggd;have Kgb:=zk Kgb hbelgd;clear hbelgd hggd))
  | ((with_reducible refine gate_dst (N:=7) rfl ?_);go_must (refine zx HB (N:=7) (cs:=#[.int .i64 q]) (t:=3) ?hr ?_;(case hr=>first | (go_simp;done) | (go_simp;rfl));intro gq wgq Kgq Lgq HB hbelgq hggq;have Kgb:=zk Kgb hbelgq;have Kgd:=zk Kgd hbelgq;clear hbelgq hggq))
  | ((with_reducible refine gate_dst (N:=8) rfl ?_);go_must (refine zx HB (N:=8) (cs:=#[.string ⟨#[]⟩,.int .i64 0,.slice none 0 0,.slice none 0 0,.int .u64 0]) (t:=26) ?hr ?_;(case hr=>first | (go_simp;done) | (go_simp;rfl));intro go wo Kgo Lgo HB hbelgo hggo;have Kgb:=zk Kgb hbelgo;have Kgd:=zk Kgd hbelgo;have Kgq:=zk Kgq hbelgo;obtain ⟨a0,a1,a2,a3,a4⟩:=zz5 Kgb.out;clear hbelgo hggo))
  | (go_at_call 50;go_must (refine (HLD.out gb gd gq _ HB.out Kgb.out Kgd.out Kgq.out).mono ?_;rintro e w10 ⟨v10,rfl,⟨A5,c5,A6,c6,rfl,y1,y2,y3,y4⟩,hb⟩;have HB:=keepB HB hb;have Kgo:=zk Kgo hb;have Y3:=zh y3;have Y4:=zh y4;clear hb y3 y4 a0 a1 a2 a3 a4))
  | ((with_reducible refine gate_store (t:=26) (p:=8) (v:=.tmp 15) rfl ?_);go_must (refine zs 26 (.tmp 8) (.tmp 15) go 0 26 [.string kb.f0,.int .i64 kb.f1,.slice A5 kb.f2.length c5,.slice A6 kb.f3.length c6,.int .u64 kb.f4] Kgo isz_bucket ?_;intro w12 hk ho;have Y3:=zh (keepE Y3.out Kgo.out (bk_like _ _ _ _ _ _ _ _ _) ho.out);have Y4:=zh (keepU Y4.out Kgo.out (bk_like _ _ _ _ _ _ _ _ _) ho.out);have HB:=zo ho HB Lgo;obtain ⟨z0,z1,z2,z3,z4⟩:=zz5 hk.out;clear hk ho)))
 refine bodyPost_ret (v:=.tuple #[.agg #[.string kb.f0,.int .i64 kb.f1,.slice A5 kb.f2.length c5,.slice A6 kb.f3.length c6,.int .u64 kb.f4],.int .u64 lid,.int .i64 er]) (by simp [results,Tryz.results19,go_sem,z0,z1,z2,z3,z4]) rfl ?_
 exact ⟨_,rfl,⟨A5,c5,A6,c6,rfl,y1,y2,Y3.out,Y4.out⟩,HB.out⟩
theorem delB.walk (b : S26) (A2 A3 : Option Addr) (c2 c3 : Nat) (key : ByteArray) (q : Int) (w : World) (h2 : Kd.C k56 w A2 b.f2.length b.f2) (g2 : b.f2.length ≤ c2) (h3 : Kd.C k101 w A3 b.f3.length b.f3) (g3 : b.f3.length ≤ c3) :
  Calls Tryz.prog 39 #[.agg #[.string b.f0,.int .i64 b.f1,.slice A2 b.f2.length c2,.slice A3 b.f3.length c3,.int .u64 b.f4],.string key,.int .i64 q] w (BkPost (laidR b key (fun l id=>deleteV l b.f1 id q)).1 [.int .u64 (laidR b key (fun l id=>deleteV l b.f1 id q)).2.1,.int .i64 (laidR b key (fun l id=>deleteV l b.f1 id q)).2.2] w):=by
 have HLD:=zh (fun (gb gq : Nat) (W : World) (hW : Below w.heap.size w W) (Kgb : W.heap[gb]? = some (.cells #[.string b.f0,.int .i64 b.f1,.slice A2 b.f2.length c2,.slice A3 b.f3.length c3,.int .u64 b.f4] 26 (0,0))) (Kgq : W.heap[gq]? = some (.cells #[.int .i64 q] 3 (0,0))) =>
  laid.walk b A2 A3 c2 c3 key 82 #[.pointer (some ⟨gb,0,none⟩),.pointer (some ⟨gq,0,none⟩)] (fun l id=>deleteV l b.f1 id q) W (Kd.C_below h2 hW) g2 (Kd.C_below h3 hW) g3 (enters Tryz.func82 (by kernel_rfl) (by kernel_rfl))
   (fun id A' c' W' hW' hc' hC'=>delC.walk A' c' (getE b.f2 key) id b A2 A3 c2 c3 q gb gq W' hC' (blk_below Kgb hW') (blk_below Kgq hW')))
 generalize laidR b key (fun l id=>deleteV l b.f1 id q) = r at *
 obtain ⟨kb,lid,er⟩:=r
 have HB:=zh (Below.refl w.heap.size w)
 clear h2 h3 g2 g3
 go_enter Tryz.func39,Tryz.ntmps39
 go_wp2_with (first
  | ((with_reducible refine gate_dst (N:=3) rfl ?_);go_must (refine zx HB (N:=3) (cs:=#[.string b.f0,.int .i64 b.f1,.slice A2 b.f2.length c2,.slice A3 b.f3.length c3,.int .u64 b.f4]) (t:=26) ?hr ?_;(case hr=>first | (go_simp;done) | (go_simp;rfl));intro gb wgb Kgb Lgb HB hbelgb hggb;clear hbelgb hggb))
  | ((with_reducible refine gate_dst (N:=5) rfl ?_);go_must (refine zx HB (N:=5) (cs:=#[.int .i64 q]) (t:=3) ?hr ?_;(case hr=>first | (go_simp;done) | (go_simp;rfl));intro gq wgq Kgq Lgq HB hbelgq hggq;have Kgb:=zk Kgb hbelgq;clear hbelgq hggq))
  | ((with_reducible refine gate_dst (N:=6) rfl ?_);go_must (refine zx HB (N:=6) (cs:=#[.string ⟨#[]⟩,.int .i64 0,.slice none 0 0,.slice none 0 0,.int .u64 0]) (t:=26) ?hr ?_;(case hr=>first | (go_simp;done) | (go_simp;rfl));intro go wo Kgo Lgo HB hbelgo hggo;have Kgb:=zk Kgb hbelgo;have Kgq:=zk Kgq hbelgo;obtain ⟨a0,a1,a2,a3,a4⟩:=zz5 Kgb.out;clear hbelgo hggo))
  | (go_at_call 50;go_must (refine (HLD.out gb gq _ HB.out Kgb.out Kgq.out).mono ?_;rintro e w10 ⟨v10,rfl,⟨A5,c5,A6,c6,rfl,y1,y2,y3,y4⟩,hb⟩;have HB:=keepB HB hb;have Kgo:=zk Kgo hb;have Y3:=zh y3;have Y4:=zh y4;clear hb y3 y4 a0 a1 a2 a3 a4))
  | ((with_reducible refine gate_store (t:=26) (p:=6) (v:=.tmp 13) rfl ?_);go_must (refine zs 26 (.tmp 6) (.tmp 13) go 0 26 [.string kb.f0,.int .i64 kb.f1,.slice A5 kb.f2.length c5,.slice A6 kb.f3.length c6,.int .u64 kb.f4] Kgo isz_bucket ?_;intro w12 hk ho;have Y3:=zh (keepE Y3.out Kgo.out (bk_like _ _ _ _ _ _ _ _ _) ho.out);have Y4:=zh (keepU Y4.out Kgo.out (bk_like _ _ _ _ _ _ _ _ _) ho.out);have HB:=zo ho HB Lgo;obtain ⟨z0,z1,z2,z3,z4⟩:=zz5 hk.out;clear hk ho)))
 refine bodyPost_ret (v:=.tuple #[.agg #[.string kb.f0,.int .i64 kb.f1,.slice A5 kb.f2.length c5,.slice A6 kb.f3.length c6,.int .u64 kb.f4],.int .u64 lid,.int .i64 er]) (by simp [results,Tryz.results39,go_sem,z0,z1,z2,z3,z4]) rfl ?_
 exact ⟨_,rfl,⟨A5,c5,A6,c6,rfl,y1,y2,Y3.out,Y4.out⟩,HB.out⟩
end
section
open Go.WideMaps Go.Maps
attribute [local go_sem] Oper.semAt_some
def dropB (b : S26) (key : ByteArray) (id : Int) : S26 × Int :=
 let q:=versQ b key (openR b key) (dropV (getE b.f2 key) id)
 closeR b q.1 q.2
theorem dropB.walk (b : S26) (A2 A3 : Option Addr) (c2 c3 : Nat) (key : ByteArray) (id : Int) (w : World) (h2 : Kd.C k56 w A2 b.f2.length b.f2) (g2 : b.f2.length ≤ c2) (h3 : Kd.C k101 w A3 b.f3.length b.f3) (g3 : b.f3.length ≤ c3) :
  Calls Tryz.prog 40 #[.agg #[.string b.f0,.int .i64 b.f1,.slice A2 b.f2.length c2,.slice A3 b.f3.length c3,.int .u64 b.f4],.string key,.int .u64 id] w (BkPost (dropB b key id).1 [.int .i64 (dropB b key id).2] w):=by
 have H2:=zh (fun (W : World) (h : Below w.heap.size w W)=>Kd.C_below h2 h)
 have H3:=zh (fun (W : World) (h : Below w.heap.size w W)=>Kd.C_below h3 h)
 have HOP:=zh (fun (W : World) (h : Below w.heap.size w W)=>open.walk b A2 A3 c2 c3 key W (Kd.C_below h2 h) g2 (Kd.C_below h3 h) g3)
 have HE1 : Hid (openR b key = 0 → bucketB b = true ∧ keyB key = true):=fun h=>open_0 h
 have HVS:=zh (fun (g gi : Nat) (W : World) (hW : Below w.heap.size w W) (K : W.heap[g]? = some (.cells #[.string b.f0,.int .i64 b.f1,.slice A2 b.f2.length c2,.slice A3 b.f3.length c3,.int .u64 b.f4,.int .i64 (openR b key)] 87 (0,0))) (KI : W.heap[gi]? = some (.cells #[.int .u64 id] 24 (0,0))) =>
  versions.calls 85 #[.pointer (some ⟨gi,0,none⟩)] g b A2 A3 c2 c3 key (openR b key) (dropV (getE b.f2 key) id) W K (Kd.C_below h2 hW) g2 (fun h x hx=>by have:=((index_mem (bucket_at (HE1.out h).1).2.1) x hx).2.2;have:=chain_le this;omega) (enters Tryz.func85 (by kernel_rfl) (by kernel_rfl))
   (fun h A' c' W' hW' hc' hC'=>dropC.walk A' c' (getE b.f2 key) id gi W' hC' (blk_below KI hW')))
 obtain ⟨⟨qb,qe⟩,hq⟩ : ∃ q,versQ b key (openR b key) (dropV (getE b.f2 key) id) = q:=⟨_,rfl⟩
 have hf3:=versQ_f3 b key (openR b key) (dropV (getE b.f2 key) id)
 have HQI:=zh (versQ_index b key (openR b key) (dropV (getE b.f2 key) id))
 rw [hq] at hf3 HQI HVS
 have HF:=zh hf3;clear hf3
 have HGQ : Hid (qe = 0 → indexB qb.f2 = true ∧ checkB qb.f3 = true):=fun h=>by
  have x1:=HQI.out h
  have x2:=(bucket_at (HE1.out x1.1).1).2.2.1
  refine ⟨x1.2.2.1,?_⟩
  have:=HF.out.1
  exact this.symm ▸ x2
 have HCL:=zh (fun (g : Nat) (A4 : Option Addr) (c4 : Nat) (W : World) (hW : Below w.heap.size w W) (K : W.heap[g]? = some (.cells #[.string qb.f0,.int .i64 qb.f1,.slice A4 qb.f2.length c4,.slice A3 qb.f3.length c3,.int .u64 qb.f4,.int .i64 qe] 87 (0,0))) (C4 : Kd.C k56 W A4 qb.f2.length qb.f2) (g4 : qb.f2.length ≤ c4) =>
  close.calls qb b A4 A3 A2 A3 c4 c3 c2 c3 qe g W K C4 g4 (by have:=HF.out.1;exact this.symm ▸ Kd.C_below h3 hW) (by have:=HF.out.1;exact this.symm ▸ g3) (Kd.C_below h2 hW) g2 (Kd.C_below h3 hW) g3 HGQ.out)
 have e : dropB b key id = closeR b qb qe:=by unfold dropB;rw [hq]
 rw [e]
 generalize closeR b qb qe = r at *
 obtain ⟨kb,ce⟩:=r
 generalize openR b key = e0 at *
 have HB:=zh (Below.refl w.heap.size w)
 clear h2 h3 g2 g3 hq HE1 HQI HGQ e
 go_enter Tryz.func40,Tryz.ntmps40
 go_wp2_with (first
  | ((with_reducible refine gate_dst (N:=3) rfl ?_);go_must (refine zx HB (N:=3) (cs:=#[.string b.f0,.int .i64 b.f1,.slice A2 b.f2.length c2,.slice A3 b.f3.length c3,.int .u64 b.f4]) (t:=26) ?hr ?_;(case hr=>first | (go_simp;done) | (go_simp;rfl));intro gb w1 Kgb Lgb HB hbelgb hqgb;clear hbelgb hqgb))
  | ((with_reducible refine gate_dst (N:=5) rfl ?_);go_must (refine zx HB (N:=5) (cs:=#[.int .u64 id]) (t:=24) ?hr ?_;(case hr=>first | (go_simp;done) | (go_simp;rfl));intro gi w2 Kgi Lgi HB hbelgi hqgi;have M1:=zh (show gb < gi by rw [hqgi];exact blk_lt Kgb.out);have Kgb:=zk Kgb hbelgi;clear hbelgi hqgi))
  | ((with_reducible refine gate_dst (N:=6) rfl ?_);go_must (refine zx HB (N:=6) (cs:=#[.string ⟨#[]⟩,.int .i64 0,.slice none 0 0,.slice none 0 0,.int .u64 0]) (t:=26) ?hr ?_;(case hr=>first | (go_simp;done) | (go_simp;rfl));intro go w3 Kgo Lgo HB hbelgo hqgo;have M2:=zh (show gi < go by rw [hqgo];exact blk_lt Kgi.out);have Kgb:=zk Kgb hbelgo;have Kgi:=zk Kgi hbelgo;obtain ⟨a0,a1,a2,a3,a4⟩:=zz5 Kgb.out;clear hbelgo hqgo))
  | (go_at_call 32;go_must (refine (HOP.out _ HB.out).mono ?_;rintro e w4 ⟨g,rfl,hgl,hk,hb⟩;have Kg:=hk;have M3:=zh (show go < g from Nat.lt_of_lt_of_le (blk_lt Kgo.out) hgl);have HB:=keepB HB hb.out;have Kgb:=zk Kgb hb.out;have Kgi:=zk Kgi hb.out;have Kgo:=zk Kgo hb.out;clear hk hb hgl a0 a1 a2 a3 a4))
  | (go_at_call 84;go_must (refine (HVS.out g gi _ HB.out Kg.out Kgi.out).mono ?_;rintro e w9 ⟨A4,c4,rfl,hc4,hC4,hk,ho⟩;have Kg:=hk;have HC4:=hC4;have HB:=zh (ho.out.below HB.out HB.out.size (by have:=Lgo.out;have:=M3.out;omega));have Kgb:=zl ho Kgb (by have:=M1.out;have:=M2.out;have:=M3.out;omega);have Kgi:=zl ho Kgi (by have:=M1.out;have:=M2.out;have:=M3.out;omega);have Kgo:=zl ho Kgo (by have:=M1.out;have:=M2.out;have:=M3.out;omega);obtain ⟨m0,m1,m2,m3,m4⟩:=zz5 Kgb.out;clear hk ho hC4))
  | (go_at_call 36;go_must (refine (HCL.out g A4 c4 _ HB.out Kg.out HC4.out hc4).mono ?_;rintro e w10 ⟨v10,rfl,hv,ho⟩;obtain ⟨A5,c5,A6,c6,rfl,y1,y2,y3,y4⟩:=hv;have HB:=zh (ho.below HB.out HB.out.size (by have:=Lgo.out;have:=M3.out;omega));have Kgo:=zh (ho.blk Kgo.out (by have:=M3.out;omega));have Y3:=zh y3;have Y4:=zh y4;clear ho y3 y4 m0 m1 m2 m3 m4))
  | ((with_reducible refine gate_store (t:=26) (p:=6) (v:=.tmp 19) rfl ?_);go_must (refine zs 26 (.tmp 6) (.tmp 19) go 0 26 [.string kb.f0,.int .i64 kb.f1,.slice A5 kb.f2.length c5,.slice A6 kb.f3.length c6,.int .u64 kb.f4] Kgo isz_bucket ?_;intro w11 hk ho;have Y3:=zh (keepE Y3.out Kgo.out (bk_like _ _ _ _ _ _ _ _ _) ho.out);have Y4:=zh (keepU Y4.out Kgo.out (bk_like _ _ _ _ _ _ _ _ _) ho.out);have HB:=zo ho HB Lgo;obtain ⟨z0,z1,z2,z3,z4⟩:=zz5 hk.out;clear hk ho)))
 refine bodyPost_ret (v:=.tuple #[.agg #[.string kb.f0,.int .i64 kb.f1,.slice A5 kb.f2.length c5,.slice A6 kb.f3.length c6,.int .u64 kb.f4],.int .i64 ce]) (by simp [results,Tryz.results40,go_sem,z0,z1,z2,z3,z4]) rfl ?_
 exact ⟨_,rfl,⟨A5,c5,A6,c6,rfl,y1,y2,Y3.out,Y4.out⟩,HB.out⟩
theorem newB_ok (s : ByteArray) (w : World) (hs : bnameB s = true) : Calls Tryz.prog 26 #[.string s] w fun e w'=>e = .returned (.tuple #[.agg #[.string s,.int .i64 0,.slice none 0 0,.slice none 0 0,.int .u64 0],.int .i64 0]) ∧ Below w.heap.size w w':=by
 have HN:=zh (fun (W : World)=>bname.walk s W)
 rw [hs] at HN
 have HB:=zh (Below.refl w.heap.size w)
 clear hs
 go_enter Tryz.func26,Tryz.ntmps26
 go_wp2_with (first
  | ((with_reducible refine gate_dst (N:=2) rfl ?_);go_must (refine zx HB (N:=2) (cs:=#[.string ⟨#[]⟩,.int .i64 0,.slice none 0 0,.slice none 0 0,.int .u64 0]) (t:=26) ?hr ?_;(case hr=>first | (go_simp;done) | (go_simp;rfl));intro go w1 Kgo Lgo HB hbelgo hqgo;clear hbelgo hqgo))
  | (go_at_call 66;go_must (refine (HN.out _).mono ?_;rintro e w2 ⟨rfl,hb⟩;have HB:=keepB HB hb;have Kgo:=zk Kgo hb;clear hb))
  | ((with_reducible refine gate_store (t:=26) (p:=2) (v:=.tmp 9) rfl ?_);go_must (refine zs 26 (.tmp 2) (.tmp 9) go 0 26 [.string s,.int .i64 0,.slice none 0 0,.slice none 0 0,.int .u64 0] Kgo isz_bucket ?_;intro w3 hk ho;have HB:=zo ho HB Lgo;obtain ⟨z0,z1,z2,z3,z4⟩:=zz5 hk.out;clear hk ho)))
 refine bodyPost_ret (v:=.tuple #[.agg #[.string s,.int .i64 0,.slice none 0 0,.slice none 0 0,.int .u64 0],.int .i64 0]) (by simp [results,Tryz.results26,go_sem,z0,z1,z2,z3,z4]) rfl ?_
 exact ⟨rfl,HB.out⟩
end
section
open Go.WideMaps Go.Maps
theorem bool_no {b : Bool} (h : ¬ b = false) : b = true:=by
 cases b
 ·exact absurd rfl h
 ·rfl
theorem getE_cons (y : S56) (l : List S56) (key : ByteArray) : getE (y :: l) key = if eqK key y = true then y.f1 else getE l key:=by
 unfold getE
 rw [List.findIdx?_cons]
 by_cases h : eqK key y = true
 ·rw [if_pos h,if_pos h];rfl
 ·rw [if_neg h,if_neg h]
  cases l.findIdx? (eqK key) <;> simp
theorem getE_none {key : ByteArray} : ∀ {l : List S56},(∀ x ∈ l,x.f0 ≠ key) → getE l key = []
 | [],_=>rfl
 | y :: l,h=>by
  rw [getE_cons,if_neg (fun e=>h y List.mem_cons_self (eqK_eq.1 e))]
  exact getE_none (fun x hx=>h x (List.mem_cons_of_mem _ hx))
theorem getE_mem : ∀ {l : List S56},SE l → ∀ {x : S56},x ∈ l → getE l x.f0 = x.f1
 | [],_,_,hx=>by cases hx
 | y :: l,h,x,hx=>by
  obtain ⟨h1,h2⟩:=SE_cons h
  rw [getE_cons]
  rcases List.mem_cons.1 hx with rfl | hx
  ·rw [if_pos (eqK_eq.2 rfl)]
  ·rw [if_neg (fun e=>by have:=h1 x hx;rw [eqK_eq.1 e] at this;exact ltN_irrefl _ this)]
   exact getE_mem h2 hx
theorem getE_or (key : ByteArray) : ∀ (l : List S56),(∃ x ∈ l,x.f0 = key ∧ getE l key = x.f1) ∨ ((∀ x ∈ l,x.f0 ≠ key) ∧ getE l key = [])
 | []=>Or.inr ⟨fun _ h=>(by cases h),rfl⟩
 | y :: l=>by
  rw [getE_cons]
  by_cases h : eqK key y = true
  ·rw [if_pos h];exact Or.inl ⟨y,List.mem_cons_self,eqK_eq.1 h,rfl⟩
  ·rw [if_neg h]
   rcases getE_or key l with ⟨x,hx,e1,e2⟩ | ⟨h1,h2⟩
   ·exact Or.inl ⟨x,List.mem_cons_of_mem _ hx,e1,e2⟩
   ·refine Or.inr ⟨fun x hx=>?_,h2⟩
    rcases List.mem_cons.1 hx with rfl | hx
    ·exact fun e=>h (eqK_eq.2 e)
    ·exact h1 x hx
theorem getE_put {l : List S56} (h : SE l) (key : ByteArray) (ch : List S47) : getE (putL l key ch) key = ch:=by
 by_cases hc : ch.length = 0
 ·obtain rfl:=List.length_eq_zero_iff.1 hc
  refine getE_none (fun x hx e=>?_)
  rcases (putL_mem h).1 hx with ⟨_,h2⟩ | ⟨h2,_⟩
  ·exact h2 e
  ·exact h2 rfl
 ·exact getE_mem (putL_SE key ch h) (x:=⟨key,ch⟩) ((putL_mem h).2 (Or.inr ⟨hc,rfl⟩))
theorem getE_other {l : List S56} (h : SE l) {key k2 : ByteArray} (ch : List S47) (hk : k2 ≠ key) : getE (putL l key ch) k2 = getE l k2:=by
 rcases getE_or k2 l with ⟨x,hx,rfl,e⟩ | ⟨hn,e⟩
 ·rw [e];exact getE_mem (putL_SE key ch h) ((putL_mem h).2 (Or.inl ⟨hx,hk⟩))
 ·rw [e]
  refine getE_none (fun x hx ex=>?_)
  rcases (putL_mem h).1 hx with ⟨h1,_⟩ | ⟨_,rfl⟩
  ·exact hn x h1 ex
  ·exact hk ex.symm
def idR (b : S26) : Int:=if b.f1 = 1 then IntKind.u64.wrap (b.f4 + 1) else 0
def lastR (b : S26) : Int:=if b.f1 = 1 then IntKind.u64.wrap (b.f4 + 1) else b.f4
theorem closeR_ok {x b : S26} {e : Int} (h : (closeR x b e).2 = 0) : e = 0 ∧ octB b.f2 b.f3 ≤ 20000 ∧ closeR x b e = (b,0):=by
 unfold closeR at h ⊢
 by_cases he : e = 0
 ·rw [if_pos he] at h ⊢
  by_cases ho : octB b.f2 b.f3 ≤ 20000
  ·rw [if_pos ho];exact ⟨he,ho,rfl⟩
  ·rw [if_neg ho] at h;cases h
 ·rw [if_neg he] at h;exact absurd h he
theorem closeR_no {x b : S26} {e : Int} (h : (closeR x b e).2 ≠ 0) : (closeR x b e).1 = x:=by
 unfold closeR at h ⊢
 by_cases he : e = 0
 ·rw [if_pos he] at h ⊢
  by_cases ho : octB b.f2 b.f3 ≤ 20000
  ·rw [if_pos ho] at h;exact absurd rfl h
  ·rw [if_neg ho]
 ·rw [if_neg he]
theorem versQ_ok {b : S26} {key : ByteArray} {e : Int} {r : List S47 × Int} (h : (versQ b key e r).2 = 0) :
  e = 0 ∧ r.2 = 0 ∧ keyB key = true ∧ chainB r.1 = true ∧ (putL b.f2 key r.1).length ≤ 60 ∧ versQ b key e r = (⟨b.f0,b.f1,putL b.f2 key r.1,b.f3,b.f4⟩,0):=by
 unfold versQ versR at h ⊢
 by_cases he : e = 0
 ·rw [if_pos he] at h ⊢
  by_cases hr : r.2 = 0
  ·rw [if_pos hr] at h ⊢
   obtain ⟨q1,q2,q3,q4,q5⟩:=putE_index h
   have hl:=((index_iff _).1 q1).1
   rw [q5] at hl
   refine ⟨he,hr,q3,q4,hl,?_⟩
   rw [q5]
   simp only at h
   rw [h]
  ·rw [if_neg hr] at h;exact absurd h hr
 ·rw [if_neg he] at h;exact absurd h he
theorem wrap_le {n : Int} (h0 : 0 ≤ n) (h : n ≤ 281474976710655) : IntKind.u64.wrap (n + 1) = n + 1:=by
 unfold IntKind.wrap
 simp only [IntKind.signed,IntKind.bits,Bool.false_and,Bool.false_eq_true,if_false]
 omega
/-- what was laid went: the bucket then -/
theorem laid_ok {b : S26} {key : ByteArray} {f : List S47 → Int → List S47 × Int} (h : (laidR b key f).2.2 = 0) :
  bucketB b = true ∧ keyB key = true ∧ (f (getE b.f2 key) (idR b)).2 = 0 ∧ chainB (f (getE b.f2 key) (idR b)).1 = true ∧ (putL b.f2 key (f (getE b.f2 key) (idR b)).1).length ≤ 60 ∧
  octB (putL b.f2 key (f (getE b.f2 key) (idR b)).1) b.f3 ≤ 20000 ∧ (b.f1 = 1 → b.f4 < 281474976710655) ∧
  laidR b key f = (⟨b.f0,b.f1,putL b.f2 key (f (getE b.f2 key) (idR b)).1,b.f3,lastR b⟩,idR b,0):=by
 unfold laidR at h ⊢
 unfold idR lastR
 by_cases h1 : b.f1 = 1
 ·simp only [if_pos h1] at h ⊢
  generalize hq : versQ (⟨b.f0,b.f1,b.f2,b.f3,IntKind.u64.wrap (b.f4 + 1)⟩ : S26) key (noR (decide (281474976710655 ≤ b.f4)) 6 (openR b key)) (f (getE b.f2 key) (IntKind.u64.wrap (b.f4 + 1))) = q at h ⊢
  by_cases hc : (closeR b q.1 q.2).2 = 0
  ·rw [if_pos hc] at h ⊢
   obtain ⟨e1,e2,e3⟩:=closeR_ok hc
   rw [← hq] at e1
   obtain ⟨v1,v2,v3,v4,v5,v6⟩:=versQ_ok e1
   rw [hq] at v6
   rw [v6] at e2 e3
   have ho:=open_0 (noR_zero v1)
   refine ⟨ho.1,ho.2,v2,v4,v5,e2,fun _=>?_,?_⟩
   ·unfold noR at v1
    by_cases hd : 281474976710655 ≤ b.f4
    ·rw [decide_eq_true hd] at v1
     by_cases h0 : openR b key = 0
     ·rw [if_pos ⟨rfl,h0⟩] at v1;cases v1
     ·rw [if_neg (fun c=>h0 c.2)] at v1;exact absurd v1 h0
    ·omega
   ·rw [v6,e3]
  ·rw [if_neg hc] at h;exact absurd h hc
 ·simp only [if_neg h1] at h ⊢
  generalize hq : versQ b key (openR b key) (f (getE b.f2 key) 0) = q at h ⊢
  by_cases hc : (closeR b q.1 q.2).2 = 0
  ·rw [if_pos hc] at h ⊢
   obtain ⟨e1,e2,e3⟩:=closeR_ok hc
   rw [← hq] at e1
   obtain ⟨v1,v2,v3,v4,v5,v6⟩:=versQ_ok e1
   rw [hq] at v6
   rw [v6] at e2 e3
   have ho:=open_0 v1
   exact ⟨ho.1,ho.2,v2,v4,v5,e2,fun c=>absurd c h1,by rw [v6,e3]⟩
  ·rw [if_neg hc] at h;exact absurd h hc
theorem fin_no {b : S26} {id : Int} {c : S26 × Int} (h : ((if c.2 = 0 then (c.1,id,0) else (b,0,c.2)) : S26 × Int × Int).2.2 ≠ 0) : ((if c.2 = 0 then (c.1,id,0) else (b,0,c.2)) : S26 × Int × Int).1 = b ∧ ((if c.2 = 0 then (c.1,id,0) else (b,0,c.2)) : S26 × Int × Int).2.1 = 0:=by
 by_cases hc : c.2 = 0
 ·rw [if_pos hc] at h;exact absurd rfl h
 ·rw [if_neg hc];exact ⟨rfl,rfl⟩
theorem laid_no {b : S26} {key : ByteArray} {f : List S47 → Int → List S47 × Int} (h : (laidR b key f).2.2 ≠ 0) : (laidR b key f).1 = b ∧ (laidR b key f).2.1 = 0:=by
 exact fin_no h
theorem dropB_ok {b : S26} {key : ByteArray} {id : Int} (h : (dropB b key id).2 = 0) :
  bucketB b = true ∧ keyB key = true ∧ (dropV (getE b.f2 key) id).2 = 0 ∧ chainB (dropV (getE b.f2 key) id).1 = true ∧ (putL b.f2 key (dropV (getE b.f2 key) id).1).length ≤ 60 ∧
  octB (putL b.f2 key (dropV (getE b.f2 key) id).1) b.f3 ≤ 20000 ∧ dropB b key id = (⟨b.f0,b.f1,putL b.f2 key (dropV (getE b.f2 key) id).1,b.f3,b.f4⟩,0):=by
 unfold dropB at h ⊢
 simp only at h ⊢
 generalize hq : versQ b key (openR b key) (dropV (getE b.f2 key) id) = q at h ⊢
 obtain ⟨e1,e2,e3⟩:=closeR_ok h
 rw [← hq] at e1
 obtain ⟨v1,v2,v3,v4,v5,v6⟩:=versQ_ok e1
 rw [hq] at v6
 rw [v6] at e2 e3
 have ho:=open_0 v1
 exact ⟨ho.1,ho.2,v2,v4,v5,e2,by rw [v6,e3]⟩
theorem dropB_no {b : S26} {key : ByteArray} {id : Int} (h : (dropB b key id).2 ≠ 0) : (dropB b key id).1 = b:=by
 unfold dropB at h ⊢
 exact closeR_no h
end
section
open Go.WideMaps Go.Maps
attribute [local go_sem] Oper.semAt_some
def turnB (b : S26) (st : Int) : S26 × Int:=if bucketB b = false ∨ st < 0 ∨ 2 < st then (b,1) else if st = 0 ∧ b.f1 ≠ 0 then (b,8) else (⟨b.f0,st,b.f2,b.f3,b.f4⟩,0)
theorem turn_a (b : S26) (A2 A3 : Option Addr) (c2 c3 : Nat) (st : Int) (w : World) (h2 : Kd.C k56 w A2 b.f2.length b.f2) (g2 : b.f2.length ≤ c2) (h3 : Kd.C k101 w A3 b.f3.length b.f3) (g3 : b.f3.length ≤ c3) (hb : bucketB b = false)  :
  Calls Tryz.prog 27 #[.agg #[.string b.f0,.int .i64 b.f1,.slice A2 b.f2.length c2,.slice A3 b.f3.length c3,.int .u64 b.f4],.int .i64 st] w fun e w'=>e = .returned (.tuple #[.agg #[.string b.f0,.int .i64 b.f1,.slice A2 b.f2.length c2,.slice A3 b.f3.length c3,.int .u64 b.f4],.int .i64 1]) ∧ Below w.heap.size w w':=by
 have HC:=zh (fun (W : World) (h : Below w.heap.size w W)=>bucket.walk b A2 A3 c2 c3 W (Kd.C_below h2 h) g2 (Kd.C_below h3 h) g3)
 have e0 : errB (bucketB b) = 1:=by rw [hb];rfl
 rw [e0] at HC
 have HB:=zh (Below.refl w.heap.size w)
 clear h2 h3 g2 g3 hb e0
 go_enter Tryz.func27,Tryz.ntmps27
 go_wp2_with (first
  | ((with_reducible refine gate_dst (N:=2) rfl ?_);go_must (refine zx HB (N:=2) (cs:=#[.string b.f0,.int .i64 b.f1,.slice A2 b.f2.length c2,.slice A3 b.f3.length c3,.int .u64 b.f4]) (t:=26) ?hr ?_;(case hr=>first | (go_simp;done) | (go_simp;rfl));intro gb w1 Kgb Lgb HB hbelgb hqgb;clear hbelgb hqgb))
  | ((with_reducible refine gate_dst (N:=4) rfl ?_);go_must (refine zx HB (N:=4) (cs:=#[.string ⟨#[]⟩,.int .i64 0,.slice none 0 0,.slice none 0 0,.int .u64 0]) (t:=26) ?hr ?_;(case hr=>first | (go_simp;done) | (go_simp;rfl));intro go w2 Kgo Lgo HB hbelgo hqgo;have M1:=zh (show gb < go by rw [hqgo];exact blk_lt Kgb.out);have Kgb:=zk Kgb hbelgo;obtain ⟨a0,a1,a2,a3,a4⟩:=zz5 Kgb.out;clear hbelgo hqgo))
  | (go_at_call 25;go_must (refine (HC.out _ HB.out).mono ?_;rintro e w3 ⟨rfl,hb⟩;have HB:=keepB HB hb;have Kgb:=zk Kgb hb;have Kgo:=zk Kgo hb;obtain ⟨m0,m1,m2,m3,m4⟩:=zz5 Kgb.out;clear hb a0 a1 a2 a3 a4))
  | ((with_reducible refine gate_store (t:=26) (p:=4) (v:=.tmp 18) rfl ?_);go_must (refine zs 26 (.tmp 4) (.tmp 18) go 0 26 [.string b.f0,.int .i64 b.f1,.slice A2 b.f2.length c2,.slice A3 b.f3.length c3,.int .u64 b.f4] Kgo isz_bucket ?_;intro w5 hk ho;have HB:=zo ho HB Lgo;obtain ⟨z0,z1,z2,z3,z4⟩:=zz5 hk.out;clear hk ho)))
 refine bodyPost_ret (v:=.tuple #[.agg #[.string b.f0,.int .i64 b.f1,.slice A2 b.f2.length c2,.slice A3 b.f3.length c3,.int .u64 b.f4],.int .i64 1]) (by simp [results,Tryz.results27,go_sem,z0,z1,z2,z3,z4]) rfl ?_
 exact ⟨rfl,HB.out⟩
theorem turn_b (b : S26) (A2 A3 : Option Addr) (c2 c3 : Nat) (st : Int) (w : World) (h2 : Kd.C k56 w A2 b.f2.length b.f2) (g2 : b.f2.length ≤ c2) (h3 : Kd.C k101 w A3 b.f3.length b.f3) (g3 : b.f3.length ≤ c3) (hb : bucketB b = true) (hs : st < 0) :
  Calls Tryz.prog 27 #[.agg #[.string b.f0,.int .i64 b.f1,.slice A2 b.f2.length c2,.slice A3 b.f3.length c3,.int .u64 b.f4],.int .i64 st] w fun e w'=>e = .returned (.tuple #[.agg #[.string b.f0,.int .i64 b.f1,.slice A2 b.f2.length c2,.slice A3 b.f3.length c3,.int .u64 b.f4],.int .i64 1]) ∧ Below w.heap.size w w':=by
 have HC:=zh (fun (W : World) (h : Below w.heap.size w W)=>bucket.walk b A2 A3 c2 c3 W (Kd.C_below h2 h) g2 (Kd.C_below h3 h) g3)
 have e0 : errB (bucketB b) = 0:=by rw [hb];rfl
 rw [e0] at HC
 have q0:=(decide_eq_true (by omega) : decide (st < 0) = true)
 have HB:=zh (Below.refl w.heap.size w)
 clear h2 h3 g2 g3 hb e0
 go_enter Tryz.func27,Tryz.ntmps27
 go_wp2_with (first
  | ((with_reducible refine gate_dst (N:=2) rfl ?_);go_must (refine zx HB (N:=2) (cs:=#[.string b.f0,.int .i64 b.f1,.slice A2 b.f2.length c2,.slice A3 b.f3.length c3,.int .u64 b.f4]) (t:=26) ?hr ?_;(case hr=>first | (go_simp;done) | (go_simp;rfl));intro gb w1 Kgb Lgb HB hbelgb hqgb;clear hbelgb hqgb))
  | ((with_reducible refine gate_dst (N:=4) rfl ?_);go_must (refine zx HB (N:=4) (cs:=#[.string ⟨#[]⟩,.int .i64 0,.slice none 0 0,.slice none 0 0,.int .u64 0]) (t:=26) ?hr ?_;(case hr=>first | (go_simp;done) | (go_simp;rfl));intro go w2 Kgo Lgo HB hbelgo hqgo;have M1:=zh (show gb < go by rw [hqgo];exact blk_lt Kgb.out);have Kgb:=zk Kgb hbelgo;obtain ⟨a0,a1,a2,a3,a4⟩:=zz5 Kgb.out;clear hbelgo hqgo))
  | (go_at_call 25;go_must (refine (HC.out _ HB.out).mono ?_;rintro e w3 ⟨rfl,hb⟩;have HB:=keepB HB hb;have Kgb:=zk Kgb hb;have Kgo:=zk Kgo hb;obtain ⟨m0,m1,m2,m3,m4⟩:=zz5 Kgb.out;clear hb a0 a1 a2 a3 a4))
  | ((with_reducible refine gate_store (t:=26) (p:=4) (v:=.tmp 18) rfl ?_);go_must (refine zs 26 (.tmp 4) (.tmp 18) go 0 26 [.string b.f0,.int .i64 b.f1,.slice A2 b.f2.length c2,.slice A3 b.f3.length c3,.int .u64 b.f4] Kgo isz_bucket ?_;intro w5 hk ho;have HB:=zo ho HB Lgo;obtain ⟨z0,z1,z2,z3,z4⟩:=zz5 hk.out;clear hk ho)))
 refine bodyPost_ret (v:=.tuple #[.agg #[.string b.f0,.int .i64 b.f1,.slice A2 b.f2.length c2,.slice A3 b.f3.length c3,.int .u64 b.f4],.int .i64 1]) (by simp [results,Tryz.results27,go_sem,z0,z1,z2,z3,z4]) rfl ?_
 exact ⟨rfl,HB.out⟩
theorem turn_c (b : S26) (A2 A3 : Option Addr) (c2 c3 : Nat) (st : Int) (w : World) (h2 : Kd.C k56 w A2 b.f2.length b.f2) (g2 : b.f2.length ≤ c2) (h3 : Kd.C k101 w A3 b.f3.length b.f3) (g3 : b.f3.length ≤ c3) (hb : bucketB b = true) (hs : 2 < st) :
  Calls Tryz.prog 27 #[.agg #[.string b.f0,.int .i64 b.f1,.slice A2 b.f2.length c2,.slice A3 b.f3.length c3,.int .u64 b.f4],.int .i64 st] w fun e w'=>e = .returned (.tuple #[.agg #[.string b.f0,.int .i64 b.f1,.slice A2 b.f2.length c2,.slice A3 b.f3.length c3,.int .u64 b.f4],.int .i64 1]) ∧ Below w.heap.size w w':=by
 have HC:=zh (fun (W : World) (h : Below w.heap.size w W)=>bucket.walk b A2 A3 c2 c3 W (Kd.C_below h2 h) g2 (Kd.C_below h3 h) g3)
 have e0 : errB (bucketB b) = 0:=by rw [hb];rfl
 rw [e0] at HC
 have q0:=(decide_eq_false (by omega) : decide (st < 0) = false)
 have q1:=(decide_eq_true (by omega) : decide (2 < st) = true)
 have q2:=(decide_eq_true (by omega) : decide (st > 2) = true)
 have HB:=zh (Below.refl w.heap.size w)
 clear h2 h3 g2 g3 hb e0
 go_enter Tryz.func27,Tryz.ntmps27
 go_wp2_with (first
  | ((with_reducible refine gate_dst (N:=2) rfl ?_);go_must (refine zx HB (N:=2) (cs:=#[.string b.f0,.int .i64 b.f1,.slice A2 b.f2.length c2,.slice A3 b.f3.length c3,.int .u64 b.f4]) (t:=26) ?hr ?_;(case hr=>first | (go_simp;done) | (go_simp;rfl));intro gb w1 Kgb Lgb HB hbelgb hqgb;clear hbelgb hqgb))
  | ((with_reducible refine gate_dst (N:=4) rfl ?_);go_must (refine zx HB (N:=4) (cs:=#[.string ⟨#[]⟩,.int .i64 0,.slice none 0 0,.slice none 0 0,.int .u64 0]) (t:=26) ?hr ?_;(case hr=>first | (go_simp;done) | (go_simp;rfl));intro go w2 Kgo Lgo HB hbelgo hqgo;have M1:=zh (show gb < go by rw [hqgo];exact blk_lt Kgb.out);have Kgb:=zk Kgb hbelgo;obtain ⟨a0,a1,a2,a3,a4⟩:=zz5 Kgb.out;clear hbelgo hqgo))
  | (go_at_call 25;go_must (refine (HC.out _ HB.out).mono ?_;rintro e w3 ⟨rfl,hb⟩;have HB:=keepB HB hb;have Kgb:=zk Kgb hb;have Kgo:=zk Kgo hb;obtain ⟨m0,m1,m2,m3,m4⟩:=zz5 Kgb.out;clear hb a0 a1 a2 a3 a4))
  | ((with_reducible refine gate_store (t:=26) (p:=4) (v:=.tmp 18) rfl ?_);go_must (refine zs 26 (.tmp 4) (.tmp 18) go 0 26 [.string b.f0,.int .i64 b.f1,.slice A2 b.f2.length c2,.slice A3 b.f3.length c3,.int .u64 b.f4] Kgo isz_bucket ?_;intro w5 hk ho;have HB:=zo ho HB Lgo;obtain ⟨z0,z1,z2,z3,z4⟩:=zz5 hk.out;clear hk ho)))
 refine bodyPost_ret (v:=.tuple #[.agg #[.string b.f0,.int .i64 b.f1,.slice A2 b.f2.length c2,.slice A3 b.f3.length c3,.int .u64 b.f4],.int .i64 1]) (by simp [results,Tryz.results27,go_sem,z0,z1,z2,z3,z4]) rfl ?_
 exact ⟨rfl,HB.out⟩
theorem turn_d (b : S26) (A2 A3 : Option Addr) (c2 c3 : Nat) (w : World) (h2 : Kd.C k56 w A2 b.f2.length b.f2) (g2 : b.f2.length ≤ c2) (h3 : Kd.C k101 w A3 b.f3.length b.f3) (g3 : b.f3.length ≤ c3) (hb : bucketB b = true) (hf : b.f1 ≠ 0) :
  Calls Tryz.prog 27 #[.agg #[.string b.f0,.int .i64 b.f1,.slice A2 b.f2.length c2,.slice A3 b.f3.length c3,.int .u64 b.f4],.int .i64 0] w fun e w'=>e = .returned (.tuple #[.agg #[.string b.f0,.int .i64 b.f1,.slice A2 b.f2.length c2,.slice A3 b.f3.length c3,.int .u64 b.f4],.int .i64 8]) ∧ Below w.heap.size w w':=by
 have HC:=zh (fun (W : World) (h : Below w.heap.size w W)=>bucket.walk b A2 A3 c2 c3 W (Kd.C_below h2 h) g2 (Kd.C_below h3 h) g3)
 have e0 : errB (bucketB b) = 0:=by rw [hb];rfl
 rw [e0] at HC
 have r0 : (b.f1 == 0) = false:=beq_eq_false_iff_ne.2 hf
 have rn0 : (b.f1 != 0) = true:=by rw [bne,r0];rfl
 have HB:=zh (Below.refl w.heap.size w)
 clear h2 h3 g2 g3 hb e0
 go_enter Tryz.func27,Tryz.ntmps27
 go_wp2_with (first
  | ((with_reducible refine gate_dst (N:=2) rfl ?_);go_must (refine zx HB (N:=2) (cs:=#[.string b.f0,.int .i64 b.f1,.slice A2 b.f2.length c2,.slice A3 b.f3.length c3,.int .u64 b.f4]) (t:=26) ?hr ?_;(case hr=>first | (go_simp;done) | (go_simp;rfl));intro gb w1 Kgb Lgb HB hbelgb hqgb;clear hbelgb hqgb))
  | ((with_reducible refine gate_dst (N:=4) rfl ?_);go_must (refine zx HB (N:=4) (cs:=#[.string ⟨#[]⟩,.int .i64 0,.slice none 0 0,.slice none 0 0,.int .u64 0]) (t:=26) ?hr ?_;(case hr=>first | (go_simp;done) | (go_simp;rfl));intro go w2 Kgo Lgo HB hbelgo hqgo;have M1:=zh (show gb < go by rw [hqgo];exact blk_lt Kgb.out);have Kgb:=zk Kgb hbelgo;obtain ⟨a0,a1,a2,a3,a4⟩:=zz5 Kgb.out;clear hbelgo hqgo))
  | (go_at_call 25;go_must (refine (HC.out _ HB.out).mono ?_;rintro e w3 ⟨rfl,hb⟩;have HB:=keepB HB hb;have Kgb:=zk Kgb hb;have Kgo:=zk Kgo hb;obtain ⟨m0,m1,m2,m3,m4⟩:=zz5 Kgb.out;clear hb a0 a1 a2 a3 a4))
  | ((with_reducible refine gate_store (t:=26) (p:=4) (v:=.tmp 27) rfl ?_);go_must (refine zs 26 (.tmp 4) (.tmp 27) go 0 26 [.string b.f0,.int .i64 b.f1,.slice A2 b.f2.length c2,.slice A3 b.f3.length c3,.int .u64 b.f4] Kgo isz_bucket ?_;intro w5 hk ho;have HB:=zo ho HB Lgo;obtain ⟨z0,z1,z2,z3,z4⟩:=zz5 hk.out;clear hk ho)))
 refine bodyPost_ret (v:=.tuple #[.agg #[.string b.f0,.int .i64 b.f1,.slice A2 b.f2.length c2,.slice A3 b.f3.length c3,.int .u64 b.f4],.int .i64 8]) (by simp [results,Tryz.results27,go_sem,z0,z1,z2,z3,z4]) rfl ?_
 exact ⟨rfl,HB.out⟩
theorem turn_e (b : S26) (A2 A3 : Option Addr) (c2 c3 : Nat) (st : Int) (w : World) (h2 : Kd.C k56 w A2 b.f2.length b.f2) (g2 : b.f2.length ≤ c2) (h3 : Kd.C k101 w A3 b.f3.length b.f3) (g3 : b.f3.length ≤ c3) (hb : bucketB b = true) (hs : st = 0) (hf : b.f1 = 0) :
  Calls Tryz.prog 27 #[.agg #[.string b.f0,.int .i64 b.f1,.slice A2 b.f2.length c2,.slice A3 b.f3.length c3,.int .u64 b.f4],.int .i64 st] w fun e w'=>e = .returned (.tuple #[.agg #[.string b.f0,.int .i64 st,.slice A2 b.f2.length c2,.slice A3 b.f3.length c3,.int .u64 b.f4],.int .i64 0]) ∧ Below w.heap.size w w':=by
 have HC:=zh (fun (W : World) (h : Below w.heap.size w W)=>bucket.walk b A2 A3 c2 c3 W (Kd.C_below h2 h) g2 (Kd.C_below h3 h) g3)
 have e0 : errB (bucketB b) = 0:=by rw [hb];rfl
 rw [e0] at HC
 have q0:=(decide_eq_false (by omega) : decide (st < 0) = false)
 have q1:=(decide_eq_false (by omega) : decide (2 < st) = false)
 have q2:=(decide_eq_false (by omega) : decide (st > 2) = false)
 have r0 : (st == 0) = true:=beq_iff_eq.2 hs
 have rn0 : (st != 0) = false:=by rw [bne,r0];rfl
 have r1 : (b.f1 == 0) = true:=beq_iff_eq.2 hf
 have rn1 : (b.f1 != 0) = false:=by rw [bne,r1];rfl
 clear hs hf
 have HB:=zh (Below.refl w.heap.size w)
 clear h2 h3 g2 g3 hb e0
 go_enter Tryz.func27,Tryz.ntmps27
 go_wp2_with (first
  | ((with_reducible refine gate_dst (N:=2) rfl ?_);go_must (refine zx HB (N:=2) (cs:=#[.string b.f0,.int .i64 b.f1,.slice A2 b.f2.length c2,.slice A3 b.f3.length c3,.int .u64 b.f4]) (t:=26) ?hr ?_;(case hr=>first | (go_simp;done) | (go_simp;rfl));intro gb w1 Kgb Lgb HB hbelgb hqgb;clear hbelgb hqgb))
  | ((with_reducible refine gate_dst (N:=4) rfl ?_);go_must (refine zx HB (N:=4) (cs:=#[.string ⟨#[]⟩,.int .i64 0,.slice none 0 0,.slice none 0 0,.int .u64 0]) (t:=26) ?hr ?_;(case hr=>first | (go_simp;done) | (go_simp;rfl));intro go w2 Kgo Lgo HB hbelgo hqgo;have M1:=zh (show gb < go by rw [hqgo];exact blk_lt Kgb.out);have Kgb:=zk Kgb hbelgo;obtain ⟨a0,a1,a2,a3,a4⟩:=zz5 Kgb.out;clear hbelgo hqgo))
  | (go_at_call 25;go_must (refine (HC.out _ HB.out).mono ?_;rintro e w3 ⟨rfl,hb⟩;have HB:=keepB HB hb;have Kgb:=zk Kgb hb;have Kgo:=zk Kgo hb;obtain ⟨m0,m1,m2,m3,m4⟩:=zz5 Kgb.out;clear hb a0 a1 a2 a3 a4))
  | ((with_reducible refine gate_store (t:=3) (p:=29) (v:=.tmp 28) rfl ?_);go_must (refine zq 3 (.tmp 29) (.tmp 28) gb 1 26 (.int .i64 st) Kgb (by kernel_rfl) ?_;intro w4 hk ho;have Kgb : Hid (w4.heap[gb]? = some (.cells #[.string b.f0,.int .i64 st,.slice A2 b.f2.length c2,.slice A3 b.f3.length c3,.int .u64 b.f4] 26 (0,0))):=hk;have HB:=zo ho HB Lgb;have Kgo:=zl ho Kgo (by have:=M1.out;omega);obtain ⟨n0,n1,n2,n3,n4⟩:=zz5 Kgb.out;clear m0 m1 m2 m3 m4;clear hk ho))
  | ((with_reducible refine gate_store (t:=26) (p:=4) (v:=.tmp 30) rfl ?_);go_must (refine zs 26 (.tmp 4) (.tmp 30) go 0 26 [.string b.f0,.int .i64 st,.slice A2 b.f2.length c2,.slice A3 b.f3.length c3,.int .u64 b.f4] Kgo isz_bucket ?_;intro w5 hk ho;have HB:=zo ho HB Lgo;obtain ⟨z0,z1,z2,z3,z4⟩:=zz5 hk.out;clear hk ho)))
 refine bodyPost_ret (v:=.tuple #[.agg #[.string b.f0,.int .i64 st,.slice A2 b.f2.length c2,.slice A3 b.f3.length c3,.int .u64 b.f4],.int .i64 0]) (by simp [results,Tryz.results27,go_sem,z0,z1,z2,z3,z4]) rfl ?_
 exact ⟨rfl,HB.out⟩
theorem turn_f (b : S26) (A2 A3 : Option Addr) (c2 c3 : Nat) (st : Int) (w : World) (h2 : Kd.C k56 w A2 b.f2.length b.f2) (g2 : b.f2.length ≤ c2) (h3 : Kd.C k101 w A3 b.f3.length b.f3) (g3 : b.f3.length ≤ c3) (hb : bucketB b = true) (hs : 0 < st) (hs2 : st ≤ 2) :
  Calls Tryz.prog 27 #[.agg #[.string b.f0,.int .i64 b.f1,.slice A2 b.f2.length c2,.slice A3 b.f3.length c3,.int .u64 b.f4],.int .i64 st] w fun e w'=>e = .returned (.tuple #[.agg #[.string b.f0,.int .i64 st,.slice A2 b.f2.length c2,.slice A3 b.f3.length c3,.int .u64 b.f4],.int .i64 0]) ∧ Below w.heap.size w w':=by
 have HC:=zh (fun (W : World) (h : Below w.heap.size w W)=>bucket.walk b A2 A3 c2 c3 W (Kd.C_below h2 h) g2 (Kd.C_below h3 h) g3)
 have e0 : errB (bucketB b) = 0:=by rw [hb];rfl
 rw [e0] at HC
 have q0:=(decide_eq_false (by omega) : decide (st < 0) = false)
 have q1:=(decide_eq_false (by omega) : decide (2 < st) = false)
 have q2:=(decide_eq_false (by omega) : decide (st > 2) = false)
 have r0 : (st == 0) = false:=beq_eq_false_iff_ne.2 (by omega)
 have rn0 : (st != 0) = true:=by rw [bne,r0];rfl
 have HB:=zh (Below.refl w.heap.size w)
 clear h2 h3 g2 g3 hb e0
 go_enter Tryz.func27,Tryz.ntmps27
 go_wp2_with (first
  | ((with_reducible refine gate_dst (N:=2) rfl ?_);go_must (refine zx HB (N:=2) (cs:=#[.string b.f0,.int .i64 b.f1,.slice A2 b.f2.length c2,.slice A3 b.f3.length c3,.int .u64 b.f4]) (t:=26) ?hr ?_;(case hr=>first | (go_simp;done) | (go_simp;rfl));intro gb w1 Kgb Lgb HB hbelgb hqgb;clear hbelgb hqgb))
  | ((with_reducible refine gate_dst (N:=4) rfl ?_);go_must (refine zx HB (N:=4) (cs:=#[.string ⟨#[]⟩,.int .i64 0,.slice none 0 0,.slice none 0 0,.int .u64 0]) (t:=26) ?hr ?_;(case hr=>first | (go_simp;done) | (go_simp;rfl));intro go w2 Kgo Lgo HB hbelgo hqgo;have M1:=zh (show gb < go by rw [hqgo];exact blk_lt Kgb.out);have Kgb:=zk Kgb hbelgo;obtain ⟨a0,a1,a2,a3,a4⟩:=zz5 Kgb.out;clear hbelgo hqgo))
  | (go_at_call 25;go_must (refine (HC.out _ HB.out).mono ?_;rintro e w3 ⟨rfl,hb⟩;have HB:=keepB HB hb;have Kgb:=zk Kgb hb;have Kgo:=zk Kgo hb;obtain ⟨m0,m1,m2,m3,m4⟩:=zz5 Kgb.out;clear hb a0 a1 a2 a3 a4))
  | ((with_reducible refine gate_store (t:=3) (p:=29) (v:=.tmp 28) rfl ?_);go_must (refine zq 3 (.tmp 29) (.tmp 28) gb 1 26 (.int .i64 st) Kgb (by kernel_rfl) ?_;intro w4 hk ho;have Kgb : Hid (w4.heap[gb]? = some (.cells #[.string b.f0,.int .i64 st,.slice A2 b.f2.length c2,.slice A3 b.f3.length c3,.int .u64 b.f4] 26 (0,0))):=hk;have HB:=zo ho HB Lgb;have Kgo:=zl ho Kgo (by have:=M1.out;omega);obtain ⟨n0,n1,n2,n3,n4⟩:=zz5 Kgb.out;clear m0 m1 m2 m3 m4;clear hk ho))
  | ((with_reducible refine gate_store (t:=26) (p:=4) (v:=.tmp 30) rfl ?_);go_must (refine zs 26 (.tmp 4) (.tmp 30) go 0 26 [.string b.f0,.int .i64 st,.slice A2 b.f2.length c2,.slice A3 b.f3.length c3,.int .u64 b.f4] Kgo isz_bucket ?_;intro w5 hk ho;have HB:=zo ho HB Lgo;obtain ⟨z0,z1,z2,z3,z4⟩:=zz5 hk.out;clear hk ho)))
 refine bodyPost_ret (v:=.tuple #[.agg #[.string b.f0,.int .i64 st,.slice A2 b.f2.length c2,.slice A3 b.f3.length c3,.int .u64 b.f4],.int .i64 0]) (by simp [results,Tryz.results27,go_sem,z0,z1,z2,z3,z4]) rfl ?_
 exact ⟨rfl,HB.out⟩
theorem turnB.walk (b : S26) (A2 A3 : Option Addr) (c2 c3 : Nat) (st : Int) (w : World) (h2 : Kd.C k56 w A2 b.f2.length b.f2) (g2 : b.f2.length ≤ c2) (h3 : Kd.C k101 w A3 b.f3.length b.f3) (g3 : b.f3.length ≤ c3) :
  Calls Tryz.prog 27 #[.agg #[.string b.f0,.int .i64 b.f1,.slice A2 b.f2.length c2,.slice A3 b.f3.length c3,.int .u64 b.f4],.int .i64 st] w (BkPost (turnB b st).1 [.int .i64 (turnB b st).2] w):=by
 have fin : ∀ (x : S26) (er : Int),x.f2 = b.f2 → x.f3 = b.f3 → Calls Tryz.prog 27 #[.agg #[.string b.f0,.int .i64 b.f1,.slice A2 b.f2.length c2,.slice A3 b.f3.length c3,.int .u64 b.f4],.int .i64 st] w (fun e w'=>e = .returned (.tuple #[.agg #[.string x.f0,.int .i64 x.f1,.slice A2 b.f2.length c2,.slice A3 b.f3.length c3,.int .u64 x.f4],.int .i64 er]) ∧ Below w.heap.size w w') → Calls Tryz.prog 27 #[.agg #[.string b.f0,.int .i64 b.f1,.slice A2 b.f2.length c2,.slice A3 b.f3.length c3,.int .u64 b.f4],.int .i64 st] w (BkPost x [.int .i64 er] w):=by
  intro x er e2 e3 h
  refine h.mono ?_
  rintro e w' ⟨rfl,hb⟩
  exact ⟨_,rfl,⟨A2,c2,A3,c3,by rw [e2,e3],by rw [e2];exact g2,by rw [e3];exact g3,by rw [e2];exact Kd.C_below h2 hb,by rw [e3];exact Kd.C_below h3 hb⟩,hb⟩
 unfold turnB
 cases hb : bucketB b with
 | false=>rw [if_pos (Or.inl rfl)];exact fin b 1 rfl rfl (turn_a b A2 A3 c2 c3 st w h2 g2 h3 g3 hb)
 | true =>
  by_cases s0 : st < 0
  ·rw [if_pos (Or.inr (Or.inl s0))];exact fin b 1 rfl rfl (turn_b b A2 A3 c2 c3 st w h2 g2 h3 g3 hb s0)
  ·by_cases s2 : 2 < st
   ·rw [if_pos (Or.inr (Or.inr s2))];exact fin b 1 rfl rfl (turn_c b A2 A3 c2 c3 st w h2 g2 h3 g3 hb s2)
   ·rw [if_neg (by rintro (h | h | h);cases h;exact s0 h;exact s2 h)]
    by_cases z : st = 0
    ·by_cases hf : b.f1 = 0
     ·rw [if_neg (by rintro ⟨_,h⟩;exact h hf)];exact fin ⟨b.f0,st,b.f2,b.f3,b.f4⟩ 0 rfl rfl (turn_e b A2 A3 c2 c3 st w h2 g2 h3 g3 hb z hf)
     ·subst z;rw [if_pos ⟨rfl,hf⟩];exact fin b 8 rfl rfl (turn_d b A2 A3 c2 c3 w h2 g2 h3 g3 hb hf)
    ·rw [if_neg (by rintro ⟨h,_⟩;exact z h)];exact fin ⟨b.f0,st,b.f2,b.f3,b.f4⟩ 0 rfl rfl (turn_f b A2 A3 c2 c3 st w h2 g2 h3 g3 hb (by omega) (by omega))
end
section
open Go.WideMaps Go.Maps
attribute [local go_sem] Oper.semAt_some
def getB (b : S26) (key : ByteArray) : S47 × Int:=if openR b key = 0 then atV (getE b.f2 key) 0 else (z47,openR b key)
def findB (b : S26) (key : ByteArray) (id : Int) : S47 × Int:=if openR b key = 0 then atV (getE b.f2 key) (posI ((getE b.f2 key).findIdx? (idB id))) else (z47,openR b key)
theorem getB_ok (b : S26) (A2 A3 : Option Addr) (c2 c3 : Nat) (key : ByteArray) (w : World) (h2 : Kd.C k56 w A2 b.f2.length b.f2) (g2 : b.f2.length ≤ c2) (h3 : Kd.C k101 w A3 b.f3.length b.f3) (g3 : b.f3.length ≤ c3) (ho : openR b key = 0) :
  Calls Tryz.prog 18 #[.agg #[.string b.f0,.int .i64 b.f1,.slice A2 b.f2.length c2,.slice A3 b.f3.length c3,.int .u64 b.f4],.string key] w (OnePost (atV (getE b.f2 key) 0).1 (atV (getE b.f2 key) 0).2 w):=by
 have H2:=zh (fun (W : World) (h : Below w.heap.size w W)=>Kd.C_below h2 h)
 have H3:=zh (fun (W : World) (h : Below w.heap.size w W)=>Kd.C_below h3 h)
 have HOP:=zh (fun (W : World) (h : Below w.heap.size w W)=>open.walk b A2 A3 c2 c3 key W (Kd.C_below h2 h) g2 (Kd.C_below h3 h) g3)
 rw [ho] at HOP
 have hn : ∀ x ∈ b.f2,x.f1.length ≤ 1000000:=fun x hx=>by have:=((index_mem (bucket_at (open_0 ho).1).2.1) x hx).2.2;have:=chain_le this;omega
 have HGE:=zh (fun (W : World) (h : Below w.heap.size w W)=>getE.walk A2 c2 b.f2 key W (Kd.C_below h2 h) hn)
 have HCH:=zh (fun (A : Option Addr) (c : Nat) (W : World) (h : Kd.C k47 W A (getE b.f2 key).length (getE b.f2 key))=>getV.walk A c (getE b.f2 key) W h)
 generalize getE b.f2 key = ch at *
 generalize atV ch 0 = r at *
 obtain ⟨x,er⟩:=r
 clear hn
 have HB:=zh (Below.refl w.heap.size w)
 clear h2 h3 g2 g3 ho
 go_enter Tryz.func18,Tryz.ntmps18
 go_wp2_with (first
  | ((with_reducible refine gate_dst (N:=2) rfl ?_);go_must (refine zx HB (N:=2) (cs:=#[.string b.f0,.int .i64 b.f1,.slice A2 b.f2.length c2,.slice A3 b.f3.length c3,.int .u64 b.f4]) (t:=26) ?hr ?_;(case hr=>first | (go_simp;done) | (go_simp;rfl));intro gb w1 Kgb Lgb HB hbelgb hqgb;clear hbelgb hqgb))
  | ((with_reducible refine gate_dst (N:=4) rfl ?_);go_must (refine zx HB (N:=4) (cs:=#[.int .u64 0,.string ⟨#[]⟩,.bool false,.int .i64 0]) (t:=47) ?hr ?_;(case hr=>first | (go_simp;done) | (go_simp;rfl));intro go w2 Kgo Lgo HB hbelgo hqgo;have M1:=zh (show gb < go by rw [hqgo];exact blk_lt Kgb.out);have Kgb:=zk Kgb hbelgo;obtain ⟨a0,a1,a2,a3,a4⟩:=zz5 Kgb.out;clear hbelgo hqgo))
  | (go_at_call 32;go_must (refine (HOP.out _ HB.out).mono ?_;rintro e w3 ⟨g,rfl,hgl,hk,hb⟩;have Kg:=hk;have HB:=keepB HB hb.out;have LG:=zh (show w.heap.size ≤ g by have:=hgl;have:=Lgo.out;have:=blk_lt Kgo.out;omega);have Kgb:=zk Kgb hb.out;have Kgo:=zk Kgo hb.out;obtain ⟨m0,m1,m2,m3,m4⟩:=zz5 Kgb.out;have k5:=zb Kg.out 5 (.int .i64 0);clear hk hgl a0 a1 a2 a3 a4 hb))
  | (go_at_call 49;go_must (refine (HGE.out _ HB.out).mono ?_;rintro e w4 ⟨A',c',rfl,hc',hC',hb⟩;have HC':=hC';have HB:=keepB HB hb;have Kgo:=zk Kgo hb;clear hb hC' k5 m0 m1 m2 m3 m4))
  | (go_at_call 48;go_must (refine (HCH.out _ _ _ HC'.out).mono ?_;rintro e w5 ⟨rfl,hb⟩;have HB:=keepB HB hb;have Kgo:=zk Kgo hb;clear hb))
  | ((with_reducible refine gate_store (t:=47) (p:=4) (v:=.tmp 25) rfl ?_);go_must (refine zs 47 (.tmp 4) (.tmp 25) go 0 47 [.int .u64 x.f0,.string x.f1,.bool x.f2,.int .i64 x.f3] Kgo (by kernel_rfl) ?_;intro w6 hk ho;have HB:=zo ho HB Lgo;obtain ⟨z0,z1,z2,z3⟩:=zz4 hk.out;clear hk ho)))
 refine bodyPost_ret (v:=.tuple #[.agg #[.int .u64 x.f0,.string x.f1,.bool x.f2,.int .i64 x.f3],.int .i64 er]) (by simp [results,Tryz.results18,go_sem,z0,z1,z2,z3]) rfl ?_
 exact ⟨rfl,HB.out⟩
theorem getB_no (b : S26) (A2 A3 : Option Addr) (c2 c3 : Nat) (key : ByteArray) (w : World) (h2 : Kd.C k56 w A2 b.f2.length b.f2) (g2 : b.f2.length ≤ c2) (h3 : Kd.C k101 w A3 b.f3.length b.f3) (g3 : b.f3.length ≤ c3) (ho : openR b key ≠ 0) :
  Calls Tryz.prog 18 #[.agg #[.string b.f0,.int .i64 b.f1,.slice A2 b.f2.length c2,.slice A3 b.f3.length c3,.int .u64 b.f4],.string key] w (OnePost z47 (openR b key) w):=by
 have H2:=zh (fun (W : World) (h : Below w.heap.size w W)=>Kd.C_below h2 h)
 have H3:=zh (fun (W : World) (h : Below w.heap.size w W)=>Kd.C_below h3 h)
 have HOP:=zh (fun (W : World) (h : Below w.heap.size w W)=>open.walk b A2 A3 c2 c3 key W (Kd.C_below h2 h) g2 (Kd.C_below h3 h) g3)
 generalize openR b key = e0 at *
 have q0 : (e0 == 0) = false:=beq_eq_false_iff_ne.2 ho
 have q1 : (e0 != 0) = true:=by rw [bne,q0];rfl
 have HB:=zh (Below.refl w.heap.size w)
 clear h2 h3 g2 g3 ho
 go_enter Tryz.func18,Tryz.ntmps18
 go_wp2_with (first
  | ((with_reducible refine gate_dst (N:=2) rfl ?_);go_must (refine zx HB (N:=2) (cs:=#[.string b.f0,.int .i64 b.f1,.slice A2 b.f2.length c2,.slice A3 b.f3.length c3,.int .u64 b.f4]) (t:=26) ?hr ?_;(case hr=>first | (go_simp;done) | (go_simp;rfl));intro gb w1 Kgb Lgb HB hbelgb hqgb;clear hbelgb hqgb))
  | ((with_reducible refine gate_dst (N:=4) rfl ?_);go_must (refine zx HB (N:=4) (cs:=#[.int .u64 0,.string ⟨#[]⟩,.bool false,.int .i64 0]) (t:=47) ?hr ?_;(case hr=>first | (go_simp;done) | (go_simp;rfl));intro go w2 Kgo Lgo HB hbelgo hqgo;have M1:=zh (show gb < go by rw [hqgo];exact blk_lt Kgb.out);have Kgb:=zk Kgb hbelgo;obtain ⟨a0,a1,a2,a3,a4⟩:=zz5 Kgb.out;clear hbelgo hqgo))
  | (go_at_call 32;go_must (refine (HOP.out _ HB.out).mono ?_;rintro e w3 ⟨g,rfl,hgl,hk,hb⟩;have Kg:=hk;have HB:=keepB HB hb.out;have MG:=zh (show g ≠ go by have:=hgl;have:=blk_lt Kgo.out;omega);have LG:=zh (show w.heap.size ≤ g by have:=hgl;have:=Lgo.out;have:=blk_lt Kgo.out;omega);have Kgb:=zk Kgb hb.out;have Kgo:=zk Kgo hb.out;have k5:=zb Kg.out 5 (.int .i64 e0);clear hk hgl a0 a1 a2 a3 a4 hb)))
 refine wp_region_held_drew (S:=fun W=>W.heap[g]? = some (.cells #[.string b.f0,.int .i64 b.f1,.slice A2 b.f2.length c2,.slice A3 b.f3.length c3,.int .u64 b.f4,.int .i64 e0] 87 (0,0)) ∧ W.cell? ⟨g,5,none⟩ = some (.int .i64 e0) ∧ (∃ q0 q1 q2 q3,W.heap[go]? = some (.cells #[q0,q1,q2,q3] 47 (0,0))) ∧ Below w.heap.size w W) (by kernel_rfl) ?_ (fun hHeld=>?_)
 ·exact ⟨blk_drew Kg.out,(blk_cell (blk_drew Kg.out) 5).trans rfl,⟨_,_,_,_,blk_drew Kgo.out⟩,HB.out.drew⟩
 clear Kg Kgo Kgb HB k5
 refine zt 0 (v:=?v0g1) ?y0g1 ?r0g1
 case y0g1=>(rintro w ⟨s0,s1,s2,s3⟩;go_simp;try with_reducible rfl)
 try simp only [zA,zB,zC,Act.put,zD,zE,zF]
 refine zt 1 (v:=?v1g1) ?y1g1 ?r1g1
 case y1g1=>(rintro w ⟨s0,s1,s2,s3⟩;go_simp;try with_reducible rfl)
 try simp only [zA,zB,zC,Act.put,zD,zE,zF]
 refine zt 2 (v:=?v2g1) ?y2g1 ?r2g1
 case y2g1=>(rintro w ⟨s0,s1,s2,s3⟩;go_simp;try with_reducible rfl)
 try simp only [zA,zB,zC,Act.put,zD,zE,zF]
 refine zt 3 (v:=?v3g1) ?y3g1 ?r3g1
 case y3g1=>(rintro w ⟨s0,s1,s2,s3⟩;go_simp;try with_reducible rfl)
 try simp only [zA,zB,zC,Act.put,zD,zE,zF]
 refine zt 4 (v:=?v4g1) ?y4g1 ?r4g1
 case y4g1=>(rintro w ⟨s0,s1,s2,s3⟩;go_simp;try with_reducible rfl)
 try simp only [zA,zB,zC,Act.put,zD,zE,zF]
 refine wpAnyH_ready (rs:=[5]) (by kernel_rfl) (by simp) ?_
 refine AllReadyH.cons (o:=_) rfl (fun K hK=>?_) AllReadyH.nil
 rw [if_pos (by rfl)]
 obtain ⟨s0,s1,s2,s3⟩:=hHeld
 obtain ⟨q0,q1,q2,q3,s2⟩:=s2
 refine wp_store_row rfl 47 (.tmp 4) (.tmp 15) rfl go 0 _ 47 (.agg #[.int .u64 0,.string ⟨#[]⟩,.bool false,.int .i64 0]) [.int .u64 0,.string ⟨#[]⟩,.bool false,.int .i64 0] rfl rfl s2 rfl (by kernel_rfl) (by show 0 + 4 ≤ 4;decide) (by simp [Value.oneCell']) ?_
 intro w14 hk ho
 have KZ : Hid (w14.heap[go]? = some (.cells #[.int .u64 0,.string ⟨#[]⟩,.bool false,.int .i64 0] 47 (0,0))):=hk
 have HBZ:=zh (ho.out.below s3 s3.size Lgo.out)
 have KG2:=zh (ho.out.blk s0 (by have:=MG.out;omega))
 refine hK.out _ _ ⟨KG2.out,zj KG2 5,⟨_,_,_,_,hk.out⟩,HBZ.out⟩ (fun hHeld=>?_)
 clear hK K hk ho q0 q1 q2 q3 s0 s1 s2 s3
 try simp only [zA,zB,zC,Act.put,zD,zE,zF]
 refine zt 6 (v:=?v6g1) ?y6g1 ?r6g1
 case y6g1=>(rintro w ⟨s0,s1,s2,s3⟩;go_simp;try with_reducible rfl)
 try simp only [zA,zB,zC,Act.put,zD,zE,zF]
 refine wpAnyH_done (by kernel_rfl) ?_ _
 go_wp2
 have z0:=zb KZ.out 0 (.int .u64 0)
 have z1:=zb KZ.out 1 (.string ⟨#[]⟩)
 have z2:=zb KZ.out 2 (.bool false)
 have z3:=zb KZ.out 3 (.int .i64 0)
 refine bodyPost_ret (v:=.tuple #[.agg #[.int .u64 0,.string ⟨#[]⟩,.bool false,.int .i64 0],.int .i64 e0]) (by simp [results,Tryz.results18,go_sem,z0,z1,z2,z3]) rfl ?_
 exact ⟨rfl,HBZ.out⟩
theorem getB.walk (b : S26) (A2 A3 : Option Addr) (c2 c3 : Nat) (key : ByteArray) (w : World) (h2 : Kd.C k56 w A2 b.f2.length b.f2) (g2 : b.f2.length ≤ c2) (h3 : Kd.C k101 w A3 b.f3.length b.f3) (g3 : b.f3.length ≤ c3) :
  Calls Tryz.prog 18 #[.agg #[.string b.f0,.int .i64 b.f1,.slice A2 b.f2.length c2,.slice A3 b.f3.length c3,.int .u64 b.f4],.string key] w (OnePost (getB b key).1 (getB b key).2 w):=by
 unfold getB
 by_cases ho : openR b key = 0
 ·rw [if_pos ho];exact getB_ok b A2 A3 c2 c3 key w h2 g2 h3 g3 ho
 ·rw [if_neg ho];exact getB_no b A2 A3 c2 c3 key w h2 g2 h3 g3 ho
theorem findB_ok (b : S26) (A2 A3 : Option Addr) (c2 c3 : Nat) (key : ByteArray) (id : Int) (w : World) (h2 : Kd.C k56 w A2 b.f2.length b.f2) (g2 : b.f2.length ≤ c2) (h3 : Kd.C k101 w A3 b.f3.length b.f3) (g3 : b.f3.length ≤ c3) (ho : openR b key = 0) :
  Calls Tryz.prog 29 #[.agg #[.string b.f0,.int .i64 b.f1,.slice A2 b.f2.length c2,.slice A3 b.f3.length c3,.int .u64 b.f4],.string key,.int .u64 id] w (OnePost (atV (getE b.f2 key) (posI ((getE b.f2 key).findIdx? (idB id)))).1 (atV (getE b.f2 key) (posI ((getE b.f2 key).findIdx? (idB id)))).2 w):=by
 have H2:=zh (fun (W : World) (h : Below w.heap.size w W)=>Kd.C_below h2 h)
 have H3:=zh (fun (W : World) (h : Below w.heap.size w W)=>Kd.C_below h3 h)
 have HOP:=zh (fun (W : World) (h : Below w.heap.size w W)=>open.walk b A2 A3 c2 c3 key W (Kd.C_below h2 h) g2 (Kd.C_below h3 h) g3)
 rw [ho] at HOP
 have hn : ∀ x ∈ b.f2,x.f1.length ≤ 1000000:=fun x hx=>by have:=((index_mem (bucket_at (open_0 ho).1).2.1) x hx).2.2;have:=chain_le this;omega
 have HGE:=zh (fun (W : World) (h : Below w.heap.size w W)=>getE.walk A2 c2 b.f2 key W (Kd.C_below h2 h) hn)
 have HCH:=zh (fun (A : Option Addr) (c : Nat) (W : World) (h : Kd.C k47 W A (getE b.f2 key).length (getE b.f2 key))=>findIn.walk A c (getE b.f2 key) id W h)
 generalize getE b.f2 key = ch at *
 generalize atV ch (posI (ch.findIdx? (idB id))) = r at *
 obtain ⟨x,er⟩:=r
 clear hn
 have HB:=zh (Below.refl w.heap.size w)
 clear h2 h3 g2 g3 ho
 go_enter Tryz.func29,Tryz.ntmps29
 go_wp2_with (first
  | ((with_reducible refine gate_dst (N:=3) rfl ?_);go_must (refine zx HB (N:=3) (cs:=#[.string b.f0,.int .i64 b.f1,.slice A2 b.f2.length c2,.slice A3 b.f3.length c3,.int .u64 b.f4]) (t:=26) ?hr ?_;(case hr=>first | (go_simp;done) | (go_simp;rfl));intro gb w1 Kgb Lgb HB hbelgb hqgb;clear hbelgb hqgb))
  | ((with_reducible refine gate_dst (N:=6) rfl ?_);go_must (refine zx HB (N:=6) (cs:=#[.int .u64 0,.string ⟨#[]⟩,.bool false,.int .i64 0]) (t:=47) ?hr ?_;(case hr=>first | (go_simp;done) | (go_simp;rfl));intro go w2 Kgo Lgo HB hbelgo hqgo;have M1:=zh (show gb < go by rw [hqgo];exact blk_lt Kgb.out);have Kgb:=zk Kgb hbelgo;obtain ⟨a0,a1,a2,a3,a4⟩:=zz5 Kgb.out;clear hbelgo hqgo))
  | (go_at_call 32;go_must (refine (HOP.out _ HB.out).mono ?_;rintro e w3 ⟨g,rfl,hgl,hk,hb⟩;have Kg:=hk;have HB:=keepB HB hb.out;have LG:=zh (show w.heap.size ≤ g by have:=hgl;have:=Lgo.out;have:=blk_lt Kgo.out;omega);have Kgb:=zk Kgb hb.out;have Kgo:=zk Kgo hb.out;obtain ⟨m0,m1,m2,m3,m4⟩:=zz5 Kgb.out;have k5:=zb Kg.out 5 (.int .i64 0);clear hk hgl a0 a1 a2 a3 a4 hb))
  | (go_at_call 49;go_must (refine (HGE.out _ HB.out).mono ?_;rintro e w4 ⟨A',c',rfl,hc',hC',hb⟩;have HC':=hC';have HB:=keepB HB hb;have Kgo:=zk Kgo hb;clear hb hC' k5 m0 m1 m2 m3 m4))
  | (go_at_call 74;go_must (refine (HCH.out _ _ _ HC'.out).mono ?_;rintro e w5 ⟨rfl,hb⟩;have HB:=keepB HB hb;have Kgo:=zk Kgo hb;clear hb))
  | ((with_reducible refine gate_store (t:=47) (p:=6) (v:=.tmp 28) rfl ?_);go_must (refine zs 47 (.tmp 6) (.tmp 28) go 0 47 [.int .u64 x.f0,.string x.f1,.bool x.f2,.int .i64 x.f3] Kgo (by kernel_rfl) ?_;intro w6 hk ho;have HB:=zo ho HB Lgo;obtain ⟨z0,z1,z2,z3⟩:=zz4 hk.out;clear hk ho)))
 refine bodyPost_ret (v:=.tuple #[.agg #[.int .u64 x.f0,.string x.f1,.bool x.f2,.int .i64 x.f3],.int .i64 er]) (by simp [results,Tryz.results29,go_sem,z0,z1,z2,z3]) rfl ?_
 exact ⟨rfl,HB.out⟩
theorem findB_no (b : S26) (A2 A3 : Option Addr) (c2 c3 : Nat) (key : ByteArray) (id : Int) (w : World) (h2 : Kd.C k56 w A2 b.f2.length b.f2) (g2 : b.f2.length ≤ c2) (h3 : Kd.C k101 w A3 b.f3.length b.f3) (g3 : b.f3.length ≤ c3) (ho : openR b key ≠ 0) :
  Calls Tryz.prog 29 #[.agg #[.string b.f0,.int .i64 b.f1,.slice A2 b.f2.length c2,.slice A3 b.f3.length c3,.int .u64 b.f4],.string key,.int .u64 id] w (OnePost z47 (openR b key) w):=by
 have H2:=zh (fun (W : World) (h : Below w.heap.size w W)=>Kd.C_below h2 h)
 have H3:=zh (fun (W : World) (h : Below w.heap.size w W)=>Kd.C_below h3 h)
 have HOP:=zh (fun (W : World) (h : Below w.heap.size w W)=>open.walk b A2 A3 c2 c3 key W (Kd.C_below h2 h) g2 (Kd.C_below h3 h) g3)
 generalize openR b key = e0 at *
 have q0 : (e0 == 0) = false:=beq_eq_false_iff_ne.2 ho
 have q1 : (e0 != 0) = true:=by rw [bne,q0];rfl
 have HB:=zh (Below.refl w.heap.size w)
 clear h2 h3 g2 g3 ho
 go_enter Tryz.func29,Tryz.ntmps29
 go_wp2_with (first
  | ((with_reducible refine gate_dst (N:=3) rfl ?_);go_must (refine zx HB (N:=3) (cs:=#[.string b.f0,.int .i64 b.f1,.slice A2 b.f2.length c2,.slice A3 b.f3.length c3,.int .u64 b.f4]) (t:=26) ?hr ?_;(case hr=>first | (go_simp;done) | (go_simp;rfl));intro gb w1 Kgb Lgb HB hbelgb hqgb;clear hbelgb hqgb))
  | ((with_reducible refine gate_dst (N:=6) rfl ?_);go_must (refine zx HB (N:=6) (cs:=#[.int .u64 0,.string ⟨#[]⟩,.bool false,.int .i64 0]) (t:=47) ?hr ?_;(case hr=>first | (go_simp;done) | (go_simp;rfl));intro go w2 Kgo Lgo HB hbelgo hqgo;have M1:=zh (show gb < go by rw [hqgo];exact blk_lt Kgb.out);have Kgb:=zk Kgb hbelgo;obtain ⟨a0,a1,a2,a3,a4⟩:=zz5 Kgb.out;clear hbelgo hqgo))
  | (go_at_call 32;go_must (refine (HOP.out _ HB.out).mono ?_;rintro e w3 ⟨g,rfl,hgl,hk,hb⟩;have Kg:=hk;have HB:=keepB HB hb.out;have MG:=zh (show g ≠ go by have:=hgl;have:=blk_lt Kgo.out;omega);have LG:=zh (show w.heap.size ≤ g by have:=hgl;have:=Lgo.out;have:=blk_lt Kgo.out;omega);have Kgb:=zk Kgb hb.out;have Kgo:=zk Kgo hb.out;have k5:=zb Kg.out 5 (.int .i64 e0);clear hk hgl a0 a1 a2 a3 a4 hb)))
 refine wp_region_held_drew (S:=fun W=>W.heap[g]? = some (.cells #[.string b.f0,.int .i64 b.f1,.slice A2 b.f2.length c2,.slice A3 b.f3.length c3,.int .u64 b.f4,.int .i64 e0] 87 (0,0)) ∧ W.cell? ⟨g,5,none⟩ = some (.int .i64 e0) ∧ (∃ q0 q1 q2 q3,W.heap[go]? = some (.cells #[q0,q1,q2,q3] 47 (0,0))) ∧ Below w.heap.size w W) (by kernel_rfl) ?_ (fun hHeld=>?_)
 ·exact ⟨blk_drew Kg.out,(blk_cell (blk_drew Kg.out) 5).trans rfl,⟨_,_,_,_,blk_drew Kgo.out⟩,HB.out.drew⟩
 clear Kg Kgo Kgb HB k5
 refine zt 0 (v:=?v0g2) ?y0g2 ?r0g2
 case y0g2=>(rintro w ⟨s0,s1,s2,s3⟩;go_simp;try with_reducible rfl)
 try simp only [zA,zB,zC,Act.put,zD,zE,zF]
 refine zt 1 (v:=?v1g2) ?y1g2 ?r1g2
 case y1g2=>(rintro w ⟨s0,s1,s2,s3⟩;go_simp;try with_reducible rfl)
 try simp only [zA,zB,zC,Act.put,zD,zE,zF]
 refine zt 2 (v:=?v2g2) ?y2g2 ?r2g2
 case y2g2=>(rintro w ⟨s0,s1,s2,s3⟩;go_simp;try with_reducible rfl)
 try simp only [zA,zB,zC,Act.put,zD,zE,zF]
 refine zt 3 (v:=?v3g2) ?y3g2 ?r3g2
 case y3g2=>(rintro w ⟨s0,s1,s2,s3⟩;go_simp;try with_reducible rfl)
 try simp only [zA,zB,zC,Act.put,zD,zE,zF]
 refine zt 4 (v:=?v4g2) ?y4g2 ?r4g2
 case y4g2=>(rintro w ⟨s0,s1,s2,s3⟩;go_simp;try with_reducible rfl)
 try simp only [zA,zB,zC,Act.put,zD,zE,zF]
 refine wpAnyH_ready (rs:=[5]) (by kernel_rfl) (by simp) ?_
 refine AllReadyH.cons (o:=_) rfl (fun K hK=>?_) AllReadyH.nil
 rw [if_pos (by rfl)]
 obtain ⟨s0,s1,s2,s3⟩:=hHeld
 obtain ⟨q0,q1,q2,q3,s2⟩:=s2
 refine wp_store_row rfl 47 (.tmp 6) (.tmp 17) rfl go 0 _ 47 (.agg #[.int .u64 0,.string ⟨#[]⟩,.bool false,.int .i64 0]) [.int .u64 0,.string ⟨#[]⟩,.bool false,.int .i64 0] rfl rfl s2 rfl (by kernel_rfl) (by show 0 + 4 ≤ 4;decide) (by simp [Value.oneCell']) ?_
 intro w14 hk ho
 have KZ : Hid (w14.heap[go]? = some (.cells #[.int .u64 0,.string ⟨#[]⟩,.bool false,.int .i64 0] 47 (0,0))):=hk
 have HBZ:=zh (ho.out.below s3 s3.size Lgo.out)
 have KG2:=zh (ho.out.blk s0 (by have:=MG.out;omega))
 refine hK.out _ _ ⟨KG2.out,zj KG2 5,⟨_,_,_,_,hk.out⟩,HBZ.out⟩ (fun hHeld=>?_)
 clear hK K hk ho q0 q1 q2 q3 s0 s1 s2 s3
 try simp only [zA,zB,zC,Act.put,zD,zE,zF]
 refine zt 6 (v:=?v6g2) ?y6g2 ?r6g2
 case y6g2=>(rintro w ⟨s0,s1,s2,s3⟩;go_simp;try with_reducible rfl)
 try simp only [zA,zB,zC,Act.put,zD,zE,zF]
 refine wpAnyH_done (by kernel_rfl) ?_ _
 go_wp2
 have z0:=zb KZ.out 0 (.int .u64 0)
 have z1:=zb KZ.out 1 (.string ⟨#[]⟩)
 have z2:=zb KZ.out 2 (.bool false)
 have z3:=zb KZ.out 3 (.int .i64 0)
 refine bodyPost_ret (v:=.tuple #[.agg #[.int .u64 0,.string ⟨#[]⟩,.bool false,.int .i64 0],.int .i64 e0]) (by simp [results,Tryz.results29,go_sem,z0,z1,z2,z3]) rfl ?_
 exact ⟨rfl,HBZ.out⟩
theorem findB.walk (b : S26) (A2 A3 : Option Addr) (c2 c3 : Nat) (key : ByteArray) (id : Int) (w : World) (h2 : Kd.C k56 w A2 b.f2.length b.f2) (g2 : b.f2.length ≤ c2) (h3 : Kd.C k101 w A3 b.f3.length b.f3) (g3 : b.f3.length ≤ c3) :
  Calls Tryz.prog 29 #[.agg #[.string b.f0,.int .i64 b.f1,.slice A2 b.f2.length c2,.slice A3 b.f3.length c3,.int .u64 b.f4],.string key,.int .u64 id] w (OnePost (findB b key id).1 (findB b key id).2 w):=by
 unfold findB
 by_cases ho : openR b key = 0
 ·rw [if_pos ho];exact findB_ok b A2 A3 c2 c3 key id w h2 g2 h3 g3 ho
 ·rw [if_neg ho];exact findB_no b A2 A3 c2 c3 key id w h2 g2 h3 g3 ho
end
section
open Go.WideMaps Go.Maps
theorem pairInt_of {l : List Int} (h : ∀ j (hj : j + 1 < l.length),l[j] < l[j + 1]) : l.Pairwise (· < ·):=by
 rw [List.pairwise_iff_getElem]
 intro i j hi hj hij
 induction j with
 | zero=>omega
 | succ j ih =>
  rcases Nat.eq_or_lt_of_le (Nat.le_of_lt_succ hij) with rfl | h2
  ·exact h i hj
  ·exact Int.lt_trans (ih (by omega) h2) (h j hj)
theorem adjInt_of {l : List Int} (h : l.Pairwise (· < ·)) (j : Nat) (hj : j + 1 < l.length) : l[j] < l[j + 1]:=by
 rw [List.pairwise_iff_getElem] at h
 exact h j (j + 1) (by omega) hj (by omega)
theorem fine_iff (u : Int) (key : ByteArray) (l : List S40) : fineB u key l = true ↔ numB u = true ∧ keyB key = true ∧ l.length ≤ 30 ∧ (l.map (·.f0)).Pairwise (· < ·) ∧ ∀ p ∈ l,mayB p = true:=by
 unfold fineB
 simp only [Bool.and_eq_true,decide_eq_true_eq]
 constructor
 ·rintro ⟨h1,h2,h3,h4⟩
  have at' : ∀ j (hj : j < l.length),mayB l[j] = true ∧ (j = 0 ∨ (l.getD (j - 1) z40).f0 < l[j].f0):=fun j hj=>by
   have:=allFrom_at h4 j (Nat.zero_le _) (by omega)
   unfold adjB at this
   rw [getD_at l j _ hj] at this
   simpa only [Bool.and_eq_true,Bool.or_eq_true,decide_eq_true_eq] using this
  refine ⟨h1,h2,h3,pairInt_of (fun j hj=>?_),fun p hp=>?_⟩
  ·rw [List.length_map] at hj
   have:=(at' (j + 1) hj).2.resolve_left (by omega)
   rw [Nat.add_sub_cancel,getD_at l j _ (by omega)] at this
   rw [List.getElem_map,List.getElem_map];exact this
  ·obtain ⟨j,hj,rfl⟩:=List.getElem_of_mem hp
   exact (at' j hj).1
 ·rintro ⟨h1,h2,h3,h4,h5⟩
  refine ⟨h1,h2,h3,allFrom_of _ _ (fun j _ hj=>?_)⟩
  have hj' : j < l.length:=by omega
  unfold adjB
  rw [getD_at l j _ hj',h5 _ (List.getElem_mem hj')]
  rcases j with _ | j
  ·simp
  ·have:=adjInt_of h4 j (by rw [List.length_map];omega)
   rw [List.getElem_map,List.getElem_map] at this
   rw [Nat.add_sub_cancel,getD_at l j _ (by omega),decide_eq_true this];simp
theorem check_iff (l : List S101) : checkB l = true ↔ l.length ≤ 10 ∧ (l.map (·.f0)).Pairwise (· < ·) ∧ ∀ u ∈ l,fineB u.f0 u.f1 u.f2 = true:=by
 unfold checkB
 simp only [Bool.and_eq_true,decide_eq_true_eq]
 constructor
 ·rintro ⟨h3,h4⟩
  have at' : ∀ j (hj : j < l.length),fineB l[j].f0 l[j].f1 l[j].f2 = true ∧ (j = 0 ∨ (l.getD (j - 1) z101).f0 < l[j].f0):=fun j hj=>by
   have:=allFrom_at h4 j (Nat.zero_le _) (by omega)
   unfold adjU at this
   rw [getD_at l j _ hj] at this
   simpa only [Bool.and_eq_true,Bool.or_eq_true,decide_eq_true_eq] using this
  refine ⟨h3,pairInt_of (fun j hj=>?_),fun p hp=>?_⟩
  ·rw [List.length_map] at hj
   have:=(at' (j + 1) hj).2.resolve_left (by omega)
   rw [Nat.add_sub_cancel,getD_at l j _ (by omega)] at this
   rw [List.getElem_map,List.getElem_map];exact this
  ·obtain ⟨j,hj,rfl⟩:=List.getElem_of_mem hp
   exact (at' j hj).1
 ·rintro ⟨h3,h4,h5⟩
  refine ⟨h3,allFrom_of _ _ (fun j _ hj=>?_)⟩
  have hj' : j < l.length:=by omega
  unfold adjU
  rw [getD_at l j _ hj',h5 _ (List.getElem_mem hj')]
  rcases j with _ | j
  ·simp
  ·have:=adjInt_of h4 j (by rw [List.length_map];omega)
   rw [List.getElem_map,List.getElem_map] at this
   rw [Nat.add_sub_cancel,getD_at l j _ (by omega),decide_eq_true this];simp
theorem begin_check {l : List S101} {id : Int} {key : ByteArray} (h : (beginR l id key).2 = 0) : checkB (beginR l id key).1 = true ∧ (beginR l id key).1 = l ++ [⟨id,key,[]⟩] ∧ checkB l = true:=by
 unfold beginR at h ⊢
 by_cases h1 : checkB l = false ∨ numB id = false ∨ keyB key = false
 ·rw [if_pos h1] at h;cases h
 ·rw [if_neg h1] at h ⊢
  by_cases h2 : lastB l id = true
  ·rw [if_pos h2] at h;cases h
  ·rw [if_neg h2] at h ⊢
   by_cases h3 : l.length = 10
   ·rw [if_pos h3] at h;cases h
   ·rw [if_neg h3]
    have hc : checkB l = true:=by cases hc : checkB l;exact absurd (Or.inl hc) h1;rfl
    have hn : numB id = true:=by cases hc : numB id;exact absurd (Or.inr (Or.inl hc)) h1;rfl
    have hk : keyB key = true:=by cases hc : keyB key;exact absurd (Or.inr (Or.inr hc)) h1;rfl
    obtain ⟨a,b,c⟩:=(check_iff l).1 hc
    refine ⟨(check_iff _).2 ⟨by rw [List.length_append,List.length_singleton];show l.length + 1 ≤ 10;omega,?_,?_⟩,rfl,hc⟩
    ·show (List.map (·.f0) (l ++ [⟨id,key,[]⟩])).Pairwise (· < ·)
     rw [List.map_append,List.pairwise_append]
     refine ⟨b,List.pairwise_singleton _ _,fun x hx y hy=>?_⟩
     rw [List.map_singleton,List.mem_singleton] at hy
     rw [show y = id from hy]
     have h4 : ¬ (0 < l.length ∧ id ≤ (l.getD (l.length - 1) z101).f0):=by
      unfold lastB at h2
      simpa only [Bool.and_eq_true,decide_eq_true_eq] using h2
     obtain ⟨u,hu,rfl⟩:=List.mem_map.1 hx
     obtain ⟨j,hj,rfl⟩:=List.getElem_of_mem hu
     rw [getD_at l (l.length - 1) _ (by omega)] at h4
     rcases Nat.eq_or_lt_of_le (show j ≤ l.length - 1 by omega) with e | e
     ·subst e;have:=fun hh=>h4 ⟨by omega,hh⟩;omega
     ·have b':=b
      rw [List.pairwise_iff_getElem] at b'
      have:=b' j (l.length - 1) (by rw [List.length_map];omega) (by rw [List.length_map];omega) e
      rw [List.getElem_map,List.getElem_map] at this
      have:=fun hh=>h4 ⟨by omega,hh⟩
      omega
    ·intro u hu
     rcases List.mem_append.1 hu with hu | hu
     ·exact c u hu
     ·rw [List.mem_singleton] at hu
      subst hu
      exact (fine_iff _ _ _).2 ⟨hn,hk,Nat.zero_le _,List.Pairwise.nil,fun p hp=>by cases hp⟩
theorem abort_check {l : List S101} {id : Int} (h : (abortR l id).2 = 0) : checkB (abortR l id).1 = true ∧ checkB l = true ∧ ∃ i,posU l id = some i ∧ (abortR l id).1 = delL l i:=by
 unfold abortR at h ⊢
 cases hc : checkB l with
 | false=>rw [if_pos hc] at h;cases h
 | true =>
  rw [hc] at h
  rw [if_neg (by decide)] at h ⊢
  cases hp : posU l id with
  | none=>rw [hp] at h;cases h
  | some i =>
   obtain ⟨a,b,c⟩:=(check_iff l).1 hc
   have hs : (delL l i).Sublist l:=by
    unfold delL
    rw [← List.eraseIdx_eq_take_drop_succ]
    exact List.eraseIdx_sublist ..
   exact ⟨(check_iff _).2 ⟨Nat.le_trans hs.length_le a,b.sublist (hs.map _),fun u hu=>c u (hs.subset hu)⟩,rfl,i,rfl,rfl⟩
theorem lay_parts {u : Int} {key : ByteArray} {l : List S40} {p : S40} (h : fineB u key l = true) (hm : mayB p = true) (h30 : ¬ (thereP l p.f0 = false ∧ l.length = 30)) : fineB u key (layParts l p) = true:=by
 obtain ⟨a,b,c,d,e⟩:=(fine_iff _ _ _).1 h
 have lo : ∀ x ∈ l.take (lowP l p.f0),x.f0 < p.f0:=fun x hx=>by
  obtain ⟨j,hj,rfl⟩:=List.getElem_of_mem hx
  rw [List.length_take] at hj
  rw [List.getElem_take]
  have:=List.not_of_lt_findIdx (p:=fun q : S40=>decide (p.f0 ≤ q.f0)) (xs:=l) (i:=j) (show j < List.findIdx _ l by unfold lowP at hj;omega)
  simp only [decide_eq_true_eq,decide_eq_false_iff_not] at this
  omega
 have dd:=d
 rw [List.pairwise_iff_getElem] at dd
 have up : ∀ i j (hi : i < l.length) (hj : j < l.length),i < j → l[i].f0 < l[j].f0:=fun i j hi hj hij=>by
  have:=dd i j (by rw [List.length_map];exact hi) (by rw [List.length_map];exact hj) hij
  rwa [List.getElem_map,List.getElem_map] at this
 have at' : ∀ (hl : lowP l p.f0 < l.length),p.f0 ≤ (l[lowP l p.f0]'hl).f0:=fun hl=>by
  have:=List.findIdx_getElem (p:=fun q : S40=>decide (p.f0 ≤ q.f0)) (xs:=l) (w:=hl)
  exact of_decide_eq_true this
 unfold layParts
 cases ht : thereP l p.f0 with
 | true =>
  rw [if_pos rfl]
  obtain ⟨q,hq,hqe⟩:=List.any_eq_true.1 ht
  obtain ⟨j,hj,rfl⟩:=List.getElem_of_mem hq
  have hqe' : l[j].f0 = p.f0:=by simpa using hqe
  have hl : lowP l p.f0 ≤ j:=by
   rcases Nat.lt_or_ge j (lowP l p.f0) with h' | h'
   ·have:=lo l[j] (by rw [List.mem_iff_getElem];exact ⟨j,by rw [List.length_take];omega,by rw [List.getElem_take]⟩)
    omega
   ·exact h'
  have hl2 : lowP l p.f0 < l.length:=by omega
  have he : (l[lowP l p.f0]'hl2).f0 = p.f0:=by
   rcases Nat.eq_or_lt_of_le hl with e1 | e1
   ·have : (l[lowP l p.f0]'hl2) = l[j]:=getElem_congr_idx e1
    rw [this];exact hqe'
   ·have:=up _ _ hl2 hj e1
    have:=at' hl2
    omega
  refine (fine_iff _ _ _).2 ⟨a,b,by rw [List.length_set];exact c,?_,fun x hx=>?_⟩
  ·have : (l.set (lowP l p.f0) p).map (·.f0) = l.map (·.f0):=by
    rw [List.map_set]
    apply List.ext_getElem (by simp)
    intro n h1 h2
    rw [List.getElem_set]
    split
    ·rename_i hn;subst hn;rw [List.getElem_map];exact he.symm
    ·rfl
   rw [this];exact d
  ·rcases List.mem_or_eq_of_mem_set hx with h' | h'
   ·exact e x h'
   ·rw [h'];exact hm
 | false =>
  rw [if_neg (by decide)]
  have hi : ∀ x ∈ l.drop (lowP l p.f0),p.f0 < x.f0:=fun x hx=>by
   obtain ⟨j,hj,rfl⟩:=List.getElem_of_mem hx
   rw [List.length_drop] at hj
   rw [List.getElem_drop]
   have hl : lowP l p.f0 < l.length:=by omega
   have h1:=at' hl
   have h2 : (l[lowP l p.f0 + j]'(by omega)).f0 ≠ p.f0:=fun hh=>by
    have:=List.any_eq_false.1 ht _ (List.getElem_mem (show lowP l p.f0 + j < l.length by omega))
    rw [hh] at this;simp at this
   rcases Nat.eq_or_lt_of_le (Nat.zero_le j) with e1 | e1
   ·subst e1
    have e2 : (l[lowP l p.f0 + 0]'(by omega)) = l[lowP l p.f0]'hl:=rfl
    rw [e2] at h2 ⊢
    omega
   ·have:=up (lowP l p.f0) (lowP l p.f0 + j) hl (by omega) (by omega)
    omega
  refine (fine_iff _ _ _).2 ⟨a,b,?_,?_,fun x hx=>?_⟩
  ·have hle : lowP l p.f0 ≤ l.length:=List.findIdx_le_length
   have : l.length ≠ 30:=fun hh=>h30 ⟨ht,hh⟩
   simp only [List.length_append,List.length_cons,List.length_take,List.length_drop]
   omega
  ·rw [List.map_append,List.map_cons,List.pairwise_append]
   refine ⟨?_,?_,?_⟩
   ·rw [List.map_take];exact d.sublist (List.take_sublist _ _)
   ·rw [List.pairwise_cons]
    refine ⟨fun y hy=>?_,by rw [List.map_drop];exact d.sublist (List.drop_sublist _ _)⟩
    obtain ⟨x,hx,rfl⟩:=List.mem_map.1 hy
    exact hi x hx
   ·intro x hx y hy
    obtain ⟨x',hx',rfl⟩:=List.mem_map.1 hx
    have h1:=lo x' hx'
    rcases List.mem_cons.1 hy with rfl | hy
    ·exact h1
    ·obtain ⟨y',hy',rfl⟩:=List.mem_map.1 hy
     have:=hi y' hy'
     show x'.f0 < y'.f0
     omega
  ·rcases List.mem_append.1 hx with h' | h'
   ·exact e x (List.mem_of_mem_take h')
   ·rcases List.mem_cons.1 h' with rfl | h'
    ·exact hm
    ·exact e x (List.mem_of_mem_drop h')
theorem lay_check {l : List S101} {id : Int} {p : S40} (h : (layR l id p).2.2 = 0) : checkB (layR l id p).1 = true ∧ checkB l = true ∧ mayB p = true:=by
 unfold layR at h ⊢
 by_cases h1 : checkB l = false ∨ mayB p = false
 ·rw [if_pos h1] at h;cases h
 ·rw [if_neg h1] at h ⊢
  have hc : checkB l = true:=by cases hc : checkB l;exact absurd (Or.inl hc) h1;rfl
  have hm : mayB p = true:=by cases hm : mayB p;exact absurd (Or.inr hm) h1;rfl
  cases hp : posU l id with
  | none=>rw [hp] at h;cases h
  | some i =>
   rw [hp] at h
   obtain ⟨hi,hid⟩:=posU_lt hp
   show checkB (if _ then _ else _ : List S101 × Int × Int).1 = true ∧ _
   change (if _ then _ else _ : List S101 × Int × Int).2.2 = 0 at h
   by_cases h2 : thereP (l.getD i z101).f2 p.f0 = false ∧ (l.getD i z101).f2.length = 30
   ·rw [if_pos h2] at h;cases h
   ·rw [if_neg h2]
    refine ⟨?_,hc,hm⟩
    obtain ⟨a,b,c⟩:=(check_iff l).1 hc
    rw [getD_at l i _ hi] at h2 ⊢
    refine (check_iff _).2 ⟨by rw [List.length_set];exact a,?_,fun u hu=>?_⟩
    ·have : (l.set i ⟨l[i].f0,l[i].f1,layParts l[i].f2 p⟩).map (·.f0) = l.map (·.f0):=by
      rw [List.map_set]
      apply List.ext_getElem (by simp)
      intro n h1 h2
      rw [List.getElem_set]
      split
      ·rename_i hn;subst hn;rw [List.getElem_map]
      ·rfl
     show ((l.set i ⟨l[i].f0,l[i].f1,layParts l[i].f2 p⟩).map (·.f0)).Pairwise (· < ·)
     rw [this];exact b
    ·rcases List.mem_or_eq_of_mem_set hu with h' | h'
     ·exact c u h'
     ·subst h';exact lay_parts (c _ (List.getElem_mem hi)) hm h2
end
section
open Go.WideMaps Go.Maps
attribute [local go_sem] Oper.semAt_some
theorem noR_ok {er e : Int} (h : noR (!(er == 0)) er e = 0) : er = 0 ∧ e = 0:=by
 unfold noR at h
 by_cases hb : (!(er == 0)) = true ∧ e = 0
 ·rw [if_pos hb] at h;subst h;exact absurd hb.1 (by decide)
 ·rw [if_neg hb] at h
  subst h
  refine ⟨?_,rfl⟩
  cases hq : (er == 0)
  ·exact absurd ⟨by rw [hq];rfl,rfl⟩ hb
  ·exact beq_iff_eq.1 hq
/-- no key is asked for -/
def anyK : ByteArray:=⟨#[107]⟩
def abortB (b : S26) (id : Int) : S26 × Int:=closeR b ⟨b.f0,b.f1,b.f2,(abortR b.f3 id).1,b.f4⟩ (noR (!((abortR b.f3 id).2 == 0)) (abortR b.f3 id).2 (openR b anyK))
theorem abortB.walk (b : S26) (A2 A3 : Option Addr) (c2 c3 : Nat) (id : Int) (w : World) (h2 : Kd.C k56 w A2 b.f2.length b.f2) (g2 : b.f2.length ≤ c2) (h3 : Kd.C k101 w A3 b.f3.length b.f3) (g3 : b.f3.length ≤ c3) :
  Calls Tryz.prog 58 #[.agg #[.string b.f0,.int .i64 b.f1,.slice A2 b.f2.length c2,.slice A3 b.f3.length c3,.int .u64 b.f4],.int .u64 id] w (BkPost (abortB b id).1 [.int .i64 (abortB b id).2] w):=by
 have H2:=zh (fun (W : World) (h : Below w.heap.size w W)=>Kd.C_below h2 h)
 have H3:=zh (fun (W : World) (h : Below w.heap.size w W)=>Kd.C_below h3 h)
 have HOP:=zh (fun (W : World) (h : Below w.heap.size w W)=>open.walk b A2 A3 c2 c3 anyK W (Kd.C_below h2 h) g2 (Kd.C_below h3 h) g3)
 have HAB:=zh (fun (W : World) (h : Below w.heap.size w W)=>abort.walk A3 c3 b.f3 id W (Kd.C_below h3 h) g3)
 have HQ : Hid (noR (!((abortR b.f3 id).2 == 0)) (abortR b.f3 id).2 (openR b anyK) = 0 → indexB b.f2 = true ∧ checkB (abortR b.f3 id).1 = true):=fun h=>⟨(bucket_at (open_0 (noR_ok h).2).1).2.1,(abort_check (noR_ok h).1).1⟩
 unfold abortB
 generalize abortR b.f3 id = r at *
 obtain ⟨r3,ar⟩:=r
 generalize openR b anyK = e0 at *
 have HUP:=zh (fun (g : Nat) (A4 : Option Addr) (c4 : Nat) (W : World) hW=>uploadsW.walk g (.string b.f0) (.int .i64 b.f1) (.slice A2 b.f2.length c2) (.slice A3 b.f3.length c3) (.int .u64 b.f4) A4 r3.length c4 e0 ar W hW)
 change Hid (noR (!(ar == 0)) ar e0 = 0 → indexB b.f2 = true ∧ checkB r3 = true) at HQ
 show Calls Tryz.prog _ _ w (BkPost (closeR b ⟨b.f0,b.f1,b.f2,r3,b.f4⟩ (noR (!(ar == 0)) ar e0)).1 [.int .i64 (closeR b ⟨b.f0,b.f1,b.f2,r3,b.f4⟩ (noR (!(ar == 0)) ar e0)).2] w)
 generalize noR (!(ar == 0)) ar e0 = e1 at *
 have HCL:=zh (fun (g : Nat) (A4 : Option Addr) (c4 : Nat) (W : World) (hW : Below w.heap.size w W) (K : W.heap[g]? = some (.cells #[.string b.f0,.int .i64 b.f1,.slice A2 b.f2.length c2,.slice A4 r3.length c4,.int .u64 b.f4,.int .i64 e1] 87 (0,0))) (C4 : Kd.C k101 W A4 r3.length r3) (g4 : r3.length ≤ c4) =>
  close.calls ⟨b.f0,b.f1,b.f2,r3,b.f4⟩ b A2 A4 A2 A3 c2 c4 c2 c3 (e1) g W K (Kd.C_below h2 hW) g2 C4 g4 (Kd.C_below h2 hW) g2 (Kd.C_below h3 hW) g3 HQ.out)
 generalize closeR b ⟨b.f0,b.f1,b.f2,r3,b.f4⟩ e1 = r at *
 obtain ⟨kb,ce⟩:=r
 have HB:=zh (Below.refl w.heap.size w)
 clear h2 h3 g2 g3 HQ
 go_enter Tryz.func58,Tryz.ntmps58
 go_wp2_with (first
  | ((with_reducible refine gate_dst (N:=2) rfl ?_);go_must (refine zx HB (N:=2) (cs:=#[.string b.f0,.int .i64 b.f1,.slice A2 b.f2.length c2,.slice A3 b.f3.length c3,.int .u64 b.f4]) (t:=26) ?hr ?_;(case hr=>first | (go_simp;done) | (go_simp;rfl));intro gb w1 Kgb Lgb HB hbelgb hqgb;clear hbelgb hqgb))
  | ((with_reducible refine gate_dst (N:=4) rfl ?_);go_must (refine zx HB (N:=4) (cs:=#[.string ⟨#[]⟩,.int .i64 0,.slice none 0 0,.slice none 0 0,.int .u64 0]) (t:=26) ?hr ?_;(case hr=>first | (go_simp;done) | (go_simp;rfl));intro go w3 Kgo Lgo HB hbelgo hqgo;have M2:=zh (show gb < go by rw [hqgo];exact blk_lt Kgb.out);have Kgb:=zk Kgb hbelgo;obtain ⟨a0,a1,a2,a3,a4⟩:=zz5 Kgb.out;clear hbelgo hqgo))
  | (go_at_call 32;go_must (refine (HOP.out _ HB.out).mono ?_;rintro e w4 ⟨g,rfl,hgl,hk,hb⟩;have Kg:=hk;have M3:=zh (show go < g from Nat.lt_of_lt_of_le (blk_lt Kgo.out) hgl);have HB:=keepB HB hb.out;have Kgb:=zk Kgb hb.out;have Kgo:=zk Kgo hb.out;have k3:=zb Kg.out 3 (.slice A3 b.f3.length c3);clear hk hb hgl a0 a1 a2 a3 a4))
  | (go_at_call 47;go_must (refine (HAB.out _ HB.out).mono ?_;rintro e w5 ⟨A4,c4,rfl,hc4,hC4,hb⟩;have HC4:=zh hC4;have HB:=keepB HB hb;have Kgb:=zk Kgb hb;have Kgo:=zk Kgo hb;have Kg:=zk Kg hb;clear hb hC4 k3))
  | (go_at_call 34;go_must (refine (HUP.out g A4 c4 _ Kg.out).mono ?_;rintro e w6 ⟨rfl,hk,ho⟩;have HC4:=zh (keepU HC4.out Kg.out (work_like b.f0 b.f1 A2 b.f2.length c2 A3 b.f3.length c3 b.f4 e0) ho.out);have Kg:=hk;have HB:=zh (ho.out.below HB.out HB.out.size (by have:=Lgo.out;have:=M3.out;omega));have Kgb:=zl ho Kgb (by have:=M2.out;have:=M3.out;omega);have Kgo:=zl ho Kgo (by have:=M2.out;have:=M3.out;omega);obtain ⟨m0,m1,m2,m3,m4⟩:=zz5 Kgb.out;clear hk ho))
  | (go_at_call 36;go_must (refine (HCL.out g A4 c4 _ HB.out Kg.out HC4.out hc4).mono ?_;rintro e w10 ⟨v10,rfl,hv,ho⟩;obtain ⟨A5,c5,A6,c6,rfl,y1,y2,y3,y4⟩:=hv;have HB:=zh (ho.below HB.out HB.out.size (by have:=Lgo.out;have:=M3.out;omega));have Kgo:=zh (ho.blk Kgo.out (by have:=M3.out;omega));have Y3:=zh y3;have Y4:=zh y4;clear ho y3 y4 m0 m1 m2 m3 m4))
  | ((with_reducible refine gate_store (t:=26) (p:=4) (v:=.tmp 23) rfl ?_);go_must (refine zs 26 (.tmp 4) (.tmp 23) go 0 26 [.string kb.f0,.int .i64 kb.f1,.slice A5 kb.f2.length c5,.slice A6 kb.f3.length c6,.int .u64 kb.f4] Kgo isz_bucket ?_;intro w11 hk ho;have Y3:=zh (keepE Y3.out Kgo.out (bk_like _ _ _ _ _ _ _ _ _) ho.out);have Y4:=zh (keepU Y4.out Kgo.out (bk_like _ _ _ _ _ _ _ _ _) ho.out);have HB:=zo ho HB Lgo;obtain ⟨z0,z1,z2,z3,z4⟩:=zz5 hk.out;clear hk ho)))
 refine bodyPost_ret (v:=.tuple #[.agg #[.string kb.f0,.int .i64 kb.f1,.slice A5 kb.f2.length c5,.slice A6 kb.f3.length c6,.int .u64 kb.f4],.int .i64 ce]) (by simp [results,Tryz.results58,go_sem,z0,z1,z2,z3,z4]) rfl ?_
 exact ⟨_,rfl,⟨A5,c5,A6,c6,rfl,y1,y2,Y3.out,Y4.out⟩,HB.out⟩
def beginQ (b : S26) (key : ByteArray) (id e1 : Int) : S26 × Int:=if e1 = 0 then (⟨b.f0,b.f1,b.f2,(beginR b.f3 id key).1,id⟩,noR (!((beginR b.f3 id key).2 == 0)) (beginR b.f3 id key).2 e1) else (⟨b.f0,b.f1,b.f2,b.f3,id⟩,e1)
def beginB (b : S26) (key : ByteArray) : S26 × Int × Int :=
 let id:=IntKind.u64.wrap (b.f4 + 1)
 let q:=beginQ b key id (noR (decide (281474976710655 ≤ b.f4)) 6 (openR b key))
 let c:=closeR b q.1 q.2
 if c.2 = 0 then (c.1,id,0) else (b,0,c.2)
theorem begin_gg (b : S26) (A2 A3 : Option Addr) (c2 c3 : Nat) (key : ByteArray) (w : World) (h2 : Kd.C k56 w A2 b.f2.length b.f2) (g2 : b.f2.length ≤ c2) (h3 : Kd.C k101 w A3 b.f3.length b.f3) (g3 : b.f3.length ≤ c3) (l2 : Int) (hl2 : IntKind.u64.wrap (b.f4 + 1) = l2) (e1 : Int) (he1 : noR (decide (281474976710655 ≤ b.f4)) 6 (openR b key) = e1) (h1 : e1 = 0) (r3 : List S101) (ar : Int) (hr : beginR b.f3 l2 key = (r3,ar)) (kb : S26) (ce : Int) (hce : closeR b (⟨b.f0,b.f1,b.f2,r3,l2⟩ : S26) (noR (!(ar == 0)) ar 0) = (kb,ce)) (hz : ce = 0) :
  Calls Tryz.prog 12 #[.agg #[.string b.f0,.int .i64 b.f1,.slice A2 b.f2.length c2,.slice A3 b.f3.length c3,.int .u64 b.f4],.string key] w (BkPost kb [.int .u64 l2,.int .i64 0] w):=by
 have H2:=zh (fun (W : World) (h : Below w.heap.size w W)=>Kd.C_below h2 h)
 have H3:=zh (fun (W : World) (h : Below w.heap.size w W)=>Kd.C_below h3 h)
 have HOP:=zh (fun (W : World) (h : Below w.heap.size w W)=>open.walk b A2 A3 c2 c3 key W (Kd.C_below h2 h) g2 (Kd.C_below h3 h) g3)
 have HNX:=zh (fun (g : Nat) (W : World) hW=>next.walk g (.string b.f0) (.int .i64 b.f1) (.slice A2 b.f2.length c2) (.slice A3 b.f3.length c3) b.f4 (openR b key) W hW)
 rw [hl2,he1] at HNX
 have HQ : Hid (noR (!(ar == 0)) ar 0 = 0 → indexB b.f2 = true ∧ checkB r3 = true):=fun h=>by
  have x:=begin_check (l:=b.f3) (id:=l2) (key:=key) (by rw [hr];exact (noR_ok h).1)
  rw [hr] at x
  exact ⟨(bucket_at (open_0 (noR_zero (he1.trans h1))).1).2.1,x.1⟩
 have HBG:=zh (fun (W : World) (h : Below w.heap.size w W)=>begin.walk A3 c3 b.f3 l2 key W (Kd.C_below h3 h) g3)
 rw [hr] at HBG
 subst h1
 have HUP:=zh (fun (g : Nat) (A4 : Option Addr) (c4 : Nat) (W : World) hW=>uploadsW.walk g (.string b.f0) (.int .i64 b.f1) (.slice A2 b.f2.length c2) (.slice A3 b.f3.length c3) (.int .u64 l2) A4 r3.length c4 0 ar W hW)
 generalize noR (!(ar == 0)) ar 0 = e2 at *
 have HCL:=zh (fun (g : Nat) (A4 : Option Addr) (c4 : Nat) (W : World) (hW : Below w.heap.size w W) (K : W.heap[g]? = some (.cells #[.string b.f0,.int .i64 b.f1,.slice A2 b.f2.length c2,.slice A4 r3.length c4,.int .u64 l2,.int .i64 e2] 87 (0,0))) (C4 : Kd.C k101 W A4 r3.length r3) (g4 : r3.length ≤ c4) =>
  close.calls (⟨b.f0,b.f1,b.f2,r3,l2⟩ : S26) b A2 A4 A2 A3 c2 c4 c2 c3 (e2) g W K (Kd.C_below h2 hW) g2 C4 g4 (Kd.C_below h2 hW) g2 (Kd.C_below h3 hW) g3 HQ.out)
 rw [hce] at HCL
 have q0 : (ce == 0) = true:=beq_iff_eq.2 hz
 have q1 : (ce != 0) = false:=by rw [bne,q0];rfl
 generalize openR b key = e0 at *
 have HB:=zh (Below.refl w.heap.size w)
 clear h2 h3 g2 g3 HQ he1 hl2 hce hz hr
 go_enter Tryz.func12,Tryz.ntmps12
 go_wp2_with (first
  | ((with_reducible refine gate_dst (N:=2) rfl ?_);go_must (refine zx HB (N:=2) (cs:=#[.string b.f0,.int .i64 b.f1,.slice A2 b.f2.length c2,.slice A3 b.f3.length c3,.int .u64 b.f4]) (t:=26) ?hr ?_;(case hr=>first | (go_simp;done) | (go_simp;rfl));intro gb w1 Kgb Lgb HB hbelgb hqgb;clear hbelgb hqgb))
  | ((with_reducible refine gate_dst (N:=4) rfl ?_);go_must (refine zx HB (N:=4) (cs:=#[.string ⟨#[]⟩,.int .i64 0,.slice none 0 0,.slice none 0 0,.int .u64 0]) (t:=26) ?hr ?_;(case hr=>first | (go_simp;done) | (go_simp;rfl));intro go w3 Kgo Lgo HB hbelgo hqgo;have M2:=zh (show gb < go by rw [hqgo];exact blk_lt Kgb.out);have Kgb:=zk Kgb hbelgo;obtain ⟨a0,a1,a2,a3,a4⟩:=zz5 Kgb.out;clear hbelgo hqgo))
  | (go_at_call 32;go_must (refine (HOP.out _ HB.out).mono ?_;rintro e w4 ⟨g,rfl,hgl,hk,hb⟩;have Kg:=hk;have M3:=zh (show go < g from Nat.lt_of_lt_of_le (blk_lt Kgo.out) hgl);have HB:=keepB HB hb.out;have Kgb:=zk Kgb hb.out;have Kgo:=zk Kgo hb.out;clear hk hb hgl a0 a1 a2 a3 a4))
  | (go_at_call 33;go_must (refine (HNX.out g _ Kg.out).mono ?_;rintro e w7 ⟨rfl,hk,ho⟩;have Kg:=hk;have HB:=zh (ho.out.below HB.out HB.out.size (by have:=Lgo.out;have:=M3.out;omega));have Kgb:=zl ho Kgb (by have:=M2.out;have:=M3.out;omega);have Kgo:=zl ho Kgo (by have:=M2.out;have:=M3.out;omega);have k5:=zb Kg.out 5 (.int .i64 0);have k3:=zb Kg.out 3 (.slice A3 b.f3.length c3);clear hk ho))
  | (go_at_call 35;go_must (refine (HBG.out _ HB.out).mono ?_;rintro e w5 ⟨A4,c4,rfl,hc4,hC4,hb⟩;have HC4:=zh hC4;have HB:=keepB HB hb;have Kgb:=zk Kgb hb;have Kgo:=zk Kgo hb;have Kg:=zk Kg hb;clear hb hC4 k3 k5))
  | (go_at_call 34;go_must (refine (HUP.out g A4 c4 _ Kg.out).mono ?_;rintro e w6 ⟨rfl,hk,ho⟩;have HC4:=zh (keepU HC4.out Kg.out (work_like b.f0 b.f1 A2 b.f2.length c2 A3 b.f3.length c3 l2 0) ho.out);have Kg:=hk;have HB:=zh (ho.out.below HB.out HB.out.size (by have:=Lgo.out;have:=M3.out;omega));have Kgb:=zl ho Kgb (by have:=M2.out;have:=M3.out;omega);have Kgo:=zl ho Kgo (by have:=M2.out;have:=M3.out;omega);obtain ⟨m0,m1,m2,m3,m4⟩:=zz5 Kgb.out;clear hk ho))
  | (go_at_call 36;go_must (refine (HCL.out g A4 c4 _ HB.out Kg.out HC4.out hc4).mono ?_;rintro e w10 ⟨v10,rfl,hv,ho⟩;obtain ⟨A5,c5,A6,c6,rfl,y1,y2,y3,y4⟩:=hv;have HB:=zh (ho.below HB.out HB.out.size (by have:=Lgo.out;have:=M3.out;omega));have Kgb:=zh (ho.blk Kgb.out (by have:=M2.out;have:=M3.out;omega));have Kgo:=zh (ho.blk Kgo.out (by have:=M2.out;have:=M3.out;omega));have Y3:=zh y3;have Y4:=zh y4;clear ho y3 y4 m0 m1 m2 m3 m4))
  | ((with_reducible refine gate_dst (N:=9) rfl ?_);go_must (refine zx HB (N:=9) (cs:=#[.string ⟨#[]⟩,.int .i64 0,.slice none 0 0,.slice none 0 0,.int .u64 0]) (t:=26) ?hr ?_;(case hr=>first | (go_simp;done) | (go_simp;rfl));intro gx w11 Kgx Lgx HB hbelgx hqgx;have M4:=zh (show go < gx by rw [hqgx];exact blk_lt Kgo.out);have Kgb:=zk Kgb hbelgx;have Kgo:=zk Kgo hbelgx;have Y3:=zc Y3 hbelgx;have Y4:=zc Y4 hbelgx;clear hbelgx hqgx))
  | ((with_reducible refine gate_store (t:=26) (p:=9) (v:=.tmp 37) rfl ?_);go_must (refine zs 26 (.tmp 9) (.tmp 37) gx 0 26 [.string kb.f0,.int .i64 kb.f1,.slice A5 kb.f2.length c5,.slice A6 kb.f3.length c6,.int .u64 kb.f4] Kgx isz_bucket ?_;intro w12 hk ho;have Y3:=zh (keepE Y3.out Kgx.out (bk_like _ _ _ _ _ _ _ _ _) ho.out);have Y4:=zh (keepU Y4.out Kgx.out (bk_like _ _ _ _ _ _ _ _ _) ho.out);have HB:=zo ho HB Lgx;have Kgb:=zl ho Kgb (by have:=M2.out;have:=M4.out;omega);have Kgo:=zl ho Kgo (by have:=M2.out;have:=M4.out;omega);have Kgx : Hid (w12.heap[gx]? = some (.cells #[.string kb.f0,.int .i64 kb.f1,.slice A5 kb.f2.length c5,.slice A6 kb.f3.length c6,.int .u64 kb.f4] 26 (0,0))):=hk;obtain ⟨p0,p1,p2,p3,p4⟩:=zz5 Kgx.out;clear hk ho))
  | ((with_reducible refine gate_store (t:=26) (p:=4) (v:=.tmp 43) rfl ?_);go_must (refine zs 26 (.tmp 4) (.tmp 43) go 0 26 [.string kb.f0,.int .i64 kb.f1,.slice A5 kb.f2.length c5,.slice A6 kb.f3.length c6,.int .u64 kb.f4] Kgo isz_bucket ?_;intro w13 hk ho;have Y3:=zh (keepE Y3.out Kgo.out (bk_like _ _ _ _ _ _ _ _ _) ho.out);have Y4:=zh (keepU Y4.out Kgo.out (bk_like _ _ _ _ _ _ _ _ _) ho.out);have HB:=zo ho HB Lgo;obtain ⟨z0,z1,z2,z3,z4⟩:=zz5 hk.out;clear hk ho)))
 refine bodyPost_ret (v:=.tuple #[.agg #[.string kb.f0,.int .i64 kb.f1,.slice A5 kb.f2.length c5,.slice A6 kb.f3.length c6,.int .u64 kb.f4],.int .u64 l2,.int .i64 0]) (by simp [results,Tryz.results12,go_sem,z0,z1,z2,z3,z4]) rfl ?_
 exact ⟨_,rfl,⟨A5,c5,A6,c6,rfl,y1,y2,Y3.out,Y4.out⟩,HB.out⟩
theorem begin_gn (b : S26) (A2 A3 : Option Addr) (c2 c3 : Nat) (key : ByteArray) (w : World) (h2 : Kd.C k56 w A2 b.f2.length b.f2) (g2 : b.f2.length ≤ c2) (h3 : Kd.C k101 w A3 b.f3.length b.f3) (g3 : b.f3.length ≤ c3) (l2 : Int) (hl2 : IntKind.u64.wrap (b.f4 + 1) = l2) (e1 : Int) (he1 : noR (decide (281474976710655 ≤ b.f4)) 6 (openR b key) = e1) (h1 : e1 = 0) (r3 : List S101) (ar : Int) (hr : beginR b.f3 l2 key = (r3,ar)) (kb : S26) (ce : Int) (hce : closeR b (⟨b.f0,b.f1,b.f2,r3,l2⟩ : S26) (noR (!(ar == 0)) ar 0) = (kb,ce)) (hz : ce ≠ 0) :
  Calls Tryz.prog 12 #[.agg #[.string b.f0,.int .i64 b.f1,.slice A2 b.f2.length c2,.slice A3 b.f3.length c3,.int .u64 b.f4],.string key] w (BkPost b [.int .u64 0,.int .i64 ce] w):=by
 have H2:=zh (fun (W : World) (h : Below w.heap.size w W)=>Kd.C_below h2 h)
 have H3:=zh (fun (W : World) (h : Below w.heap.size w W)=>Kd.C_below h3 h)
 have HOP:=zh (fun (W : World) (h : Below w.heap.size w W)=>open.walk b A2 A3 c2 c3 key W (Kd.C_below h2 h) g2 (Kd.C_below h3 h) g3)
 have HNX:=zh (fun (g : Nat) (W : World) hW=>next.walk g (.string b.f0) (.int .i64 b.f1) (.slice A2 b.f2.length c2) (.slice A3 b.f3.length c3) b.f4 (openR b key) W hW)
 rw [hl2,he1] at HNX
 have HQ : Hid (noR (!(ar == 0)) ar 0 = 0 → indexB b.f2 = true ∧ checkB r3 = true):=fun h=>by
  have x:=begin_check (l:=b.f3) (id:=l2) (key:=key) (by rw [hr];exact (noR_ok h).1)
  rw [hr] at x
  exact ⟨(bucket_at (open_0 (noR_zero (he1.trans h1))).1).2.1,x.1⟩
 have HBG:=zh (fun (W : World) (h : Below w.heap.size w W)=>begin.walk A3 c3 b.f3 l2 key W (Kd.C_below h3 h) g3)
 rw [hr] at HBG
 subst h1
 have HUP:=zh (fun (g : Nat) (A4 : Option Addr) (c4 : Nat) (W : World) hW=>uploadsW.walk g (.string b.f0) (.int .i64 b.f1) (.slice A2 b.f2.length c2) (.slice A3 b.f3.length c3) (.int .u64 l2) A4 r3.length c4 0 ar W hW)
 generalize noR (!(ar == 0)) ar 0 = e2 at *
 have HCL:=zh (fun (g : Nat) (A4 : Option Addr) (c4 : Nat) (W : World) (hW : Below w.heap.size w W) (K : W.heap[g]? = some (.cells #[.string b.f0,.int .i64 b.f1,.slice A2 b.f2.length c2,.slice A4 r3.length c4,.int .u64 l2,.int .i64 e2] 87 (0,0))) (C4 : Kd.C k101 W A4 r3.length r3) (g4 : r3.length ≤ c4) =>
  close.calls (⟨b.f0,b.f1,b.f2,r3,l2⟩ : S26) b A2 A4 A2 A3 c2 c4 c2 c3 (e2) g W K (Kd.C_below h2 hW) g2 C4 g4 (Kd.C_below h2 hW) g2 (Kd.C_below h3 hW) g3 HQ.out)
 rw [hce] at HCL
 have q0 : (ce == 0) = false:=beq_eq_false_iff_ne.2 hz
 have q1 : (ce != 0) = true:=by rw [bne,q0];rfl
 generalize openR b key = e0 at *
 have G3:=zh g3
 have G2:=zh g2
 have HB:=zh (Below.refl w.heap.size w)
 clear h2 h3 g2 g3 HQ he1 hl2 hce hz hr
 go_enter Tryz.func12,Tryz.ntmps12
 go_wp2_with (first
  | ((with_reducible refine gate_dst (N:=2) rfl ?_);go_must (refine zx HB (N:=2) (cs:=#[.string b.f0,.int .i64 b.f1,.slice A2 b.f2.length c2,.slice A3 b.f3.length c3,.int .u64 b.f4]) (t:=26) ?hr ?_;(case hr=>first | (go_simp;done) | (go_simp;rfl));intro gb w1 Kgb Lgb HB hbelgb hqgb;clear hbelgb hqgb))
  | ((with_reducible refine gate_dst (N:=4) rfl ?_);go_must (refine zx HB (N:=4) (cs:=#[.string ⟨#[]⟩,.int .i64 0,.slice none 0 0,.slice none 0 0,.int .u64 0]) (t:=26) ?hr ?_;(case hr=>first | (go_simp;done) | (go_simp;rfl));intro go w3 Kgo Lgo HB hbelgo hqgo;have M2:=zh (show gb < go by rw [hqgo];exact blk_lt Kgb.out);have Kgb:=zk Kgb hbelgo;obtain ⟨a0,a1,a2,a3,a4⟩:=zz5 Kgb.out;clear hbelgo hqgo))
  | (go_at_call 32;go_must (refine (HOP.out _ HB.out).mono ?_;rintro e w4 ⟨g,rfl,hgl,hk,hb⟩;have Kg:=hk;have M3:=zh (show go < g from Nat.lt_of_lt_of_le (blk_lt Kgo.out) hgl);have HB:=keepB HB hb.out;have Kgb:=zk Kgb hb.out;have Kgo:=zk Kgo hb.out;clear hk hb hgl a0 a1 a2 a3 a4))
  | (go_at_call 33;go_must (refine (HNX.out g _ Kg.out).mono ?_;rintro e w7 ⟨rfl,hk,ho⟩;have Kg:=hk;have HB:=zh (ho.out.below HB.out HB.out.size (by have:=Lgo.out;have:=M3.out;omega));have Kgb:=zl ho Kgb (by have:=M2.out;have:=M3.out;omega);have Kgo:=zl ho Kgo (by have:=M2.out;have:=M3.out;omega);have k5:=zb Kg.out 5 (.int .i64 0);have k3:=zb Kg.out 3 (.slice A3 b.f3.length c3);clear hk ho))
  | (go_at_call 35;go_must (refine (HBG.out _ HB.out).mono ?_;rintro e w5 ⟨A4,c4,rfl,hc4,hC4,hb⟩;have HC4:=zh hC4;have HB:=keepB HB hb;have Kgb:=zk Kgb hb;have Kgo:=zk Kgo hb;have Kg:=zk Kg hb;clear hb hC4 k3 k5))
  | (go_at_call 34;go_must (refine (HUP.out g A4 c4 _ Kg.out).mono ?_;rintro e w6 ⟨rfl,hk,ho⟩;have HC4:=zh (keepU HC4.out Kg.out (work_like b.f0 b.f1 A2 b.f2.length c2 A3 b.f3.length c3 l2 0) ho.out);have Kg:=hk;have HB:=zh (ho.out.below HB.out HB.out.size (by have:=Lgo.out;have:=M3.out;omega));have Kgb:=zl ho Kgb (by have:=M2.out;have:=M3.out;omega);have Kgo:=zl ho Kgo (by have:=M2.out;have:=M3.out;omega);obtain ⟨m0,m1,m2,m3,m4⟩:=zz5 Kgb.out;clear hk ho))
  | (go_at_call 36;go_must (refine (HCL.out g A4 c4 _ HB.out Kg.out HC4.out hc4).mono ?_;rintro e w10 ⟨v10,rfl,hv,ho⟩;obtain ⟨A5,c5,A6,c6,rfl,y1,y2,y3,y4⟩:=hv;have HB:=zh (ho.below HB.out HB.out.size (by have:=Lgo.out;have:=M3.out;omega));have Kgb:=zh (ho.blk Kgb.out (by have:=M2.out;have:=M3.out;omega));have Kgo:=zh (ho.blk Kgo.out (by have:=M2.out;have:=M3.out;omega));have Y3:=zh y3;have Y4:=zh y4;clear ho y3 y4 m0 m1 m2 m3 m4))
  | ((with_reducible refine gate_dst (N:=9) rfl ?_);go_must (refine zx HB (N:=9) (cs:=#[.string ⟨#[]⟩,.int .i64 0,.slice none 0 0,.slice none 0 0,.int .u64 0]) (t:=26) ?hr ?_;(case hr=>first | (go_simp;done) | (go_simp;rfl));intro gx w11 Kgx Lgx HB hbelgx hqgx;have M4:=zh (show go < gx by rw [hqgx];exact blk_lt Kgo.out);have Kgb:=zk Kgb hbelgx;have Kgo:=zk Kgo hbelgx;have Y3:=zc Y3 hbelgx;have Y4:=zc Y4 hbelgx;clear hbelgx hqgx))
  | ((with_reducible refine gate_store (t:=26) (p:=9) (v:=.tmp 37) rfl ?_);go_must (refine zs 26 (.tmp 9) (.tmp 37) gx 0 26 [.string kb.f0,.int .i64 kb.f1,.slice A5 kb.f2.length c5,.slice A6 kb.f3.length c6,.int .u64 kb.f4] Kgx isz_bucket ?_;intro w12 hk ho;have Y3:=zh (keepE Y3.out Kgx.out (bk_like _ _ _ _ _ _ _ _ _) ho.out);have Y4:=zh (keepU Y4.out Kgx.out (bk_like _ _ _ _ _ _ _ _ _) ho.out);have HB:=zo ho HB Lgx;have Kgb:=zl ho Kgb (by have:=M2.out;have:=M4.out;omega);have Kgo:=zl ho Kgo (by have:=M2.out;have:=M4.out;omega);obtain ⟨p0,p1,p2,p3,p4⟩:=zz5 Kgb.out;clear hk ho))
  | ((with_reducible refine gate_store (t:=26) (p:=4) (v:=.tmp 41) rfl ?_);go_must (refine zs 26 (.tmp 4) (.tmp 41) go 0 26 [.string b.f0,.int .i64 b.f1,.slice A2 b.f2.length c2,.slice A3 b.f3.length c3,.int .u64 b.f4] Kgo isz_bucket ?_;intro w13 hk ho;have HB:=zo ho HB Lgo;obtain ⟨z0,z1,z2,z3,z4⟩:=zz5 hk.out;clear hk ho)))
 refine bodyPost_ret (v:=.tuple #[.agg #[.string b.f0,.int .i64 b.f1,.slice A2 b.f2.length c2,.slice A3 b.f3.length c3,.int .u64 b.f4],.int .u64 0,.int .i64 ce]) (by simp [results,Tryz.results12,go_sem,z0,z1,z2,z3,z4]) rfl ?_
 exact ⟨_,rfl,⟨A2,c2,A3,c3,rfl,G2.out,G3.out,H2.out _ HB.out,H3.out _ HB.out⟩,HB.out⟩
theorem begin_n (b : S26) (A2 A3 : Option Addr) (c2 c3 : Nat) (key : ByteArray) (w : World) (h2 : Kd.C k56 w A2 b.f2.length b.f2) (g2 : b.f2.length ≤ c2) (h3 : Kd.C k101 w A3 b.f3.length b.f3) (g3 : b.f3.length ≤ c3) (l2 : Int) (hl2 : IntKind.u64.wrap (b.f4 + 1) = l2) (e1 : Int) (he1 : noR (decide (281474976710655 ≤ b.f4)) 6 (openR b key) = e1) (h1 : e1 ≠ 0) (kb : S26) (ce : Int) (hce : closeR b (⟨b.f0,b.f1,b.f2,b.f3,l2⟩ : S26) e1 = (kb,ce)) (hz : ce ≠ 0) :
  Calls Tryz.prog 12 #[.agg #[.string b.f0,.int .i64 b.f1,.slice A2 b.f2.length c2,.slice A3 b.f3.length c3,.int .u64 b.f4],.string key] w (BkPost b [.int .u64 0,.int .i64 ce] w):=by
 have H2:=zh (fun (W : World) (h : Below w.heap.size w W)=>Kd.C_below h2 h)
 have H3:=zh (fun (W : World) (h : Below w.heap.size w W)=>Kd.C_below h3 h)
 have HOP:=zh (fun (W : World) (h : Below w.heap.size w W)=>open.walk b A2 A3 c2 c3 key W (Kd.C_below h2 h) g2 (Kd.C_below h3 h) g3)
 have HNX:=zh (fun (g : Nat) (W : World) hW=>next.walk g (.string b.f0) (.int .i64 b.f1) (.slice A2 b.f2.length c2) (.slice A3 b.f3.length c3) b.f4 (openR b key) W hW)
 rw [hl2,he1] at HNX
 have HQ : Hid (e1 = 0 → indexB b.f2 = true ∧ checkB b.f3 = true):=fun h=>absurd h h1
 have HCL:=zh (fun (g : Nat) (A4 : Option Addr) (c4 : Nat) (W : World) (hW : Below w.heap.size w W) (K : W.heap[g]? = some (.cells #[.string b.f0,.int .i64 b.f1,.slice A2 b.f2.length c2,.slice A4 b.f3.length c4,.int .u64 l2,.int .i64 e1] 87 (0,0))) (C4 : Kd.C k101 W A4 b.f3.length b.f3) (g4 : b.f3.length ≤ c4) =>
  close.calls (⟨b.f0,b.f1,b.f2,b.f3,l2⟩ : S26) b A2 A4 A2 A3 c2 c4 c2 c3 (e1) g W K (Kd.C_below h2 hW) g2 C4 g4 (Kd.C_below h2 hW) g2 (Kd.C_below h3 hW) g3 HQ.out)
 have p0 : (e1 == 0) = false:=beq_eq_false_iff_ne.2 h1
 have p1 : (e1 != 0) = true:=by rw [bne,p0];rfl
 rw [hce] at HCL
 have q0 : (ce == 0) = false:=beq_eq_false_iff_ne.2 hz
 have q1 : (ce != 0) = true:=by rw [bne,q0];rfl
 generalize openR b key = e0 at *
 have G3:=zh g3
 have G2:=zh g2
 have HB:=zh (Below.refl w.heap.size w)
 clear h2 h3 g2 g3 HQ he1 hl2 hce hz h1
 go_enter Tryz.func12,Tryz.ntmps12
 go_wp2_with (first
  | ((with_reducible refine gate_dst (N:=2) rfl ?_);go_must (refine zx HB (N:=2) (cs:=#[.string b.f0,.int .i64 b.f1,.slice A2 b.f2.length c2,.slice A3 b.f3.length c3,.int .u64 b.f4]) (t:=26) ?hr ?_;(case hr=>first | (go_simp;done) | (go_simp;rfl));intro gb w1 Kgb Lgb HB hbelgb hqgb;clear hbelgb hqgb))
  | ((with_reducible refine gate_dst (N:=4) rfl ?_);go_must (refine zx HB (N:=4) (cs:=#[.string ⟨#[]⟩,.int .i64 0,.slice none 0 0,.slice none 0 0,.int .u64 0]) (t:=26) ?hr ?_;(case hr=>first | (go_simp;done) | (go_simp;rfl));intro go w3 Kgo Lgo HB hbelgo hqgo;have M2:=zh (show gb < go by rw [hqgo];exact blk_lt Kgb.out);have Kgb:=zk Kgb hbelgo;obtain ⟨a0,a1,a2,a3,a4⟩:=zz5 Kgb.out;clear hbelgo hqgo))
  | (go_at_call 32;go_must (refine (HOP.out _ HB.out).mono ?_;rintro e w4 ⟨g,rfl,hgl,hk,hb⟩;have Kg:=hk;have M3:=zh (show go < g from Nat.lt_of_lt_of_le (blk_lt Kgo.out) hgl);have HB:=keepB HB hb.out;have Kgb:=zk Kgb hb.out;have Kgo:=zk Kgo hb.out;clear hk hb hgl a0 a1 a2 a3 a4))
  | (go_at_call 33;go_must (refine (HNX.out g _ Kg.out).mono ?_;rintro e w7 ⟨rfl,hk,ho⟩;have Kg:=hk;have HB:=zh (ho.out.below HB.out HB.out.size (by have:=Lgo.out;have:=M3.out;omega));have Kgb:=zl ho Kgb (by have:=M2.out;have:=M3.out;omega);have Kgo:=zl ho Kgo (by have:=M2.out;have:=M3.out;omega);have k5:=zb Kg.out 5 (.int .i64 e1);obtain ⟨m0,m1,m2,m3,m4⟩:=zz5 Kgb.out;clear hk ho))
  | (go_at_call 36;go_must (refine (HCL.out g A3 c3 _ HB.out Kg.out (H3.out _ HB.out) G3.out).mono ?_;rintro e w10 ⟨v10,rfl,hv,ho⟩;obtain ⟨A5,c5,A6,c6,rfl,y1,y2,y3,y4⟩:=hv;have HB:=zh (ho.below HB.out HB.out.size (by have:=Lgo.out;have:=M3.out;omega));have Kgb:=zh (ho.blk Kgb.out (by have:=M2.out;have:=M3.out;omega));have Kgo:=zh (ho.blk Kgo.out (by have:=M2.out;have:=M3.out;omega));have Y3:=zh y3;have Y4:=zh y4;clear ho y3 y4 m0 m1 m2 m3 m4 k5))
  | ((with_reducible refine gate_dst (N:=9) rfl ?_);go_must (refine zx HB (N:=9) (cs:=#[.string ⟨#[]⟩,.int .i64 0,.slice none 0 0,.slice none 0 0,.int .u64 0]) (t:=26) ?hr ?_;(case hr=>first | (go_simp;done) | (go_simp;rfl));intro gx w11 Kgx Lgx HB hbelgx hqgx;have M4:=zh (show go < gx by rw [hqgx];exact blk_lt Kgo.out);have Kgb:=zk Kgb hbelgx;have Kgo:=zk Kgo hbelgx;have Y3:=zc Y3 hbelgx;have Y4:=zc Y4 hbelgx;clear hbelgx hqgx))
  | ((with_reducible refine gate_store (t:=26) (p:=9) (v:=.tmp 37) rfl ?_);go_must (refine zs 26 (.tmp 9) (.tmp 37) gx 0 26 [.string kb.f0,.int .i64 kb.f1,.slice A5 kb.f2.length c5,.slice A6 kb.f3.length c6,.int .u64 kb.f4] Kgx isz_bucket ?_;intro w12 hk ho;have Y3:=zh (keepE Y3.out Kgx.out (bk_like _ _ _ _ _ _ _ _ _) ho.out);have Y4:=zh (keepU Y4.out Kgx.out (bk_like _ _ _ _ _ _ _ _ _) ho.out);have HB:=zo ho HB Lgx;have Kgb:=zl ho Kgb (by have:=M2.out;have:=M4.out;omega);have Kgo:=zl ho Kgo (by have:=M2.out;have:=M4.out;omega);obtain ⟨p0,p1,p2,p3,p4⟩:=zz5 Kgb.out;clear hk ho))
  | ((with_reducible refine gate_store (t:=26) (p:=4) (v:=.tmp 41) rfl ?_);go_must (refine zs 26 (.tmp 4) (.tmp 41) go 0 26 [.string b.f0,.int .i64 b.f1,.slice A2 b.f2.length c2,.slice A3 b.f3.length c3,.int .u64 b.f4] Kgo isz_bucket ?_;intro w13 hk ho;have HB:=zo ho HB Lgo;obtain ⟨z0,z1,z2,z3,z4⟩:=zz5 hk.out;clear hk ho)))
 refine bodyPost_ret (v:=.tuple #[.agg #[.string b.f0,.int .i64 b.f1,.slice A2 b.f2.length c2,.slice A3 b.f3.length c3,.int .u64 b.f4],.int .u64 0,.int .i64 ce]) (by simp [results,Tryz.results12,go_sem,z0,z1,z2,z3,z4]) rfl ?_
 exact ⟨_,rfl,⟨A2,c2,A3,c3,rfl,G2.out,G3.out,H2.out _ HB.out,H3.out _ HB.out⟩,HB.out⟩
theorem beginB.walk (b : S26) (A2 A3 : Option Addr) (c2 c3 : Nat) (key : ByteArray) (w : World) (h2 : Kd.C k56 w A2 b.f2.length b.f2) (g2 : b.f2.length ≤ c2) (h3 : Kd.C k101 w A3 b.f3.length b.f3) (g3 : b.f3.length ≤ c3) :
  Calls Tryz.prog 12 #[.agg #[.string b.f0,.int .i64 b.f1,.slice A2 b.f2.length c2,.slice A3 b.f3.length c3,.int .u64 b.f4],.string key] w (BkPost (beginB b key).1 [.int .u64 (beginB b key).2.1,.int .i64 (beginB b key).2.2] w):=by
 obtain ⟨l2,hl2⟩ : ∃ l2,IntKind.u64.wrap (b.f4 + 1) = l2:=⟨_,rfl⟩
 obtain ⟨e1,he1⟩ : ∃ e1,noR (decide (281474976710655 ≤ b.f4)) 6 (openR b key) = e1:=⟨_,rfl⟩
 obtain ⟨⟨r3,ar⟩,hr⟩ : ∃ r,beginR b.f3 l2 key = r:=⟨_,rfl⟩
 by_cases h1 : e1 = 0
 ·have e : beginB b key = if (closeR b ⟨b.f0,b.f1,b.f2,r3,l2⟩ (noR (!(ar == 0)) ar 0)).2 = 0 then ((closeR b ⟨b.f0,b.f1,b.f2,r3,l2⟩ (noR (!(ar == 0)) ar 0)).1,l2,0) else (b,0,(closeR b ⟨b.f0,b.f1,b.f2,r3,l2⟩ (noR (!(ar == 0)) ar 0)).2):=by
   unfold beginB beginQ
   simp only [hl2,he1,h1,hr,if_pos]
  rw [e]
  obtain ⟨⟨kb,ce⟩,hce⟩ : ∃ c,closeR b ⟨b.f0,b.f1,b.f2,r3,l2⟩ (noR (!(ar == 0)) ar 0) = c:=⟨_,rfl⟩
  rw [hce]
  by_cases hz : ce = 0
  ·rw [if_pos hz];exact begin_gg b A2 A3 c2 c3 key w h2 g2 h3 g3 l2 hl2 e1 he1 h1 r3 ar hr kb ce hce hz
  ·rw [if_neg hz];exact begin_gn b A2 A3 c2 c3 key w h2 g2 h3 g3 l2 hl2 e1 he1 h1 r3 ar hr kb ce hce hz
 ·have hc : closeR b ⟨b.f0,b.f1,b.f2,b.f3,l2⟩ e1 = (b,e1):=by unfold closeR;rw [if_neg h1]
  have e : beginB b key = (b,0,e1):=by
   unfold beginB beginQ
   simp only [hl2,he1,h1,if_false,hc]
  rw [e]
  exact begin_n b A2 A3 c2 c3 key w h2 g2 h3 g3 l2 hl2 e1 he1 h1 b e1 hc h1
end
section
open Go.WideMaps Go.Maps
attribute [local go_sem] Oper.semAt_some
def layB (b : S26) (id : Int) (p : S40) : S26 × Int × Int :=
 let r:=layR b.f3 id p
 let c:=closeR b ⟨b.f0,b.f1,b.f2,r.1,b.f4⟩ (noR (!(r.2.2 == 0)) r.2.2 (openR b anyK))
 if c.2 = 0 then (c.1,r.2.1,0) else (b,0,c.2)
theorem lay_g (b : S26) (A2 A3 : Option Addr) (c2 c3 : Nat) (id : Int) (p : S40) (w : World) (h2 : Kd.C k56 w A2 b.f2.length b.f2) (g2 : b.f2.length ≤ c2) (h3 : Kd.C k101 w A3 b.f3.length b.f3) (g3 : b.f3.length ≤ c3) (r3 : List S101) (tg ar : Int) (hr : layR b.f3 id p = (r3,tg,ar)) (kb : S26) (ce : Int) (hce : closeR b ⟨b.f0,b.f1,b.f2,r3,b.f4⟩ (noR (!(ar == 0)) ar (openR b anyK)) = (kb,ce)) (hz : ce = 0) :
  Calls Tryz.prog 15 #[.agg #[.string b.f0,.int .i64 b.f1,.slice A2 b.f2.length c2,.slice A3 b.f3.length c3,.int .u64 b.f4],.int .u64 id,.agg #[.int .i64 p.f0,.string p.f1]] w (BkPost kb [.int .u32 tg,.int .i64 0] w):=by
 have H2:=zh (fun (W : World) (h : Below w.heap.size w W)=>Kd.C_below h2 h)
 have H3:=zh (fun (W : World) (h : Below w.heap.size w W)=>Kd.C_below h3 h)
 have HOP:=zh (fun (W : World) (h : Below w.heap.size w W)=>open.walk b A2 A3 c2 c3 anyK W (Kd.C_below h2 h) g2 (Kd.C_below h3 h) g3)
 have HLY:=zh (fun (W : World) (h : Below w.heap.size w W)=>lay.walk A3 c3 b.f3 id p W (Kd.C_below h3 h) g3)
 rw [hr] at HLY
 have HQ : Hid (noR (!(ar == 0)) ar (openR b anyK) = 0 → indexB b.f2 = true ∧ checkB r3 = true):=fun h=>by
  have x:=lay_check (l:=b.f3) (id:=id) (p:=p) (by rw [hr];exact (noR_ok h).1)
  rw [hr] at x
  exact ⟨(bucket_at (open_0 (noR_ok h).2).1).2.1,x.1⟩
 generalize openR b anyK = e0 at *
 have HUP:=zh (fun (g : Nat) (A4 : Option Addr) (c4 : Nat) (W : World) hW=>uploadsW.walk g (.string b.f0) (.int .i64 b.f1) (.slice A2 b.f2.length c2) (.slice A3 b.f3.length c3) (.int .u64 b.f4) A4 r3.length c4 e0 ar W hW)
 generalize noR (!(ar == 0)) ar e0 = e2 at *
 have HCL:=zh (fun (g : Nat) (A4 : Option Addr) (c4 : Nat) (W : World) (hW : Below w.heap.size w W) (K : W.heap[g]? = some (.cells #[.string b.f0,.int .i64 b.f1,.slice A2 b.f2.length c2,.slice A4 r3.length c4,.int .u64 b.f4,.int .i64 e2] 87 (0,0))) (C4 : Kd.C k101 W A4 r3.length r3) (g4 : r3.length ≤ c4) =>
  close.calls (⟨b.f0,b.f1,b.f2,r3,b.f4⟩ : S26) b A2 A4 A2 A3 c2 c4 c2 c3 (e2) g W K (Kd.C_below h2 hW) g2 C4 g4 (Kd.C_below h2 hW) g2 (Kd.C_below h3 hW) g3 HQ.out)
 rw [hce] at HCL
 have q0 : (ce == 0) = true:=beq_iff_eq.2 hz
 have q1 : (ce != 0) = false:=by rw [bne,q0];rfl
 have G2:=zh g2
 have G3:=zh g3
 have HB:=zh (Below.refl w.heap.size w)
 clear h2 h3 g2 g3 HQ hce hz hr
 go_enter Tryz.func15,Tryz.ntmps15
 go_wp2_with (first
  | ((with_reducible refine gate_dst (N:=3) rfl ?_);go_must (refine zx HB (N:=3) (cs:=#[.string b.f0,.int .i64 b.f1,.slice A2 b.f2.length c2,.slice A3 b.f3.length c3,.int .u64 b.f4]) (t:=26) ?hr ?_;(case hr=>first | (go_simp;done) | (go_simp;rfl));intro gb w1 Kgb Lgb HB hbelgb hqgb;clear hbelgb hqgb))
  | ((with_reducible refine gate_dst (N:=5) rfl ?_);go_must (refine zx HB (N:=5) (cs:=#[.int .i64 p.f0,.string p.f1]) (t:=40) ?hr ?_;(case hr=>first | (go_simp;done) | (go_simp;rfl));intro gp w2 Kgp Lgp HB hbelgp hqgp;have M1:=zh (show gb < gp by rw [hqgp];exact blk_lt Kgb.out);have Kgb:=zk Kgb hbelgp;clear hbelgp hqgp))
  | ((with_reducible refine gate_dst (N:=6) rfl ?_);go_must (refine zx HB (N:=6) (cs:=#[.string ⟨#[]⟩,.int .i64 0,.slice none 0 0,.slice none 0 0,.int .u64 0]) (t:=26) ?hr ?_;(case hr=>first | (go_simp;done) | (go_simp;rfl));intro go w3 Kgo Lgo HB hbelgo hqgo;have M2:=zh (show gp < go by rw [hqgo];exact blk_lt Kgp.out);have Kgb:=zk Kgb hbelgo;have Kgp:=zk Kgp hbelgo;obtain ⟨a0,a1,a2,a3,a4⟩:=zz5 Kgb.out;clear hbelgo hqgo))
  | (go_at_call 32;go_must (refine (HOP.out _ HB.out).mono ?_;rintro e w4 ⟨g,rfl,hgl,hk,hb⟩;have Kg:=hk;have M3:=zh (show go < g from Nat.lt_of_lt_of_le (blk_lt Kgo.out) hgl);have HB:=keepB HB hb.out;have Kgb:=zk Kgb hb.out;have Kgp:=zk Kgp hb.out;have Kgo:=zk Kgo hb.out;clear hk hb hgl a0 a1 a2 a3 a4)))
 refine wp_region_held_drew (S:=fun W=>W.heap[g]? = some (.cells #[.string b.f0,.int .i64 b.f1,.slice A2 b.f2.length c2,.slice A3 b.f3.length c3,.int .u64 b.f4,.int .i64 e0] 87 (0,0)) ∧ W.cell? ⟨g,3,none⟩ = some (.slice A3 b.f3.length c3) ∧ W.heap[gb]? = some (.cells #[.string b.f0,.int .i64 b.f1,.slice A2 b.f2.length c2,.slice A3 b.f3.length c3,.int .u64 b.f4] 26 (0,0)) ∧ W.heap[go]? = some (.cells #[.string ⟨#[]⟩,.int .i64 0,.slice none 0 0,.slice none 0 0,.int .u64 0] 26 (0,0)) ∧ W.heap[gp]? = some (.cells #[.int .i64 p.f0,.string p.f1] 40 (0,0)) ∧ W.cell? ⟨gp,0,none⟩ = some (.int .i64 p.f0) ∧ W.cell? ⟨gp,1,none⟩ = some (.string p.f1) ∧ Below w.heap.size w W) (by kernel_rfl) ?_ (fun hHeld=>?_)
 ·exact ⟨blk_drew Kg.out,(blk_cell (blk_drew Kg.out) 3).trans rfl,blk_drew Kgb.out,blk_drew Kgo.out,blk_drew Kgp.out,blk_cell (blk_drew Kgp.out) 0,blk_cell (blk_drew Kgp.out) 1,HB.out.drew⟩
 clear Kg Kgb Kgo Kgp HB
 refine zt 0 (v:=?v0g1) ?y0g1 ?r0g1
 case y0g1=>(rintro w ⟨s0,s1,s2,s3,s4,s5,s6,s7⟩;go_simp;try with_reducible rfl)
 try simp only [zA,zB,zC,Act.put,zD,zE,zF]
 refine zt 1 (v:=?v1g1) ?y1g1 ?r1g1
 case y1g1=>(rintro w ⟨s0,s1,s2,s3,s4,s5,s6,s7⟩;go_simp;try with_reducible rfl)
 try simp only [zA,zB,zC,Act.put,zD,zE,zF]
 refine zt 2 (v:=?v2g1) ?y2g1 ?r2g1
 case y2g1=>(rintro w ⟨s0,s1,s2,s3,s4,s5,s6,s7⟩;go_simp;try with_reducible rfl)
 try simp only [zA,zB,zC,Act.put,zD,zE,zF]
 refine zt 3 (v:=?v3g1) ?y3g1 ?r3g1
 case y3g1=>(rintro w ⟨s0,s1,s2,s3,s4,s5,s6,s7⟩;go_simp;try with_reducible rfl)
 try simp only [zA,zB,zC,Act.put,zD,zE,zF]
 refine zt 4 (v:=?v4g1) ?y4g1 ?r4g1
 case y4g1=>(rintro w ⟨s0,s1,s2,s3,s4,s5,s6,s7⟩;go_simp;try with_reducible rfl)
 try simp only [zA,zB,zC,Act.put,zD,zE,zF]
 refine zt 5 (v:=?v5g1) ?y5g1 ?r5g1
 case y5g1=>(rintro w ⟨s0,s1,s2,s3,s4,s5,s6,s7⟩;go_simp;try with_reducible rfl)
 try simp only [zA,zB,zC,Act.put,zD,zE,zF]
 refine zt 6 (v:=?v6g1) ?y6g1 ?r6g1
 case y6g1=>(rintro w ⟨s0,s1,s2,s3,s4,s5,s6,s7⟩;go_simp;try with_reducible rfl)
 try simp only [zA,zB,zC,Act.put,zD,zE,zF]
 refine wpAnyH_ready (rs:=[7]) (by kernel_rfl) (by simp) ?_
 refine AllReadyH.cons (o:=_) rfl (fun K hK=>?_) AllReadyH.nil
 rw [if_pos (by rfl)]
 go_simp
 obtain ⟨s0,s1,s2,s3,s4,s5,s6,s7⟩:=hHeld
 refine (HLY.out _ s7).mono ?_
 rintro e8 w8 ⟨A4,c4,rfl,hc4,hC4,hb8⟩
 have HC4:=zh hC4
 clear hC4
 have Kg:=zh (blk_below s0 hb8)
 have Kgb:=zh (blk_below s2 hb8)
 have Kgo:=zh (blk_below s3 hb8)
 have Kgp:=zh (blk_below s4 hb8)
 have HB:=zh (s7.trans (hb8.mono s7.size))
 refine hK.out _ _ ⟨Kg.out,zj Kg 3,Kgb.out,Kgo.out,Kgp.out,zj Kgp 0,zj Kgp 1,HB.out⟩ (fun hHeld=>?_)
 clear hK K hb8 s0 s1 s2 s3 s4 s5 s6 s7
 try simp only [zA,zB,zC,Act.put,zD,zE,zF]
 refine zt 8 (v:=?v8g1) ?y8g1 ?r8g1
 case y8g1=>(rintro w ⟨s0,s1,s2,s3,s4,s5,s6,s7⟩;go_simp;try with_reducible rfl)
 try simp only [zA,zB,zC,Act.put,zD,zE,zF]
 refine zt 9 (v:=?v9g1) ?y9g1 ?r9g1
 case y9g1=>(rintro w ⟨s0,s1,s2,s3,s4,s5,s6,s7⟩;go_simp;try with_reducible rfl)
 try simp only [zA,zB,zC,Act.put,zD,zE,zF]
 refine zt 10 (v:=?v10g1) ?y10g1 ?r10g1
 case y10g1=>(rintro w ⟨s0,s1,s2,s3,s4,s5,s6,s7⟩;go_simp;try with_reducible rfl)
 try simp only [zA,zB,zC,Act.put,zD,zE,zF]
 refine zt 11 (v:=?v11g1) ?y11g1 ?r11g1
 case y11g1=>(rintro w ⟨s0,s1,s2,s3,s4,s5,s6,s7⟩;go_simp;try with_reducible rfl)
 try simp only [zA,zB,zC,Act.put,zD,zE,zF]
 refine zt 12 (v:=?v12g1) ?y12g1 ?r12g1
 case y12g1=>(rintro w ⟨s0,s1,s2,s3,s4,s5,s6,s7⟩;go_simp;try with_reducible rfl)
 try simp only [zA,zB,zC,Act.put,zD,zE,zF]
 refine zt 13 (v:=?v13g1) ?y13g1 ?r13g1
 case y13g1=>(rintro w ⟨s0,s1,s2,s3,s4,s5,s6,s7⟩;go_simp;try with_reducible rfl)
 try simp only [zA,zB,zC,Act.put,zD,zE,zF]
 refine zt 14 (v:=?v14g1) ?y14g1 ?r14g1
 case y14g1=>(rintro w ⟨s0,s1,s2,s3,s4,s5,s6,s7⟩;go_simp;try with_reducible rfl)
 try simp only [zA,zB,zC,Act.put,zD,zE,zF]
 refine wpAnyH_done (by kernel_rfl) ?_ _
 go_wp2_with (first
  | (go_at_call 34;go_must (refine (HUP.out g A4 c4 _ Kg.out).mono ?_;rintro e w6 ⟨rfl,hk,ho⟩;have HC4:=zh (keepU HC4.out Kg.out (work_like b.f0 b.f1 A2 b.f2.length c2 A3 b.f3.length c3 b.f4 e0) ho.out);have Kg:=hk;have HB:=zh (ho.out.below HB.out HB.out.size (by have:=Lgo.out;have:=M3.out;omega));have Kgb:=zl ho Kgb (by have:=M1.out;have:=M2.out;have:=M3.out;omega);have Kgo:=zl ho Kgo (by have:=M1.out;have:=M2.out;have:=M3.out;omega);obtain ⟨m0,m1,m2,m3,m4⟩:=zz5 Kgb.out;clear hk ho))
  | (go_at_call 36;go_must (refine (HCL.out g A4 c4 _ HB.out Kg.out HC4.out hc4).mono ?_;rintro e w10 ⟨v10,rfl,hv,ho⟩;obtain ⟨A5,c5,A6,c6,rfl,y1,y2,y3,y4⟩:=hv;have HB:=zh (ho.below HB.out HB.out.size (by have:=Lgo.out;have:=M3.out;omega));have Kgb:=zh (ho.blk Kgb.out (by have:=M1.out;have:=M2.out;have:=M3.out;omega));have Kgo:=zh (ho.blk Kgo.out (by have:=M1.out;have:=M2.out;have:=M3.out;omega));have Y3:=zh y3;have Y4:=zh y4;clear ho y3 y4 m0 m1 m2 m3 m4))
  | ((with_reducible refine gate_dst (N:=13) rfl ?_);go_must (refine zx HB (N:=13) (cs:=#[.string ⟨#[]⟩,.int .i64 0,.slice none 0 0,.slice none 0 0,.int .u64 0]) (t:=26) ?hr ?_;(case hr=>first | (go_simp;done) | (go_simp;rfl));intro gx w11 Kgx Lgx HB hbelgx hqgx;have M4:=zh (show go < gx by rw [hqgx];exact blk_lt Kgo.out);have Kgb:=zk Kgb hbelgx;have Kgo:=zk Kgo hbelgx;have Y3:=zc Y3 hbelgx;have Y4:=zc Y4 hbelgx;clear hbelgx hqgx))
  | ((with_reducible refine gate_store (t:=26) (p:=13) (v:=.tmp 36) rfl ?_);go_must (refine zs 26 (.tmp 13) (.tmp 36) gx 0 26 [.string kb.f0,.int .i64 kb.f1,.slice A5 kb.f2.length c5,.slice A6 kb.f3.length c6,.int .u64 kb.f4] Kgx isz_bucket ?_;intro w12 hk ho;have Y3:=zh (keepE Y3.out Kgx.out (bk_like _ _ _ _ _ _ _ _ _) ho.out);have Y4:=zh (keepU Y4.out Kgx.out (bk_like _ _ _ _ _ _ _ _ _) ho.out);have HB:=zo ho HB Lgx;have Kgb:=zl ho Kgb (by have:=M1.out;have:=M2.out;have:=M4.out;omega);have Kgo:=zl ho Kgo (by have:=M1.out;have:=M2.out;have:=M4.out;omega);have Kgx : Hid (w12.heap[gx]? = some (.cells #[.string kb.f0,.int .i64 kb.f1,.slice A5 kb.f2.length c5,.slice A6 kb.f3.length c6,.int .u64 kb.f4] 26 (0,0))):=hk;obtain ⟨p0,p1,p2,p3,p4⟩:=zz5 Kgx.out;clear hk ho))
  | ((with_reducible refine gate_store (t:=26) (p:=6) (v:=.tmp 42) rfl ?_);go_must (refine zs 26 (.tmp 6) (.tmp 42) go 0 26 [.string kb.f0,.int .i64 kb.f1,.slice A5 kb.f2.length c5,.slice A6 kb.f3.length c6,.int .u64 kb.f4] Kgo isz_bucket ?_;intro w13 hk ho;have Y3:=zh (keepE Y3.out Kgo.out (bk_like _ _ _ _ _ _ _ _ _) ho.out);have Y4:=zh (keepU Y4.out Kgo.out (bk_like _ _ _ _ _ _ _ _ _) ho.out);have HB:=zo ho HB Lgo;obtain ⟨z0,z1,z2,z3,z4⟩:=zz5 hk.out;clear hk ho)))
 refine bodyPost_ret (v:=.tuple #[.agg #[.string kb.f0,.int .i64 kb.f1,.slice A5 kb.f2.length c5,.slice A6 kb.f3.length c6,.int .u64 kb.f4],.int .u32 tg,.int .i64 0]) (by simp [results,Tryz.results15,go_sem,z0,z1,z2,z3,z4]) rfl ?_
 exact ⟨_,rfl,⟨A5,c5,A6,c6,rfl,y1,y2,Y3.out,Y4.out⟩,HB.out⟩
theorem lay_n (b : S26) (A2 A3 : Option Addr) (c2 c3 : Nat) (id : Int) (p : S40) (w : World) (h2 : Kd.C k56 w A2 b.f2.length b.f2) (g2 : b.f2.length ≤ c2) (h3 : Kd.C k101 w A3 b.f3.length b.f3) (g3 : b.f3.length ≤ c3) (r3 : List S101) (tg ar : Int) (hr : layR b.f3 id p = (r3,tg,ar)) (kb : S26) (ce : Int) (hce : closeR b ⟨b.f0,b.f1,b.f2,r3,b.f4⟩ (noR (!(ar == 0)) ar (openR b anyK)) = (kb,ce)) (hz : ce ≠ 0) :
  Calls Tryz.prog 15 #[.agg #[.string b.f0,.int .i64 b.f1,.slice A2 b.f2.length c2,.slice A3 b.f3.length c3,.int .u64 b.f4],.int .u64 id,.agg #[.int .i64 p.f0,.string p.f1]] w (BkPost b [.int .u32 0,.int .i64 ce] w):=by
 have H2:=zh (fun (W : World) (h : Below w.heap.size w W)=>Kd.C_below h2 h)
 have H3:=zh (fun (W : World) (h : Below w.heap.size w W)=>Kd.C_below h3 h)
 have HOP:=zh (fun (W : World) (h : Below w.heap.size w W)=>open.walk b A2 A3 c2 c3 anyK W (Kd.C_below h2 h) g2 (Kd.C_below h3 h) g3)
 have HLY:=zh (fun (W : World) (h : Below w.heap.size w W)=>lay.walk A3 c3 b.f3 id p W (Kd.C_below h3 h) g3)
 rw [hr] at HLY
 have HQ : Hid (noR (!(ar == 0)) ar (openR b anyK) = 0 → indexB b.f2 = true ∧ checkB r3 = true):=fun h=>by
  have x:=lay_check (l:=b.f3) (id:=id) (p:=p) (by rw [hr];exact (noR_ok h).1)
  rw [hr] at x
  exact ⟨(bucket_at (open_0 (noR_ok h).2).1).2.1,x.1⟩
 generalize openR b anyK = e0 at *
 have HUP:=zh (fun (g : Nat) (A4 : Option Addr) (c4 : Nat) (W : World) hW=>uploadsW.walk g (.string b.f0) (.int .i64 b.f1) (.slice A2 b.f2.length c2) (.slice A3 b.f3.length c3) (.int .u64 b.f4) A4 r3.length c4 e0 ar W hW)
 generalize noR (!(ar == 0)) ar e0 = e2 at *
 have HCL:=zh (fun (g : Nat) (A4 : Option Addr) (c4 : Nat) (W : World) (hW : Below w.heap.size w W) (K : W.heap[g]? = some (.cells #[.string b.f0,.int .i64 b.f1,.slice A2 b.f2.length c2,.slice A4 r3.length c4,.int .u64 b.f4,.int .i64 e2] 87 (0,0))) (C4 : Kd.C k101 W A4 r3.length r3) (g4 : r3.length ≤ c4) =>
  close.calls (⟨b.f0,b.f1,b.f2,r3,b.f4⟩ : S26) b A2 A4 A2 A3 c2 c4 c2 c3 (e2) g W K (Kd.C_below h2 hW) g2 C4 g4 (Kd.C_below h2 hW) g2 (Kd.C_below h3 hW) g3 HQ.out)
 rw [hce] at HCL
 have q0 : (ce == 0) = false:=beq_eq_false_iff_ne.2 hz
 have q1 : (ce != 0) = true:=by rw [bne,q0];rfl
 have G2:=zh g2
 have G3:=zh g3
 have HB:=zh (Below.refl w.heap.size w)
 clear h2 h3 g2 g3 HQ hce hz hr
 go_enter Tryz.func15,Tryz.ntmps15
 go_wp2_with (first
  | ((with_reducible refine gate_dst (N:=3) rfl ?_);go_must (refine zx HB (N:=3) (cs:=#[.string b.f0,.int .i64 b.f1,.slice A2 b.f2.length c2,.slice A3 b.f3.length c3,.int .u64 b.f4]) (t:=26) ?hr ?_;(case hr=>first | (go_simp;done) | (go_simp;rfl));intro gb w1 Kgb Lgb HB hbelgb hqgb;clear hbelgb hqgb))
  | ((with_reducible refine gate_dst (N:=5) rfl ?_);go_must (refine zx HB (N:=5) (cs:=#[.int .i64 p.f0,.string p.f1]) (t:=40) ?hr ?_;(case hr=>first | (go_simp;done) | (go_simp;rfl));intro gp w2 Kgp Lgp HB hbelgp hqgp;have M1:=zh (show gb < gp by rw [hqgp];exact blk_lt Kgb.out);have Kgb:=zk Kgb hbelgp;clear hbelgp hqgp))
  | ((with_reducible refine gate_dst (N:=6) rfl ?_);go_must (refine zx HB (N:=6) (cs:=#[.string ⟨#[]⟩,.int .i64 0,.slice none 0 0,.slice none 0 0,.int .u64 0]) (t:=26) ?hr ?_;(case hr=>first | (go_simp;done) | (go_simp;rfl));intro go w3 Kgo Lgo HB hbelgo hqgo;have M2:=zh (show gp < go by rw [hqgo];exact blk_lt Kgp.out);have Kgb:=zk Kgb hbelgo;have Kgp:=zk Kgp hbelgo;obtain ⟨a0,a1,a2,a3,a4⟩:=zz5 Kgb.out;clear hbelgo hqgo))
  | (go_at_call 32;go_must (refine (HOP.out _ HB.out).mono ?_;rintro e w4 ⟨g,rfl,hgl,hk,hb⟩;have Kg:=hk;have M3:=zh (show go < g from Nat.lt_of_lt_of_le (blk_lt Kgo.out) hgl);have HB:=keepB HB hb.out;have Kgb:=zk Kgb hb.out;have Kgp:=zk Kgp hb.out;have Kgo:=zk Kgo hb.out;clear hk hb hgl a0 a1 a2 a3 a4)))
 refine wp_region_held_drew (S:=fun W=>W.heap[g]? = some (.cells #[.string b.f0,.int .i64 b.f1,.slice A2 b.f2.length c2,.slice A3 b.f3.length c3,.int .u64 b.f4,.int .i64 e0] 87 (0,0)) ∧ W.cell? ⟨g,3,none⟩ = some (.slice A3 b.f3.length c3) ∧ W.heap[gb]? = some (.cells #[.string b.f0,.int .i64 b.f1,.slice A2 b.f2.length c2,.slice A3 b.f3.length c3,.int .u64 b.f4] 26 (0,0)) ∧ W.heap[go]? = some (.cells #[.string ⟨#[]⟩,.int .i64 0,.slice none 0 0,.slice none 0 0,.int .u64 0] 26 (0,0)) ∧ W.heap[gp]? = some (.cells #[.int .i64 p.f0,.string p.f1] 40 (0,0)) ∧ W.cell? ⟨gp,0,none⟩ = some (.int .i64 p.f0) ∧ W.cell? ⟨gp,1,none⟩ = some (.string p.f1) ∧ Below w.heap.size w W) (by kernel_rfl) ?_ (fun hHeld=>?_)
 ·exact ⟨blk_drew Kg.out,(blk_cell (blk_drew Kg.out) 3).trans rfl,blk_drew Kgb.out,blk_drew Kgo.out,blk_drew Kgp.out,blk_cell (blk_drew Kgp.out) 0,blk_cell (blk_drew Kgp.out) 1,HB.out.drew⟩
 clear Kg Kgb Kgo Kgp HB
 refine zt 0 (v:=?v0g2) ?y0g2 ?r0g2
 case y0g2=>(rintro w ⟨s0,s1,s2,s3,s4,s5,s6,s7⟩;go_simp;try with_reducible rfl)
 try simp only [zA,zB,zC,Act.put,zD,zE,zF]
 refine zt 1 (v:=?v1g2) ?y1g2 ?r1g2
 case y1g2=>(rintro w ⟨s0,s1,s2,s3,s4,s5,s6,s7⟩;go_simp;try with_reducible rfl)
 try simp only [zA,zB,zC,Act.put,zD,zE,zF]
 refine zt 2 (v:=?v2g2) ?y2g2 ?r2g2
 case y2g2=>(rintro w ⟨s0,s1,s2,s3,s4,s5,s6,s7⟩;go_simp;try with_reducible rfl)
 try simp only [zA,zB,zC,Act.put,zD,zE,zF]
 refine zt 3 (v:=?v3g2) ?y3g2 ?r3g2
 case y3g2=>(rintro w ⟨s0,s1,s2,s3,s4,s5,s6,s7⟩;go_simp;try with_reducible rfl)
 try simp only [zA,zB,zC,Act.put,zD,zE,zF]
 refine zt 4 (v:=?v4g2) ?y4g2 ?r4g2
 case y4g2=>(rintro w ⟨s0,s1,s2,s3,s4,s5,s6,s7⟩;go_simp;try with_reducible rfl)
 try simp only [zA,zB,zC,Act.put,zD,zE,zF]
 refine zt 5 (v:=?v5g2) ?y5g2 ?r5g2
 case y5g2=>(rintro w ⟨s0,s1,s2,s3,s4,s5,s6,s7⟩;go_simp;try with_reducible rfl)
 try simp only [zA,zB,zC,Act.put,zD,zE,zF]
 refine zt 6 (v:=?v6g2) ?y6g2 ?r6g2
 case y6g2=>(rintro w ⟨s0,s1,s2,s3,s4,s5,s6,s7⟩;go_simp;try with_reducible rfl)
 try simp only [zA,zB,zC,Act.put,zD,zE,zF]
 refine wpAnyH_ready (rs:=[7]) (by kernel_rfl) (by simp) ?_
 refine AllReadyH.cons (o:=_) rfl (fun K hK=>?_) AllReadyH.nil
 rw [if_pos (by rfl)]
 go_simp
 obtain ⟨s0,s1,s2,s3,s4,s5,s6,s7⟩:=hHeld
 refine (HLY.out _ s7).mono ?_
 rintro e8 w8 ⟨A4,c4,rfl,hc4,hC4,hb8⟩
 have HC4:=zh hC4
 clear hC4
 have Kg:=zh (blk_below s0 hb8)
 have Kgb:=zh (blk_below s2 hb8)
 have Kgo:=zh (blk_below s3 hb8)
 have Kgp:=zh (blk_below s4 hb8)
 have HB:=zh (s7.trans (hb8.mono s7.size))
 refine hK.out _ _ ⟨Kg.out,zj Kg 3,Kgb.out,Kgo.out,Kgp.out,zj Kgp 0,zj Kgp 1,HB.out⟩ (fun hHeld=>?_)
 clear hK K hb8 s0 s1 s2 s3 s4 s5 s6 s7
 try simp only [zA,zB,zC,Act.put,zD,zE,zF]
 refine zt 8 (v:=?v8g2) ?y8g2 ?r8g2
 case y8g2=>(rintro w ⟨s0,s1,s2,s3,s4,s5,s6,s7⟩;go_simp;try with_reducible rfl)
 try simp only [zA,zB,zC,Act.put,zD,zE,zF]
 refine zt 9 (v:=?v9g2) ?y9g2 ?r9g2
 case y9g2=>(rintro w ⟨s0,s1,s2,s3,s4,s5,s6,s7⟩;go_simp;try with_reducible rfl)
 try simp only [zA,zB,zC,Act.put,zD,zE,zF]
 refine zt 10 (v:=?v10g2) ?y10g2 ?r10g2
 case y10g2=>(rintro w ⟨s0,s1,s2,s3,s4,s5,s6,s7⟩;go_simp;try with_reducible rfl)
 try simp only [zA,zB,zC,Act.put,zD,zE,zF]
 refine zt 11 (v:=?v11g2) ?y11g2 ?r11g2
 case y11g2=>(rintro w ⟨s0,s1,s2,s3,s4,s5,s6,s7⟩;go_simp;try with_reducible rfl)
 try simp only [zA,zB,zC,Act.put,zD,zE,zF]
 refine zt 12 (v:=?v12g2) ?y12g2 ?r12g2
 case y12g2=>(rintro w ⟨s0,s1,s2,s3,s4,s5,s6,s7⟩;go_simp;try with_reducible rfl)
 try simp only [zA,zB,zC,Act.put,zD,zE,zF]
 refine zt 13 (v:=?v13g2) ?y13g2 ?r13g2
 case y13g2=>(rintro w ⟨s0,s1,s2,s3,s4,s5,s6,s7⟩;go_simp;try with_reducible rfl)
 try simp only [zA,zB,zC,Act.put,zD,zE,zF]
 refine zt 14 (v:=?v14g2) ?y14g2 ?r14g2
 case y14g2=>(rintro w ⟨s0,s1,s2,s3,s4,s5,s6,s7⟩;go_simp;try with_reducible rfl)
 try simp only [zA,zB,zC,Act.put,zD,zE,zF]
 refine wpAnyH_done (by kernel_rfl) ?_ _
 go_wp2_with (first
  | (go_at_call 34;go_must (refine (HUP.out g A4 c4 _ Kg.out).mono ?_;rintro e w6 ⟨rfl,hk,ho⟩;have HC4:=zh (keepU HC4.out Kg.out (work_like b.f0 b.f1 A2 b.f2.length c2 A3 b.f3.length c3 b.f4 e0) ho.out);have Kg:=hk;have HB:=zh (ho.out.below HB.out HB.out.size (by have:=Lgo.out;have:=M3.out;omega));have Kgb:=zl ho Kgb (by have:=M1.out;have:=M2.out;have:=M3.out;omega);have Kgo:=zl ho Kgo (by have:=M1.out;have:=M2.out;have:=M3.out;omega);obtain ⟨m0,m1,m2,m3,m4⟩:=zz5 Kgb.out;clear hk ho))
  | (go_at_call 36;go_must (refine (HCL.out g A4 c4 _ HB.out Kg.out HC4.out hc4).mono ?_;rintro e w10 ⟨v10,rfl,hv,ho⟩;obtain ⟨A5,c5,A6,c6,rfl,y1,y2,y3,y4⟩:=hv;have HB:=zh (ho.below HB.out HB.out.size (by have:=Lgo.out;have:=M3.out;omega));have Kgb:=zh (ho.blk Kgb.out (by have:=M1.out;have:=M2.out;have:=M3.out;omega));have Kgo:=zh (ho.blk Kgo.out (by have:=M1.out;have:=M2.out;have:=M3.out;omega));have Y3:=zh y3;have Y4:=zh y4;clear ho y3 y4 m0 m1 m2 m3 m4))
  | ((with_reducible refine gate_dst (N:=13) rfl ?_);go_must (refine zx HB (N:=13) (cs:=#[.string ⟨#[]⟩,.int .i64 0,.slice none 0 0,.slice none 0 0,.int .u64 0]) (t:=26) ?hr ?_;(case hr=>first | (go_simp;done) | (go_simp;rfl));intro gx w11 Kgx Lgx HB hbelgx hqgx;have M4:=zh (show go < gx by rw [hqgx];exact blk_lt Kgo.out);have Kgb:=zk Kgb hbelgx;have Kgo:=zk Kgo hbelgx;have Y3:=zc Y3 hbelgx;have Y4:=zc Y4 hbelgx;clear hbelgx hqgx))
  | ((with_reducible refine gate_store (t:=26) (p:=13) (v:=.tmp 36) rfl ?_);go_must (refine zs 26 (.tmp 13) (.tmp 36) gx 0 26 [.string kb.f0,.int .i64 kb.f1,.slice A5 kb.f2.length c5,.slice A6 kb.f3.length c6,.int .u64 kb.f4] Kgx isz_bucket ?_;intro w12 hk ho;have Y3:=zh (keepE Y3.out Kgx.out (bk_like _ _ _ _ _ _ _ _ _) ho.out);have Y4:=zh (keepU Y4.out Kgx.out (bk_like _ _ _ _ _ _ _ _ _) ho.out);have HB:=zo ho HB Lgx;have Kgb:=zl ho Kgb (by have:=M1.out;have:=M2.out;have:=M4.out;omega);have Kgo:=zl ho Kgo (by have:=M1.out;have:=M2.out;have:=M4.out;omega);obtain ⟨p0,p1,p2,p3,p4⟩:=zz5 Kgb.out;clear hk ho))
  | ((with_reducible refine gate_store (t:=26) (p:=6) (v:=.tmp 40) rfl ?_);go_must (refine zs 26 (.tmp 6) (.tmp 40) go 0 26 [.string b.f0,.int .i64 b.f1,.slice A2 b.f2.length c2,.slice A3 b.f3.length c3,.int .u64 b.f4] Kgo isz_bucket ?_;intro w13 hk ho;have HB:=zo ho HB Lgo;obtain ⟨z0,z1,z2,z3,z4⟩:=zz5 hk.out;clear hk ho)))
 refine bodyPost_ret (v:=.tuple #[.agg #[.string b.f0,.int .i64 b.f1,.slice A2 b.f2.length c2,.slice A3 b.f3.length c3,.int .u64 b.f4],.int .u32 0,.int .i64 ce]) (by simp [results,Tryz.results15,go_sem,z0,z1,z2,z3,z4]) rfl ?_
 exact ⟨_,rfl,⟨A2,c2,A3,c3,rfl,G2.out,G3.out,H2.out _ HB.out,H3.out _ HB.out⟩,HB.out⟩
theorem layB.walk (b : S26) (A2 A3 : Option Addr) (c2 c3 : Nat) (id : Int) (p : S40) (w : World) (h2 : Kd.C k56 w A2 b.f2.length b.f2) (g2 : b.f2.length ≤ c2) (h3 : Kd.C k101 w A3 b.f3.length b.f3) (g3 : b.f3.length ≤ c3) :
  Calls Tryz.prog 15 #[.agg #[.string b.f0,.int .i64 b.f1,.slice A2 b.f2.length c2,.slice A3 b.f3.length c3,.int .u64 b.f4],.int .u64 id,.agg #[.int .i64 p.f0,.string p.f1]] w (BkPost (layB b id p).1 [.int .u32 (layB b id p).2.1,.int .i64 (layB b id p).2.2] w):=by
 obtain ⟨⟨r3,tg,ar⟩,hr⟩ : ∃ r,layR b.f3 id p = r:=⟨_,rfl⟩
 obtain ⟨⟨kb,ce⟩,hce⟩ : ∃ c,closeR b ⟨b.f0,b.f1,b.f2,r3,b.f4⟩ (noR (!(ar == 0)) ar (openR b anyK)) = c:=⟨_,rfl⟩
 have e : layB b id p = if ce = 0 then (kb,tg,0) else (b,0,ce):=by
  unfold layB
  simp only [hr,hce]
 rw [e]
 by_cases hz : ce = 0
 ·rw [if_pos hz];exact lay_g b A2 A3 c2 c3 id p w h2 g2 h3 g3 r3 tg ar hr kb ce hce hz
 ·rw [if_neg hz];exact lay_n b A2 A3 c2 c3 id p w h2 g2 h3 g3 r3 tg ar hr kb ce hce hz
end
section
open Go.WideMaps Go.Maps
attribute [local go_sem] Oper.semAt_some
theorem whole_n00 (b : S26) (A2 A3 : Option Addr) (c2 c3 : Nat) (id : Int) (ps : List S43) (A : Option Addr) (c : Nat) (q : Int) (w : World) (h2 : Kd.C k56 w A2 b.f2.length b.f2) (g2 : b.f2.length ≤ c2) (h3 : Kd.C k101 w A3 b.f3.length b.f3) (g3 : b.f3.length ≤ c3) (hl : ps.length < 100) (h4 : Kd.C k43 w A ps.length ps) (e0 : Int) (he0 : openR b anyK = e0) (u : S101) (hf : findR b.f3 id = (u,0)) (data tx : ByteArray) (hw : wholeR u ps = (data,tx,0)) (e1 e2 : Int) (he1 : noR false 0 e0 = e1) (he2 : noR false 0 e1 = e2) (hz : e2 ≠ 0) :
  Calls Tryz.prog 17 #[.agg #[.string b.f0,.int .i64 b.f1,.slice A2 b.f2.length c2,.slice A3 b.f3.length c3,.int .u64 b.f4],.int .u64 id,.slice A ps.length c,.int .i64 q] w (BkPost b [.int .u64 0,.string ⟨#[]⟩,.int .i64 e2] w):=by
 have H2:=zh (fun (W : World) (h : Below w.heap.size w W)=>Kd.C_below h2 h)
 have H3:=zh (fun (W : World) (h : Below w.heap.size w W)=>Kd.C_below h3 h)
 have HOP:=zh (fun (W : World) (h : Below w.heap.size w W)=>open.walk b A2 A3 c2 c3 anyK W (Kd.C_below h2 h) g2 (Kd.C_below h3 h) g3)
 rw [he0] at HOP
 have HFD:=zh (fun (W : World) (h : Below w.heap.size w W)=>find.walk A3 c3 b.f3 id W (Kd.C_below h3 h) g3)
 unfold FindPost at HFD
 rw [hf] at HFD
 dsimp only at HFD
 have HWH:=zh (fun (A7 : Option Addr) (c7 : Nat) (W : World) (hW : Below w.heap.size w W) (hC : Kd.C k40 W A7 u.f2.length u.f2) (hc : u.f2.length ≤ c7)=>whole.walk u A7 c7 A c ps W hl hC hc (Kd.C_below h4 hW))
 rw [hw] at HWH
 unfold wholeV at HWH
 dsimp only at HWH
 have HN1:=zh (fun (g : Nat) (W : World) hW=>no.walk g (.string b.f0) (.int .i64 b.f1) (.slice A2 b.f2.length c2) (.slice A3 b.f3.length c3) (.int .u64 b.f4) e0 0 false W hW)
 rw [he1] at HN1
 have HN2:=zh (fun (g : Nat) (W : World) hW=>no.walk g (.string b.f0) (.int .i64 b.f1) (.slice A2 b.f2.length c2) (.slice A3 b.f3.length c3) (.int .u64 b.f4) e1 0 false W hW)
 rw [he2] at HN2
 have q2 : (e2 == 0) = false:=beq_eq_false_iff_ne.2 hz
 have r2 : (e2 != 0) = true:=by rw [bne,q2];rfl
 have G2:=zh g2
 have G3:=zh g3
 have HB:=zh (Below.refl w.heap.size w)
 clear h2 h3 g2 g3 h4 hl he0 hf hw he1 he2 hz
 go_enter Tryz.func17,Tryz.ntmps17
 go_wp2_with (first
  | ((with_reducible refine gate_dst (N:=4) rfl ?_);go_must (refine zx HB (N:=4) (cs:=#[.string b.f0,.int .i64 b.f1,.slice A2 b.f2.length c2,.slice A3 b.f3.length c3,.int .u64 b.f4]) (t:=26) ?hr ?_;(case hr=>first | (go_simp;done) | (go_simp;rfl));intro gb w1 Kgb Lgb HB hbelgb hqgb;clear hbelgb hqgb))
  | ((with_reducible refine gate_dst (N:=8) rfl ?_);go_must (refine zx HB (N:=8) (cs:=#[.string ⟨#[]⟩,.int .i64 0,.slice none 0 0,.slice none 0 0,.int .u64 0]) (t:=26) ?hr ?_;(case hr=>first | (go_simp;done) | (go_simp;rfl));intro go w3 Kgo Lgo HB hbelgo hqgo;have M2:=zh (show gb < go by rw [hqgo];exact blk_lt Kgb.out);have Kgb:=zk Kgb hbelgo;obtain ⟨a0,a1,a2,a3,a4⟩:=zz5 Kgb.out;clear hbelgo hqgo))
  | (go_at_call 32;go_must (refine (HOP.out _ HB.out).mono ?_;rintro e w4 ⟨g,rfl,hgl,hk,hb⟩;have Kg:=hk;have M3:=zh (show go < g from Nat.lt_of_lt_of_le (blk_lt Kgo.out) hgl);have HB:=keepB HB hb.out;have Kgb:=zk Kgb hb.out;have Kgo:=zk Kgo hb.out;have k3:=zb Kg.out 3 (.slice A3 b.f3.length c3);clear hk hb hgl a0 a1 a2 a3 a4))
  | (go_at_call 44;go_must (refine (HFD.out _ HB.out).mono ?_;rintro e w5 ⟨A7,c7,rfl,hc7,hC5,hb⟩;have HC5:=zh hC5;have HG5:=zh hc7;have HB:=keepB HB hb;have Kgb:=zk Kgb hb;have Kgo:=zk Kgo hb;have Kg:=zk Kg hb;clear hb hC5 hc7 k3))
  | ((with_reducible refine gate_dst (N:=13) rfl ?_);go_must (refine zx HB (N:=13) (cs:=#[.int .u64 0,.string ⟨#[]⟩,.slice none 0 0]) (t:=101) ?hr ?_;(case hr=>first | (go_simp;done) | (go_simp;rfl));intro gu w6 Kgu Lgu HB hbelgu hqgu;have M4:=zh (show g < gu by rw [hqgu];exact blk_lt Kg.out);have HD:=zh hbelgu;have LD5:=zh (show w5.heap.size ≤ gu by rw [hqgu];exact Nat.le_refl _);have Kgb:=zk Kgb hbelgu;have Kgo:=zk Kgo hbelgu;have Kg:=zk Kg hbelgu;clear hbelgu hqgu))
  | ((with_reducible refine gate_store (t:=101) (p:=13) (v:=.tmp 29) rfl ?_);go_must (refine zs 101 (.tmp 13) (.tmp 29) gu 0 101 [.int .u64 u.f0,.string u.f1,.slice A7 u.f2.length c7] Kgu (by kernel_rfl) ?_;intro w7 hk ho;have HC5:=zc HC5 (ho.out.below HD.out HD.out.size LD5.out);have Kgu : Hid (w7.heap[gu]? = some (.cells #[.int .u64 u.f0,.string u.f1,.slice A7 u.f2.length c7] 101 (0,0))):=hk;have HB:=zo ho HB Lgu;have Kgb:=zl ho Kgb (by have:=M2.out;have:=M3.out;have:=M4.out;omega);have Kgo:=zl ho Kgo (by have:=M2.out;have:=M3.out;have:=M4.out;omega);have Kg:=zl ho Kg (by have:=M2.out;have:=M3.out;have:=M4.out;omega);have MK1:=zh True.intro;clear HD LD5;clear hk ho))
  | (go_at_call 45;go_must (first
   | (clear MK1;refine (HN1.out g _ Kg.out).mono ?_;rintro e w8 ⟨rfl,hk,ho⟩;have HC5:=zh (keepPt HC5.out Kg.out (work_like b.f0 b.f1 A2 b.f2.length c2 A3 b.f3.length c3 b.f4 e0) ho.out);have Kg:=hk;have HB:=zh (ho.out.below HB.out HB.out.size (by have:=Lgo.out;have:=M3.out;omega));have Kgb:=zl ho Kgb (by have:=M2.out;have:=M3.out;have:=M4.out;omega);have Kgo:=zl ho Kgo (by have:=M2.out;have:=M3.out;have:=M4.out;omega);have Kgu:=zl ho Kgu (by have:=M2.out;have:=M3.out;have:=M4.out;omega);obtain ⟨u0,u1,u2⟩:=zz3 Kgu.out;have MK2:=zh True.intro;clear hk ho)
   | (clear MK2;refine (HN2.out g _ Kg.out).mono ?_;rintro e w8 ⟨rfl,hk,ho⟩;have HC5:=zh (keepPt HC5.out Kg.out (work_like b.f0 b.f1 A2 b.f2.length c2 A3 b.f3.length c3 b.f4 e1) ho.out);have Kg:=hk;have HB:=zh (ho.out.below HB.out HB.out.size (by have:=Lgo.out;have:=M3.out;omega));have Kgb:=zl ho Kgb (by have:=M2.out;have:=M3.out;have:=M4.out;omega);have Kgo:=zl ho Kgo (by have:=M2.out;have:=M3.out;have:=M4.out;omega);have Kgu:=zl ho Kgu (by have:=M2.out;have:=M3.out;have:=M4.out;omega);have k5:=zb Kg.out 5 (.int .i64 e2);clear hk ho)))
  | (go_at_call 46;go_must (refine (HWH.out A7 c7 _ HB.out HC5.out HG5.out).mono ?_;rintro e w9 ⟨rfl,hb⟩;have HC5:=zc HC5 hb;have HB:=keepB HB hb;have Kgb:=zk Kgb hb;have Kgo:=zk Kgo hb;have Kg:=zk Kg hb;have Kgu:=zk Kgu hb;clear hb u0 u1 u2)))
 refine wp_region_held_drew (S:=fun W=>W.heap[g]? = some (.cells #[.string b.f0,.int .i64 b.f1,.slice A2 b.f2.length c2,.slice A3 b.f3.length c3,.int .u64 b.f4,.int .i64 e2] 87 (0,0)) ∧ W.cell? ⟨g,5,none⟩ = some (.int .i64 e2) ∧ W.cell? ⟨gb,0,none⟩ = some (.string b.f0) ∧ W.cell? ⟨gb,1,none⟩ = some (.int .i64 b.f1) ∧ W.cell? ⟨gb,2,none⟩ = some (.slice A2 b.f2.length c2) ∧ W.cell? ⟨gb,3,none⟩ = some (.slice A3 b.f3.length c3) ∧ W.cell? ⟨gb,4,none⟩ = some (.int .u64 b.f4) ∧ W.heap[gb]? = some (.cells #[.string b.f0,.int .i64 b.f1,.slice A2 b.f2.length c2,.slice A3 b.f3.length c3,.int .u64 b.f4] 26 (0,0)) ∧ (∃ q0 q1 q2 q3 q4,W.heap[go]? = some (.cells #[q0,q1,q2,q3,q4] 26 (0,0))) ∧ Below w.heap.size w W) (by kernel_rfl) ?_ (fun hHeld=>?_)
 ·exact ⟨blk_drew Kg.out,(blk_cell (blk_drew Kg.out) 5).trans rfl,blk_cell (blk_drew Kgb.out) 0,blk_cell (blk_drew Kgb.out) 1,blk_cell (blk_drew Kgb.out) 2,blk_cell (blk_drew Kgb.out) 3,blk_cell (blk_drew Kgb.out) 4,blk_drew Kgb.out,⟨_,_,_,_,_,blk_drew Kgo.out⟩,HB.out.drew⟩
 clear Kg Kgo Kgb Kgu HB k5 HC5
 refine zt 0 (v:=?v0g1) ?y0g1 ?r0g1
 case y0g1=>(rintro w ⟨s0,s1,s2,s3,s4,s5,s6,s7,s8,s9⟩;go_simp;try with_reducible rfl)
 try simp only [zA,zB,zC,Act.put,zD,zE,zF]
 refine zt 1 (v:=?v1g1) ?y1g1 ?r1g1
 case y1g1=>(rintro w ⟨s0,s1,s2,s3,s4,s5,s6,s7,s8,s9⟩;go_simp;try with_reducible rfl)
 try simp only [zA,zB,zC,Act.put,zD,zE,zF]
 refine zt 2 (v:=?v2g1) ?y2g1 ?r2g1
 case y2g1=>(rintro w ⟨s0,s1,s2,s3,s4,s5,s6,s7,s8,s9⟩;go_simp;try with_reducible rfl)
 try simp only [zA,zB,zC,Act.put,zD,zE,zF]
 refine zt 3 (v:=?v3g1) ?y3g1 ?r3g1
 case y3g1=>(rintro w ⟨s0,s1,s2,s3,s4,s5,s6,s7,s8,s9⟩;go_simp;try with_reducible rfl)
 try simp only [zA,zB,zC,Act.put,zD,zE,zF]
 refine zt 4 (v:=?v4g1) ?y4g1 ?r4g1
 case y4g1=>(rintro w ⟨s0,s1,s2,s3,s4,s5,s6,s7,s8,s9⟩;go_simp;try with_reducible rfl)
 try simp only [zA,zB,zC,Act.put,zD,zE,zF]
 refine wpAnyH_ready (rs:=[5]) (by kernel_rfl) (by simp) ?_
 refine AllReadyH.cons (o:=_) rfl (fun K hK=>?_) AllReadyH.nil
 rw [if_pos (by rfl)]
 obtain ⟨s0,s1,s2,s3,s4,s5,s6,s7,s8,s9⟩:=hHeld
 obtain ⟨q0,q1,q2,q3,q4,s8⟩:=s8
 refine wp_store_row rfl 26 (.tmp 8) (.tmp 69) rfl go 0 _ 26 (.agg #[.string b.f0,.int .i64 b.f1,.slice A2 b.f2.length c2,.slice A3 b.f3.length c3,.int .u64 b.f4]) [.string b.f0,.int .i64 b.f1,.slice A2 b.f2.length c2,.slice A3 b.f3.length c3,.int .u64 b.f4] rfl rfl s8 rfl isz_bucket (by show 0 + 5 ≤ 5;decide) (by simp [Value.oneCell']) ?_
 intro w14 hk ho
 have KZ : Hid (w14.heap[go]? = some (.cells #[.string b.f0,.int .i64 b.f1,.slice A2 b.f2.length c2,.slice A3 b.f3.length c3,.int .u64 b.f4] 26 (0,0))):=hk
 have HBZ:=zh (ho.out.below s9 s9.size Lgo.out)
 have KG2:=zh (ho.out.blk s0 (by have:=M3.out;omega))
 have KB2:=zh (ho.out.blk s7 (by have:=M2.out;omega))
 refine hK.out _ _ ⟨KG2.out,zj KG2 5,zj KB2 0,zj KB2 1,zj KB2 2,zj KB2 3,zj KB2 4,KB2.out,⟨_,_,_,_,_,hk.out⟩,HBZ.out⟩ (fun hHeld=>?_)
 clear hK K hk ho q0 q1 q2 q3 q4 s0 s1 s2 s3 s4 s5 s6 s7 s8 s9
 try simp only [zA,zB,zC,Act.put,zD,zE,zF]
 refine zt 6 (v:=?v6g1) ?y6g1 ?r6g1
 case y6g1=>(rintro w ⟨s0,s1,s2,s3,s4,s5,s6,s7,s8,s9⟩;go_simp;try with_reducible rfl)
 try simp only [zA,zB,zC,Act.put,zD,zE,zF]
 refine zt 7 (v:=?v7g1) ?y7g1 ?r7g1
 case y7g1=>(rintro w ⟨s0,s1,s2,s3,s4,s5,s6,s7,s8,s9⟩;go_simp;try with_reducible rfl)
 try simp only [zA,zB,zC,Act.put,zD,zE,zF]
 refine zt 8 (v:=?v8g1) ?y8g1 ?r8g1
 case y8g1=>(rintro w ⟨s0,s1,s2,s3,s4,s5,s6,s7,s8,s9⟩;go_simp;try with_reducible rfl)
 try simp only [zA,zB,zC,Act.put,zD,zE,zF]
 refine wpAnyH_done (by kernel_rfl) ?_ _
 go_wp2
 have z0:=zb KZ.out 0 (.string b.f0)
 have z1:=zb KZ.out 1 (.int .i64 b.f1)
 have z2:=zb KZ.out 2 (.slice A2 b.f2.length c2)
 have z3:=zb KZ.out 3 (.slice A3 b.f3.length c3)
 have z4:=zb KZ.out 4 (.int .u64 b.f4)
 refine bodyPost_ret (v:=.tuple #[.agg #[.string b.f0,.int .i64 b.f1,.slice A2 b.f2.length c2,.slice A3 b.f3.length c3,.int .u64 b.f4],.int .u64 0,.string ⟨#[]⟩,.int .i64 e2]) (by simp [results,Tryz.results17,go_sem,z0,z1,z2,z3,z4]) rfl ?_
 exact ⟨_,rfl,⟨A2,c2,A3,c3,rfl,G2.out,G3.out,H2.out _ HBZ.out,H3.out _ HBZ.out⟩,HBZ.out⟩
theorem whole_n01 (b : S26) (A2 A3 : Option Addr) (c2 c3 : Nat) (id : Int) (ps : List S43) (A : Option Addr) (c : Nat) (q : Int) (w : World) (h2 : Kd.C k56 w A2 b.f2.length b.f2) (g2 : b.f2.length ≤ c2) (h3 : Kd.C k101 w A3 b.f3.length b.f3) (g3 : b.f3.length ≤ c3) (hl : ps.length < 100) (h4 : Kd.C k43 w A ps.length ps) (e0 : Int) (he0 : openR b anyK = e0) (u : S101) (hf : findR b.f3 id = (u,0)) (data tx : ByteArray) (we : Int) (hwe : we ≠ 0) (hw : wholeR u ps = (data,tx,we)) (e1 e2 : Int) (he1 : noR false 0 e0 = e1) (he2 : noR true we e1 = e2) (hz : e2 ≠ 0) :
  Calls Tryz.prog 17 #[.agg #[.string b.f0,.int .i64 b.f1,.slice A2 b.f2.length c2,.slice A3 b.f3.length c3,.int .u64 b.f4],.int .u64 id,.slice A ps.length c,.int .i64 q] w (BkPost b [.int .u64 0,.string ⟨#[]⟩,.int .i64 e2] w):=by
 have H2:=zh (fun (W : World) (h : Below w.heap.size w W)=>Kd.C_below h2 h)
 have H3:=zh (fun (W : World) (h : Below w.heap.size w W)=>Kd.C_below h3 h)
 have HOP:=zh (fun (W : World) (h : Below w.heap.size w W)=>open.walk b A2 A3 c2 c3 anyK W (Kd.C_below h2 h) g2 (Kd.C_below h3 h) g3)
 rw [he0] at HOP
 have HFD:=zh (fun (W : World) (h : Below w.heap.size w W)=>find.walk A3 c3 b.f3 id W (Kd.C_below h3 h) g3)
 unfold FindPost at HFD
 rw [hf] at HFD
 dsimp only at HFD
 have HWH:=zh (fun (A7 : Option Addr) (c7 : Nat) (W : World) (hW : Below w.heap.size w W) (hC : Kd.C k40 W A7 u.f2.length u.f2) (hc : u.f2.length ≤ c7)=>whole.walk u A7 c7 A c ps W hl hC hc (Kd.C_below h4 hW))
 rw [hw] at HWH
 unfold wholeV at HWH
 dsimp only at HWH
 have HN1:=zh (fun (g : Nat) (W : World) hW=>no.walk g (.string b.f0) (.int .i64 b.f1) (.slice A2 b.f2.length c2) (.slice A3 b.f3.length c3) (.int .u64 b.f4) e0 0 false W hW)
 rw [he1] at HN1
 have HN2:=zh (fun (g : Nat) (W : World) hW=>no.walk g (.string b.f0) (.int .i64 b.f1) (.slice A2 b.f2.length c2) (.slice A3 b.f3.length c3) (.int .u64 b.f4) e1 we true W hW)
 rw [he2] at HN2
 have q1 : (we == 0) = false:=beq_eq_false_iff_ne.2 hwe
 have r1 : (we != 0) = true:=by rw [bne,q1];rfl
 have q2 : (e2 == 0) = false:=beq_eq_false_iff_ne.2 hz
 have r2 : (e2 != 0) = true:=by rw [bne,q2];rfl
 have G2:=zh g2
 have G3:=zh g3
 have HB:=zh (Below.refl w.heap.size w)
 clear h2 h3 g2 g3 h4 hl he0 hf hw he1 he2 hz
 go_enter Tryz.func17,Tryz.ntmps17
 go_wp2_with (first
  | ((with_reducible refine gate_dst (N:=4) rfl ?_);go_must (refine zx HB (N:=4) (cs:=#[.string b.f0,.int .i64 b.f1,.slice A2 b.f2.length c2,.slice A3 b.f3.length c3,.int .u64 b.f4]) (t:=26) ?hr ?_;(case hr=>first | (go_simp;done) | (go_simp;rfl));intro gb w1 Kgb Lgb HB hbelgb hqgb;clear hbelgb hqgb))
  | ((with_reducible refine gate_dst (N:=8) rfl ?_);go_must (refine zx HB (N:=8) (cs:=#[.string ⟨#[]⟩,.int .i64 0,.slice none 0 0,.slice none 0 0,.int .u64 0]) (t:=26) ?hr ?_;(case hr=>first | (go_simp;done) | (go_simp;rfl));intro go w3 Kgo Lgo HB hbelgo hqgo;have M2:=zh (show gb < go by rw [hqgo];exact blk_lt Kgb.out);have Kgb:=zk Kgb hbelgo;obtain ⟨a0,a1,a2,a3,a4⟩:=zz5 Kgb.out;clear hbelgo hqgo))
  | (go_at_call 32;go_must (refine (HOP.out _ HB.out).mono ?_;rintro e w4 ⟨g,rfl,hgl,hk,hb⟩;have Kg:=hk;have M3:=zh (show go < g from Nat.lt_of_lt_of_le (blk_lt Kgo.out) hgl);have HB:=keepB HB hb.out;have Kgb:=zk Kgb hb.out;have Kgo:=zk Kgo hb.out;have k3:=zb Kg.out 3 (.slice A3 b.f3.length c3);clear hk hb hgl a0 a1 a2 a3 a4))
  | (go_at_call 44;go_must (refine (HFD.out _ HB.out).mono ?_;rintro e w5 ⟨A7,c7,rfl,hc7,hC5,hb⟩;have HC5:=zh hC5;have HG5:=zh hc7;have HB:=keepB HB hb;have Kgb:=zk Kgb hb;have Kgo:=zk Kgo hb;have Kg:=zk Kg hb;clear hb hC5 hc7 k3))
  | ((with_reducible refine gate_dst (N:=13) rfl ?_);go_must (refine zx HB (N:=13) (cs:=#[.int .u64 0,.string ⟨#[]⟩,.slice none 0 0]) (t:=101) ?hr ?_;(case hr=>first | (go_simp;done) | (go_simp;rfl));intro gu w6 Kgu Lgu HB hbelgu hqgu;have M4:=zh (show g < gu by rw [hqgu];exact blk_lt Kg.out);have HD:=zh hbelgu;have LD5:=zh (show w5.heap.size ≤ gu by rw [hqgu];exact Nat.le_refl _);have Kgb:=zk Kgb hbelgu;have Kgo:=zk Kgo hbelgu;have Kg:=zk Kg hbelgu;clear hbelgu hqgu))
  | ((with_reducible refine gate_store (t:=101) (p:=13) (v:=.tmp 29) rfl ?_);go_must (refine zs 101 (.tmp 13) (.tmp 29) gu 0 101 [.int .u64 u.f0,.string u.f1,.slice A7 u.f2.length c7] Kgu (by kernel_rfl) ?_;intro w7 hk ho;have HC5:=zc HC5 (ho.out.below HD.out HD.out.size LD5.out);have Kgu : Hid (w7.heap[gu]? = some (.cells #[.int .u64 u.f0,.string u.f1,.slice A7 u.f2.length c7] 101 (0,0))):=hk;have HB:=zo ho HB Lgu;have Kgb:=zl ho Kgb (by have:=M2.out;have:=M3.out;have:=M4.out;omega);have Kgo:=zl ho Kgo (by have:=M2.out;have:=M3.out;have:=M4.out;omega);have Kg:=zl ho Kg (by have:=M2.out;have:=M3.out;have:=M4.out;omega);have MK1:=zh True.intro;clear HD LD5;clear hk ho))
  | (go_at_call 45;go_must (first
   | (clear MK1;refine (HN1.out g _ Kg.out).mono ?_;rintro e w8 ⟨rfl,hk,ho⟩;have HC5:=zh (keepPt HC5.out Kg.out (work_like b.f0 b.f1 A2 b.f2.length c2 A3 b.f3.length c3 b.f4 e0) ho.out);have Kg:=hk;have HB:=zh (ho.out.below HB.out HB.out.size (by have:=Lgo.out;have:=M3.out;omega));have Kgb:=zl ho Kgb (by have:=M2.out;have:=M3.out;have:=M4.out;omega);have Kgo:=zl ho Kgo (by have:=M2.out;have:=M3.out;have:=M4.out;omega);have Kgu:=zl ho Kgu (by have:=M2.out;have:=M3.out;have:=M4.out;omega);obtain ⟨u0,u1,u2⟩:=zz3 Kgu.out;have MK2:=zh True.intro;clear hk ho)
   | (clear MK2;refine (HN2.out g _ Kg.out).mono ?_;rintro e w8 ⟨rfl,hk,ho⟩;have HC5:=zh (keepPt HC5.out Kg.out (work_like b.f0 b.f1 A2 b.f2.length c2 A3 b.f3.length c3 b.f4 e1) ho.out);have Kg:=hk;have HB:=zh (ho.out.below HB.out HB.out.size (by have:=Lgo.out;have:=M3.out;omega));have Kgb:=zl ho Kgb (by have:=M2.out;have:=M3.out;have:=M4.out;omega);have Kgo:=zl ho Kgo (by have:=M2.out;have:=M3.out;have:=M4.out;omega);have Kgu:=zl ho Kgu (by have:=M2.out;have:=M3.out;have:=M4.out;omega);have k5:=zb Kg.out 5 (.int .i64 e2);clear hk ho)))
  | (go_at_call 46;go_must (refine (HWH.out A7 c7 _ HB.out HC5.out HG5.out).mono ?_;rintro e w9 ⟨rfl,hb⟩;have HC5:=zc HC5 hb;have HB:=keepB HB hb;have Kgb:=zk Kgb hb;have Kgo:=zk Kgo hb;have Kg:=zk Kg hb;have Kgu:=zk Kgu hb;clear hb u0 u1 u2)))
 refine wp_region_held_drew (S:=fun W=>W.heap[g]? = some (.cells #[.string b.f0,.int .i64 b.f1,.slice A2 b.f2.length c2,.slice A3 b.f3.length c3,.int .u64 b.f4,.int .i64 e2] 87 (0,0)) ∧ W.cell? ⟨g,5,none⟩ = some (.int .i64 e2) ∧ W.cell? ⟨gb,0,none⟩ = some (.string b.f0) ∧ W.cell? ⟨gb,1,none⟩ = some (.int .i64 b.f1) ∧ W.cell? ⟨gb,2,none⟩ = some (.slice A2 b.f2.length c2) ∧ W.cell? ⟨gb,3,none⟩ = some (.slice A3 b.f3.length c3) ∧ W.cell? ⟨gb,4,none⟩ = some (.int .u64 b.f4) ∧ W.heap[gb]? = some (.cells #[.string b.f0,.int .i64 b.f1,.slice A2 b.f2.length c2,.slice A3 b.f3.length c3,.int .u64 b.f4] 26 (0,0)) ∧ (∃ q0 q1 q2 q3 q4,W.heap[go]? = some (.cells #[q0,q1,q2,q3,q4] 26 (0,0))) ∧ Below w.heap.size w W) (by kernel_rfl) ?_ (fun hHeld=>?_)
 ·exact ⟨blk_drew Kg.out,(blk_cell (blk_drew Kg.out) 5).trans rfl,blk_cell (blk_drew Kgb.out) 0,blk_cell (blk_drew Kgb.out) 1,blk_cell (blk_drew Kgb.out) 2,blk_cell (blk_drew Kgb.out) 3,blk_cell (blk_drew Kgb.out) 4,blk_drew Kgb.out,⟨_,_,_,_,_,blk_drew Kgo.out⟩,HB.out.drew⟩
 clear Kg Kgo Kgb Kgu HB k5 HC5
 refine zt 0 (v:=?v0g2) ?y0g2 ?r0g2
 case y0g2=>(rintro w ⟨s0,s1,s2,s3,s4,s5,s6,s7,s8,s9⟩;go_simp;try with_reducible rfl)
 try simp only [zA,zB,zC,Act.put,zD,zE,zF]
 refine zt 1 (v:=?v1g2) ?y1g2 ?r1g2
 case y1g2=>(rintro w ⟨s0,s1,s2,s3,s4,s5,s6,s7,s8,s9⟩;go_simp;try with_reducible rfl)
 try simp only [zA,zB,zC,Act.put,zD,zE,zF]
 refine zt 2 (v:=?v2g2) ?y2g2 ?r2g2
 case y2g2=>(rintro w ⟨s0,s1,s2,s3,s4,s5,s6,s7,s8,s9⟩;go_simp;try with_reducible rfl)
 try simp only [zA,zB,zC,Act.put,zD,zE,zF]
 refine zt 3 (v:=?v3g2) ?y3g2 ?r3g2
 case y3g2=>(rintro w ⟨s0,s1,s2,s3,s4,s5,s6,s7,s8,s9⟩;go_simp;try with_reducible rfl)
 try simp only [zA,zB,zC,Act.put,zD,zE,zF]
 refine zt 4 (v:=?v4g2) ?y4g2 ?r4g2
 case y4g2=>(rintro w ⟨s0,s1,s2,s3,s4,s5,s6,s7,s8,s9⟩;go_simp;try with_reducible rfl)
 try simp only [zA,zB,zC,Act.put,zD,zE,zF]
 refine wpAnyH_ready (rs:=[5]) (by kernel_rfl) (by simp) ?_
 refine AllReadyH.cons (o:=_) rfl (fun K hK=>?_) AllReadyH.nil
 rw [if_pos (by rfl)]
 obtain ⟨s0,s1,s2,s3,s4,s5,s6,s7,s8,s9⟩:=hHeld
 obtain ⟨q0,q1,q2,q3,q4,s8⟩:=s8
 refine wp_store_row rfl 26 (.tmp 8) (.tmp 69) rfl go 0 _ 26 (.agg #[.string b.f0,.int .i64 b.f1,.slice A2 b.f2.length c2,.slice A3 b.f3.length c3,.int .u64 b.f4]) [.string b.f0,.int .i64 b.f1,.slice A2 b.f2.length c2,.slice A3 b.f3.length c3,.int .u64 b.f4] rfl rfl s8 rfl isz_bucket (by show 0 + 5 ≤ 5;decide) (by simp [Value.oneCell']) ?_
 intro w14 hk ho
 have KZ : Hid (w14.heap[go]? = some (.cells #[.string b.f0,.int .i64 b.f1,.slice A2 b.f2.length c2,.slice A3 b.f3.length c3,.int .u64 b.f4] 26 (0,0))):=hk
 have HBZ:=zh (ho.out.below s9 s9.size Lgo.out)
 have KG2:=zh (ho.out.blk s0 (by have:=M3.out;omega))
 have KB2:=zh (ho.out.blk s7 (by have:=M2.out;omega))
 refine hK.out _ _ ⟨KG2.out,zj KG2 5,zj KB2 0,zj KB2 1,zj KB2 2,zj KB2 3,zj KB2 4,KB2.out,⟨_,_,_,_,_,hk.out⟩,HBZ.out⟩ (fun hHeld=>?_)
 clear hK K hk ho q0 q1 q2 q3 q4 s0 s1 s2 s3 s4 s5 s6 s7 s8 s9
 try simp only [zA,zB,zC,Act.put,zD,zE,zF]
 refine zt 6 (v:=?v6g2) ?y6g2 ?r6g2
 case y6g2=>(rintro w ⟨s0,s1,s2,s3,s4,s5,s6,s7,s8,s9⟩;go_simp;try with_reducible rfl)
 try simp only [zA,zB,zC,Act.put,zD,zE,zF]
 refine zt 7 (v:=?v7g2) ?y7g2 ?r7g2
 case y7g2=>(rintro w ⟨s0,s1,s2,s3,s4,s5,s6,s7,s8,s9⟩;go_simp;try with_reducible rfl)
 try simp only [zA,zB,zC,Act.put,zD,zE,zF]
 refine zt 8 (v:=?v8g2) ?y8g2 ?r8g2
 case y8g2=>(rintro w ⟨s0,s1,s2,s3,s4,s5,s6,s7,s8,s9⟩;go_simp;try with_reducible rfl)
 try simp only [zA,zB,zC,Act.put,zD,zE,zF]
 refine wpAnyH_done (by kernel_rfl) ?_ _
 go_wp2
 have z0:=zb KZ.out 0 (.string b.f0)
 have z1:=zb KZ.out 1 (.int .i64 b.f1)
 have z2:=zb KZ.out 2 (.slice A2 b.f2.length c2)
 have z3:=zb KZ.out 3 (.slice A3 b.f3.length c3)
 have z4:=zb KZ.out 4 (.int .u64 b.f4)
 refine bodyPost_ret (v:=.tuple #[.agg #[.string b.f0,.int .i64 b.f1,.slice A2 b.f2.length c2,.slice A3 b.f3.length c3,.int .u64 b.f4],.int .u64 0,.string ⟨#[]⟩,.int .i64 e2]) (by simp [results,Tryz.results17,go_sem,z0,z1,z2,z3,z4]) rfl ?_
 exact ⟨_,rfl,⟨A2,c2,A3,c3,rfl,G2.out,G3.out,H2.out _ HBZ.out,H3.out _ HBZ.out⟩,HBZ.out⟩
theorem whole_n10 (b : S26) (A2 A3 : Option Addr) (c2 c3 : Nat) (id : Int) (ps : List S43) (A : Option Addr) (c : Nat) (q : Int) (w : World) (h2 : Kd.C k56 w A2 b.f2.length b.f2) (g2 : b.f2.length ≤ c2) (h3 : Kd.C k101 w A3 b.f3.length b.f3) (g3 : b.f3.length ≤ c3) (hl : ps.length < 100) (h4 : Kd.C k43 w A ps.length ps) (e0 : Int) (he0 : openR b anyK = e0) (u : S101) (fe : Int) (hfe : fe ≠ 0) (hf : findR b.f3 id = (u,fe)) (data tx : ByteArray) (hw : wholeR u ps = (data,tx,0)) (e1 e2 : Int) (he1 : noR true fe e0 = e1) (he2 : noR false 0 e1 = e2) (hz : e2 ≠ 0) :
  Calls Tryz.prog 17 #[.agg #[.string b.f0,.int .i64 b.f1,.slice A2 b.f2.length c2,.slice A3 b.f3.length c3,.int .u64 b.f4],.int .u64 id,.slice A ps.length c,.int .i64 q] w (BkPost b [.int .u64 0,.string ⟨#[]⟩,.int .i64 e2] w):=by
 have H2:=zh (fun (W : World) (h : Below w.heap.size w W)=>Kd.C_below h2 h)
 have H3:=zh (fun (W : World) (h : Below w.heap.size w W)=>Kd.C_below h3 h)
 have HOP:=zh (fun (W : World) (h : Below w.heap.size w W)=>open.walk b A2 A3 c2 c3 anyK W (Kd.C_below h2 h) g2 (Kd.C_below h3 h) g3)
 rw [he0] at HOP
 have HFD:=zh (fun (W : World) (h : Below w.heap.size w W)=>find.walk A3 c3 b.f3 id W (Kd.C_below h3 h) g3)
 unfold FindPost at HFD
 rw [hf] at HFD
 dsimp only at HFD
 have HWH:=zh (fun (A7 : Option Addr) (c7 : Nat) (W : World) (hW : Below w.heap.size w W) (hC : Kd.C k40 W A7 u.f2.length u.f2) (hc : u.f2.length ≤ c7)=>whole.walk u A7 c7 A c ps W hl hC hc (Kd.C_below h4 hW))
 rw [hw] at HWH
 unfold wholeV at HWH
 dsimp only at HWH
 have HN1:=zh (fun (g : Nat) (W : World) hW=>no.walk g (.string b.f0) (.int .i64 b.f1) (.slice A2 b.f2.length c2) (.slice A3 b.f3.length c3) (.int .u64 b.f4) e0 fe true W hW)
 rw [he1] at HN1
 have HN2:=zh (fun (g : Nat) (W : World) hW=>no.walk g (.string b.f0) (.int .i64 b.f1) (.slice A2 b.f2.length c2) (.slice A3 b.f3.length c3) (.int .u64 b.f4) e1 0 false W hW)
 rw [he2] at HN2
 have q0 : (fe == 0) = false:=beq_eq_false_iff_ne.2 hfe
 have r0 : (fe != 0) = true:=by rw [bne,q0];rfl
 have q2 : (e2 == 0) = false:=beq_eq_false_iff_ne.2 hz
 have r2 : (e2 != 0) = true:=by rw [bne,q2];rfl
 have G2:=zh g2
 have G3:=zh g3
 have HB:=zh (Below.refl w.heap.size w)
 clear h2 h3 g2 g3 h4 hl he0 hf hw he1 he2 hz
 go_enter Tryz.func17,Tryz.ntmps17
 go_wp2_with (first
  | ((with_reducible refine gate_dst (N:=4) rfl ?_);go_must (refine zx HB (N:=4) (cs:=#[.string b.f0,.int .i64 b.f1,.slice A2 b.f2.length c2,.slice A3 b.f3.length c3,.int .u64 b.f4]) (t:=26) ?hr ?_;(case hr=>first | (go_simp;done) | (go_simp;rfl));intro gb w1 Kgb Lgb HB hbelgb hqgb;clear hbelgb hqgb))
  | ((with_reducible refine gate_dst (N:=8) rfl ?_);go_must (refine zx HB (N:=8) (cs:=#[.string ⟨#[]⟩,.int .i64 0,.slice none 0 0,.slice none 0 0,.int .u64 0]) (t:=26) ?hr ?_;(case hr=>first | (go_simp;done) | (go_simp;rfl));intro go w3 Kgo Lgo HB hbelgo hqgo;have M2:=zh (show gb < go by rw [hqgo];exact blk_lt Kgb.out);have Kgb:=zk Kgb hbelgo;obtain ⟨a0,a1,a2,a3,a4⟩:=zz5 Kgb.out;clear hbelgo hqgo))
  | (go_at_call 32;go_must (refine (HOP.out _ HB.out).mono ?_;rintro e w4 ⟨g,rfl,hgl,hk,hb⟩;have Kg:=hk;have M3:=zh (show go < g from Nat.lt_of_lt_of_le (blk_lt Kgo.out) hgl);have HB:=keepB HB hb.out;have Kgb:=zk Kgb hb.out;have Kgo:=zk Kgo hb.out;have k3:=zb Kg.out 3 (.slice A3 b.f3.length c3);clear hk hb hgl a0 a1 a2 a3 a4))
  | (go_at_call 44;go_must (refine (HFD.out _ HB.out).mono ?_;rintro e w5 ⟨A7,c7,rfl,hc7,hC5,hb⟩;have HC5:=zh hC5;have HG5:=zh hc7;have HB:=keepB HB hb;have Kgb:=zk Kgb hb;have Kgo:=zk Kgo hb;have Kg:=zk Kg hb;clear hb hC5 hc7 k3))
  | ((with_reducible refine gate_dst (N:=13) rfl ?_);go_must (refine zx HB (N:=13) (cs:=#[.int .u64 0,.string ⟨#[]⟩,.slice none 0 0]) (t:=101) ?hr ?_;(case hr=>first | (go_simp;done) | (go_simp;rfl));intro gu w6 Kgu Lgu HB hbelgu hqgu;have M4:=zh (show g < gu by rw [hqgu];exact blk_lt Kg.out);have HD:=zh hbelgu;have LD5:=zh (show w5.heap.size ≤ gu by rw [hqgu];exact Nat.le_refl _);have Kgb:=zk Kgb hbelgu;have Kgo:=zk Kgo hbelgu;have Kg:=zk Kg hbelgu;clear hbelgu hqgu))
  | ((with_reducible refine gate_store (t:=101) (p:=13) (v:=.tmp 29) rfl ?_);go_must (refine zs 101 (.tmp 13) (.tmp 29) gu 0 101 [.int .u64 u.f0,.string u.f1,.slice A7 u.f2.length c7] Kgu (by kernel_rfl) ?_;intro w7 hk ho;have HC5:=zc HC5 (ho.out.below HD.out HD.out.size LD5.out);have Kgu : Hid (w7.heap[gu]? = some (.cells #[.int .u64 u.f0,.string u.f1,.slice A7 u.f2.length c7] 101 (0,0))):=hk;have HB:=zo ho HB Lgu;have Kgb:=zl ho Kgb (by have:=M2.out;have:=M3.out;have:=M4.out;omega);have Kgo:=zl ho Kgo (by have:=M2.out;have:=M3.out;have:=M4.out;omega);have Kg:=zl ho Kg (by have:=M2.out;have:=M3.out;have:=M4.out;omega);have MK1:=zh True.intro;clear HD LD5;clear hk ho))
  | (go_at_call 45;go_must (first
   | (clear MK1;refine (HN1.out g _ Kg.out).mono ?_;rintro e w8 ⟨rfl,hk,ho⟩;have HC5:=zh (keepPt HC5.out Kg.out (work_like b.f0 b.f1 A2 b.f2.length c2 A3 b.f3.length c3 b.f4 e0) ho.out);have Kg:=hk;have HB:=zh (ho.out.below HB.out HB.out.size (by have:=Lgo.out;have:=M3.out;omega));have Kgb:=zl ho Kgb (by have:=M2.out;have:=M3.out;have:=M4.out;omega);have Kgo:=zl ho Kgo (by have:=M2.out;have:=M3.out;have:=M4.out;omega);have Kgu:=zl ho Kgu (by have:=M2.out;have:=M3.out;have:=M4.out;omega);obtain ⟨u0,u1,u2⟩:=zz3 Kgu.out;have MK2:=zh True.intro;clear hk ho)
   | (clear MK2;refine (HN2.out g _ Kg.out).mono ?_;rintro e w8 ⟨rfl,hk,ho⟩;have HC5:=zh (keepPt HC5.out Kg.out (work_like b.f0 b.f1 A2 b.f2.length c2 A3 b.f3.length c3 b.f4 e1) ho.out);have Kg:=hk;have HB:=zh (ho.out.below HB.out HB.out.size (by have:=Lgo.out;have:=M3.out;omega));have Kgb:=zl ho Kgb (by have:=M2.out;have:=M3.out;have:=M4.out;omega);have Kgo:=zl ho Kgo (by have:=M2.out;have:=M3.out;have:=M4.out;omega);have Kgu:=zl ho Kgu (by have:=M2.out;have:=M3.out;have:=M4.out;omega);have k5:=zb Kg.out 5 (.int .i64 e2);clear hk ho)))
  | (go_at_call 46;go_must (refine (HWH.out A7 c7 _ HB.out HC5.out HG5.out).mono ?_;rintro e w9 ⟨rfl,hb⟩;have HC5:=zc HC5 hb;have HB:=keepB HB hb;have Kgb:=zk Kgb hb;have Kgo:=zk Kgo hb;have Kg:=zk Kg hb;have Kgu:=zk Kgu hb;clear hb u0 u1 u2)))
 refine wp_region_held_drew (S:=fun W=>W.heap[g]? = some (.cells #[.string b.f0,.int .i64 b.f1,.slice A2 b.f2.length c2,.slice A3 b.f3.length c3,.int .u64 b.f4,.int .i64 e2] 87 (0,0)) ∧ W.cell? ⟨g,5,none⟩ = some (.int .i64 e2) ∧ W.cell? ⟨gb,0,none⟩ = some (.string b.f0) ∧ W.cell? ⟨gb,1,none⟩ = some (.int .i64 b.f1) ∧ W.cell? ⟨gb,2,none⟩ = some (.slice A2 b.f2.length c2) ∧ W.cell? ⟨gb,3,none⟩ = some (.slice A3 b.f3.length c3) ∧ W.cell? ⟨gb,4,none⟩ = some (.int .u64 b.f4) ∧ W.heap[gb]? = some (.cells #[.string b.f0,.int .i64 b.f1,.slice A2 b.f2.length c2,.slice A3 b.f3.length c3,.int .u64 b.f4] 26 (0,0)) ∧ (∃ q0 q1 q2 q3 q4,W.heap[go]? = some (.cells #[q0,q1,q2,q3,q4] 26 (0,0))) ∧ Below w.heap.size w W) (by kernel_rfl) ?_ (fun hHeld=>?_)
 ·exact ⟨blk_drew Kg.out,(blk_cell (blk_drew Kg.out) 5).trans rfl,blk_cell (blk_drew Kgb.out) 0,blk_cell (blk_drew Kgb.out) 1,blk_cell (blk_drew Kgb.out) 2,blk_cell (blk_drew Kgb.out) 3,blk_cell (blk_drew Kgb.out) 4,blk_drew Kgb.out,⟨_,_,_,_,_,blk_drew Kgo.out⟩,HB.out.drew⟩
 clear Kg Kgo Kgb Kgu HB k5 HC5
 refine zt 0 (v:=?v0g3) ?y0g3 ?r0g3
 case y0g3=>(rintro w ⟨s0,s1,s2,s3,s4,s5,s6,s7,s8,s9⟩;go_simp;try with_reducible rfl)
 try simp only [zA,zB,zC,Act.put,zD,zE,zF]
 refine zt 1 (v:=?v1g3) ?y1g3 ?r1g3
 case y1g3=>(rintro w ⟨s0,s1,s2,s3,s4,s5,s6,s7,s8,s9⟩;go_simp;try with_reducible rfl)
 try simp only [zA,zB,zC,Act.put,zD,zE,zF]
 refine zt 2 (v:=?v2g3) ?y2g3 ?r2g3
 case y2g3=>(rintro w ⟨s0,s1,s2,s3,s4,s5,s6,s7,s8,s9⟩;go_simp;try with_reducible rfl)
 try simp only [zA,zB,zC,Act.put,zD,zE,zF]
 refine zt 3 (v:=?v3g3) ?y3g3 ?r3g3
 case y3g3=>(rintro w ⟨s0,s1,s2,s3,s4,s5,s6,s7,s8,s9⟩;go_simp;try with_reducible rfl)
 try simp only [zA,zB,zC,Act.put,zD,zE,zF]
 refine zt 4 (v:=?v4g3) ?y4g3 ?r4g3
 case y4g3=>(rintro w ⟨s0,s1,s2,s3,s4,s5,s6,s7,s8,s9⟩;go_simp;try with_reducible rfl)
 try simp only [zA,zB,zC,Act.put,zD,zE,zF]
 refine wpAnyH_ready (rs:=[5]) (by kernel_rfl) (by simp) ?_
 refine AllReadyH.cons (o:=_) rfl (fun K hK=>?_) AllReadyH.nil
 rw [if_pos (by rfl)]
 obtain ⟨s0,s1,s2,s3,s4,s5,s6,s7,s8,s9⟩:=hHeld
 obtain ⟨q0,q1,q2,q3,q4,s8⟩:=s8
 refine wp_store_row rfl 26 (.tmp 8) (.tmp 69) rfl go 0 _ 26 (.agg #[.string b.f0,.int .i64 b.f1,.slice A2 b.f2.length c2,.slice A3 b.f3.length c3,.int .u64 b.f4]) [.string b.f0,.int .i64 b.f1,.slice A2 b.f2.length c2,.slice A3 b.f3.length c3,.int .u64 b.f4] rfl rfl s8 rfl isz_bucket (by show 0 + 5 ≤ 5;decide) (by simp [Value.oneCell']) ?_
 intro w14 hk ho
 have KZ : Hid (w14.heap[go]? = some (.cells #[.string b.f0,.int .i64 b.f1,.slice A2 b.f2.length c2,.slice A3 b.f3.length c3,.int .u64 b.f4] 26 (0,0))):=hk
 have HBZ:=zh (ho.out.below s9 s9.size Lgo.out)
 have KG2:=zh (ho.out.blk s0 (by have:=M3.out;omega))
 have KB2:=zh (ho.out.blk s7 (by have:=M2.out;omega))
 refine hK.out _ _ ⟨KG2.out,zj KG2 5,zj KB2 0,zj KB2 1,zj KB2 2,zj KB2 3,zj KB2 4,KB2.out,⟨_,_,_,_,_,hk.out⟩,HBZ.out⟩ (fun hHeld=>?_)
 clear hK K hk ho q0 q1 q2 q3 q4 s0 s1 s2 s3 s4 s5 s6 s7 s8 s9
 try simp only [zA,zB,zC,Act.put,zD,zE,zF]
 refine zt 6 (v:=?v6g3) ?y6g3 ?r6g3
 case y6g3=>(rintro w ⟨s0,s1,s2,s3,s4,s5,s6,s7,s8,s9⟩;go_simp;try with_reducible rfl)
 try simp only [zA,zB,zC,Act.put,zD,zE,zF]
 refine zt 7 (v:=?v7g3) ?y7g3 ?r7g3
 case y7g3=>(rintro w ⟨s0,s1,s2,s3,s4,s5,s6,s7,s8,s9⟩;go_simp;try with_reducible rfl)
 try simp only [zA,zB,zC,Act.put,zD,zE,zF]
 refine zt 8 (v:=?v8g3) ?y8g3 ?r8g3
 case y8g3=>(rintro w ⟨s0,s1,s2,s3,s4,s5,s6,s7,s8,s9⟩;go_simp;try with_reducible rfl)
 try simp only [zA,zB,zC,Act.put,zD,zE,zF]
 refine wpAnyH_done (by kernel_rfl) ?_ _
 go_wp2
 have z0:=zb KZ.out 0 (.string b.f0)
 have z1:=zb KZ.out 1 (.int .i64 b.f1)
 have z2:=zb KZ.out 2 (.slice A2 b.f2.length c2)
 have z3:=zb KZ.out 3 (.slice A3 b.f3.length c3)
 have z4:=zb KZ.out 4 (.int .u64 b.f4)
 refine bodyPost_ret (v:=.tuple #[.agg #[.string b.f0,.int .i64 b.f1,.slice A2 b.f2.length c2,.slice A3 b.f3.length c3,.int .u64 b.f4],.int .u64 0,.string ⟨#[]⟩,.int .i64 e2]) (by simp [results,Tryz.results17,go_sem,z0,z1,z2,z3,z4]) rfl ?_
 exact ⟨_,rfl,⟨A2,c2,A3,c3,rfl,G2.out,G3.out,H2.out _ HBZ.out,H3.out _ HBZ.out⟩,HBZ.out⟩
theorem whole_n11 (b : S26) (A2 A3 : Option Addr) (c2 c3 : Nat) (id : Int) (ps : List S43) (A : Option Addr) (c : Nat) (q : Int) (w : World) (h2 : Kd.C k56 w A2 b.f2.length b.f2) (g2 : b.f2.length ≤ c2) (h3 : Kd.C k101 w A3 b.f3.length b.f3) (g3 : b.f3.length ≤ c3) (hl : ps.length < 100) (h4 : Kd.C k43 w A ps.length ps) (e0 : Int) (he0 : openR b anyK = e0) (u : S101) (fe : Int) (hfe : fe ≠ 0) (hf : findR b.f3 id = (u,fe)) (data tx : ByteArray) (we : Int) (hwe : we ≠ 0) (hw : wholeR u ps = (data,tx,we)) (e1 e2 : Int) (he1 : noR true fe e0 = e1) (he2 : noR true we e1 = e2) (hz : e2 ≠ 0) :
  Calls Tryz.prog 17 #[.agg #[.string b.f0,.int .i64 b.f1,.slice A2 b.f2.length c2,.slice A3 b.f3.length c3,.int .u64 b.f4],.int .u64 id,.slice A ps.length c,.int .i64 q] w (BkPost b [.int .u64 0,.string ⟨#[]⟩,.int .i64 e2] w):=by
 have H2:=zh (fun (W : World) (h : Below w.heap.size w W)=>Kd.C_below h2 h)
 have H3:=zh (fun (W : World) (h : Below w.heap.size w W)=>Kd.C_below h3 h)
 have HOP:=zh (fun (W : World) (h : Below w.heap.size w W)=>open.walk b A2 A3 c2 c3 anyK W (Kd.C_below h2 h) g2 (Kd.C_below h3 h) g3)
 rw [he0] at HOP
 have HFD:=zh (fun (W : World) (h : Below w.heap.size w W)=>find.walk A3 c3 b.f3 id W (Kd.C_below h3 h) g3)
 unfold FindPost at HFD
 rw [hf] at HFD
 dsimp only at HFD
 have HWH:=zh (fun (A7 : Option Addr) (c7 : Nat) (W : World) (hW : Below w.heap.size w W) (hC : Kd.C k40 W A7 u.f2.length u.f2) (hc : u.f2.length ≤ c7)=>whole.walk u A7 c7 A c ps W hl hC hc (Kd.C_below h4 hW))
 rw [hw] at HWH
 unfold wholeV at HWH
 dsimp only at HWH
 have HN1:=zh (fun (g : Nat) (W : World) hW=>no.walk g (.string b.f0) (.int .i64 b.f1) (.slice A2 b.f2.length c2) (.slice A3 b.f3.length c3) (.int .u64 b.f4) e0 fe true W hW)
 rw [he1] at HN1
 have HN2:=zh (fun (g : Nat) (W : World) hW=>no.walk g (.string b.f0) (.int .i64 b.f1) (.slice A2 b.f2.length c2) (.slice A3 b.f3.length c3) (.int .u64 b.f4) e1 we true W hW)
 rw [he2] at HN2
 have q0 : (fe == 0) = false:=beq_eq_false_iff_ne.2 hfe
 have r0 : (fe != 0) = true:=by rw [bne,q0];rfl
 have q1 : (we == 0) = false:=beq_eq_false_iff_ne.2 hwe
 have r1 : (we != 0) = true:=by rw [bne,q1];rfl
 have q2 : (e2 == 0) = false:=beq_eq_false_iff_ne.2 hz
 have r2 : (e2 != 0) = true:=by rw [bne,q2];rfl
 have G2:=zh g2
 have G3:=zh g3
 have HB:=zh (Below.refl w.heap.size w)
 clear h2 h3 g2 g3 h4 hl he0 hf hw he1 he2 hz
 go_enter Tryz.func17,Tryz.ntmps17
 go_wp2_with (first
  | ((with_reducible refine gate_dst (N:=4) rfl ?_);go_must (refine zx HB (N:=4) (cs:=#[.string b.f0,.int .i64 b.f1,.slice A2 b.f2.length c2,.slice A3 b.f3.length c3,.int .u64 b.f4]) (t:=26) ?hr ?_;(case hr=>first | (go_simp;done) | (go_simp;rfl));intro gb w1 Kgb Lgb HB hbelgb hqgb;clear hbelgb hqgb))
  | ((with_reducible refine gate_dst (N:=8) rfl ?_);go_must (refine zx HB (N:=8) (cs:=#[.string ⟨#[]⟩,.int .i64 0,.slice none 0 0,.slice none 0 0,.int .u64 0]) (t:=26) ?hr ?_;(case hr=>first | (go_simp;done) | (go_simp;rfl));intro go w3 Kgo Lgo HB hbelgo hqgo;have M2:=zh (show gb < go by rw [hqgo];exact blk_lt Kgb.out);have Kgb:=zk Kgb hbelgo;obtain ⟨a0,a1,a2,a3,a4⟩:=zz5 Kgb.out;clear hbelgo hqgo))
  | (go_at_call 32;go_must (refine (HOP.out _ HB.out).mono ?_;rintro e w4 ⟨g,rfl,hgl,hk,hb⟩;have Kg:=hk;have M3:=zh (show go < g from Nat.lt_of_lt_of_le (blk_lt Kgo.out) hgl);have HB:=keepB HB hb.out;have Kgb:=zk Kgb hb.out;have Kgo:=zk Kgo hb.out;have k3:=zb Kg.out 3 (.slice A3 b.f3.length c3);clear hk hb hgl a0 a1 a2 a3 a4))
  | (go_at_call 44;go_must (refine (HFD.out _ HB.out).mono ?_;rintro e w5 ⟨A7,c7,rfl,hc7,hC5,hb⟩;have HC5:=zh hC5;have HG5:=zh hc7;have HB:=keepB HB hb;have Kgb:=zk Kgb hb;have Kgo:=zk Kgo hb;have Kg:=zk Kg hb;clear hb hC5 hc7 k3))
  | ((with_reducible refine gate_dst (N:=13) rfl ?_);go_must (refine zx HB (N:=13) (cs:=#[.int .u64 0,.string ⟨#[]⟩,.slice none 0 0]) (t:=101) ?hr ?_;(case hr=>first | (go_simp;done) | (go_simp;rfl));intro gu w6 Kgu Lgu HB hbelgu hqgu;have M4:=zh (show g < gu by rw [hqgu];exact blk_lt Kg.out);have HD:=zh hbelgu;have LD5:=zh (show w5.heap.size ≤ gu by rw [hqgu];exact Nat.le_refl _);have Kgb:=zk Kgb hbelgu;have Kgo:=zk Kgo hbelgu;have Kg:=zk Kg hbelgu;clear hbelgu hqgu))
  | ((with_reducible refine gate_store (t:=101) (p:=13) (v:=.tmp 29) rfl ?_);go_must (refine zs 101 (.tmp 13) (.tmp 29) gu 0 101 [.int .u64 u.f0,.string u.f1,.slice A7 u.f2.length c7] Kgu (by kernel_rfl) ?_;intro w7 hk ho;have HC5:=zc HC5 (ho.out.below HD.out HD.out.size LD5.out);have Kgu : Hid (w7.heap[gu]? = some (.cells #[.int .u64 u.f0,.string u.f1,.slice A7 u.f2.length c7] 101 (0,0))):=hk;have HB:=zo ho HB Lgu;have Kgb:=zl ho Kgb (by have:=M2.out;have:=M3.out;have:=M4.out;omega);have Kgo:=zl ho Kgo (by have:=M2.out;have:=M3.out;have:=M4.out;omega);have Kg:=zl ho Kg (by have:=M2.out;have:=M3.out;have:=M4.out;omega);have MK1:=zh True.intro;clear HD LD5;clear hk ho))
  | (go_at_call 45;go_must (first
   | (clear MK1;refine (HN1.out g _ Kg.out).mono ?_;rintro e w8 ⟨rfl,hk,ho⟩;have HC5:=zh (keepPt HC5.out Kg.out (work_like b.f0 b.f1 A2 b.f2.length c2 A3 b.f3.length c3 b.f4 e0) ho.out);have Kg:=hk;have HB:=zh (ho.out.below HB.out HB.out.size (by have:=Lgo.out;have:=M3.out;omega));have Kgb:=zl ho Kgb (by have:=M2.out;have:=M3.out;have:=M4.out;omega);have Kgo:=zl ho Kgo (by have:=M2.out;have:=M3.out;have:=M4.out;omega);have Kgu:=zl ho Kgu (by have:=M2.out;have:=M3.out;have:=M4.out;omega);obtain ⟨u0,u1,u2⟩:=zz3 Kgu.out;have MK2:=zh True.intro;clear hk ho)
   | (clear MK2;refine (HN2.out g _ Kg.out).mono ?_;rintro e w8 ⟨rfl,hk,ho⟩;have HC5:=zh (keepPt HC5.out Kg.out (work_like b.f0 b.f1 A2 b.f2.length c2 A3 b.f3.length c3 b.f4 e1) ho.out);have Kg:=hk;have HB:=zh (ho.out.below HB.out HB.out.size (by have:=Lgo.out;have:=M3.out;omega));have Kgb:=zl ho Kgb (by have:=M2.out;have:=M3.out;have:=M4.out;omega);have Kgo:=zl ho Kgo (by have:=M2.out;have:=M3.out;have:=M4.out;omega);have Kgu:=zl ho Kgu (by have:=M2.out;have:=M3.out;have:=M4.out;omega);have k5:=zb Kg.out 5 (.int .i64 e2);clear hk ho)))
  | (go_at_call 46;go_must (refine (HWH.out A7 c7 _ HB.out HC5.out HG5.out).mono ?_;rintro e w9 ⟨rfl,hb⟩;have HC5:=zc HC5 hb;have HB:=keepB HB hb;have Kgb:=zk Kgb hb;have Kgo:=zk Kgo hb;have Kg:=zk Kg hb;have Kgu:=zk Kgu hb;clear hb u0 u1 u2)))
 refine wp_region_held_drew (S:=fun W=>W.heap[g]? = some (.cells #[.string b.f0,.int .i64 b.f1,.slice A2 b.f2.length c2,.slice A3 b.f3.length c3,.int .u64 b.f4,.int .i64 e2] 87 (0,0)) ∧ W.cell? ⟨g,5,none⟩ = some (.int .i64 e2) ∧ W.cell? ⟨gb,0,none⟩ = some (.string b.f0) ∧ W.cell? ⟨gb,1,none⟩ = some (.int .i64 b.f1) ∧ W.cell? ⟨gb,2,none⟩ = some (.slice A2 b.f2.length c2) ∧ W.cell? ⟨gb,3,none⟩ = some (.slice A3 b.f3.length c3) ∧ W.cell? ⟨gb,4,none⟩ = some (.int .u64 b.f4) ∧ W.heap[gb]? = some (.cells #[.string b.f0,.int .i64 b.f1,.slice A2 b.f2.length c2,.slice A3 b.f3.length c3,.int .u64 b.f4] 26 (0,0)) ∧ (∃ q0 q1 q2 q3 q4,W.heap[go]? = some (.cells #[q0,q1,q2,q3,q4] 26 (0,0))) ∧ Below w.heap.size w W) (by kernel_rfl) ?_ (fun hHeld=>?_)
 ·exact ⟨blk_drew Kg.out,(blk_cell (blk_drew Kg.out) 5).trans rfl,blk_cell (blk_drew Kgb.out) 0,blk_cell (blk_drew Kgb.out) 1,blk_cell (blk_drew Kgb.out) 2,blk_cell (blk_drew Kgb.out) 3,blk_cell (blk_drew Kgb.out) 4,blk_drew Kgb.out,⟨_,_,_,_,_,blk_drew Kgo.out⟩,HB.out.drew⟩
 clear Kg Kgo Kgb Kgu HB k5 HC5
 refine zt 0 (v:=?v0g4) ?y0g4 ?r0g4
 case y0g4=>(rintro w ⟨s0,s1,s2,s3,s4,s5,s6,s7,s8,s9⟩;go_simp;try with_reducible rfl)
 try simp only [zA,zB,zC,Act.put,zD,zE,zF]
 refine zt 1 (v:=?v1g4) ?y1g4 ?r1g4
 case y1g4=>(rintro w ⟨s0,s1,s2,s3,s4,s5,s6,s7,s8,s9⟩;go_simp;try with_reducible rfl)
 try simp only [zA,zB,zC,Act.put,zD,zE,zF]
 refine zt 2 (v:=?v2g4) ?y2g4 ?r2g4
 case y2g4=>(rintro w ⟨s0,s1,s2,s3,s4,s5,s6,s7,s8,s9⟩;go_simp;try with_reducible rfl)
 try simp only [zA,zB,zC,Act.put,zD,zE,zF]
 refine zt 3 (v:=?v3g4) ?y3g4 ?r3g4
 case y3g4=>(rintro w ⟨s0,s1,s2,s3,s4,s5,s6,s7,s8,s9⟩;go_simp;try with_reducible rfl)
 try simp only [zA,zB,zC,Act.put,zD,zE,zF]
 refine zt 4 (v:=?v4g4) ?y4g4 ?r4g4
 case y4g4=>(rintro w ⟨s0,s1,s2,s3,s4,s5,s6,s7,s8,s9⟩;go_simp;try with_reducible rfl)
 try simp only [zA,zB,zC,Act.put,zD,zE,zF]
 refine wpAnyH_ready (rs:=[5]) (by kernel_rfl) (by simp) ?_
 refine AllReadyH.cons (o:=_) rfl (fun K hK=>?_) AllReadyH.nil
 rw [if_pos (by rfl)]
 obtain ⟨s0,s1,s2,s3,s4,s5,s6,s7,s8,s9⟩:=hHeld
 obtain ⟨q0,q1,q2,q3,q4,s8⟩:=s8
 refine wp_store_row rfl 26 (.tmp 8) (.tmp 69) rfl go 0 _ 26 (.agg #[.string b.f0,.int .i64 b.f1,.slice A2 b.f2.length c2,.slice A3 b.f3.length c3,.int .u64 b.f4]) [.string b.f0,.int .i64 b.f1,.slice A2 b.f2.length c2,.slice A3 b.f3.length c3,.int .u64 b.f4] rfl rfl s8 rfl isz_bucket (by show 0 + 5 ≤ 5;decide) (by simp [Value.oneCell']) ?_
 intro w14 hk ho
 have KZ : Hid (w14.heap[go]? = some (.cells #[.string b.f0,.int .i64 b.f1,.slice A2 b.f2.length c2,.slice A3 b.f3.length c3,.int .u64 b.f4] 26 (0,0))):=hk
 have HBZ:=zh (ho.out.below s9 s9.size Lgo.out)
 have KG2:=zh (ho.out.blk s0 (by have:=M3.out;omega))
 have KB2:=zh (ho.out.blk s7 (by have:=M2.out;omega))
 refine hK.out _ _ ⟨KG2.out,zj KG2 5,zj KB2 0,zj KB2 1,zj KB2 2,zj KB2 3,zj KB2 4,KB2.out,⟨_,_,_,_,_,hk.out⟩,HBZ.out⟩ (fun hHeld=>?_)
 clear hK K hk ho q0 q1 q2 q3 q4 s0 s1 s2 s3 s4 s5 s6 s7 s8 s9
 try simp only [zA,zB,zC,Act.put,zD,zE,zF]
 refine zt 6 (v:=?v6g4) ?y6g4 ?r6g4
 case y6g4=>(rintro w ⟨s0,s1,s2,s3,s4,s5,s6,s7,s8,s9⟩;go_simp;try with_reducible rfl)
 try simp only [zA,zB,zC,Act.put,zD,zE,zF]
 refine zt 7 (v:=?v7g4) ?y7g4 ?r7g4
 case y7g4=>(rintro w ⟨s0,s1,s2,s3,s4,s5,s6,s7,s8,s9⟩;go_simp;try with_reducible rfl)
 try simp only [zA,zB,zC,Act.put,zD,zE,zF]
 refine zt 8 (v:=?v8g4) ?y8g4 ?r8g4
 case y8g4=>(rintro w ⟨s0,s1,s2,s3,s4,s5,s6,s7,s8,s9⟩;go_simp;try with_reducible rfl)
 try simp only [zA,zB,zC,Act.put,zD,zE,zF]
 refine wpAnyH_done (by kernel_rfl) ?_ _
 go_wp2
 have z0:=zb KZ.out 0 (.string b.f0)
 have z1:=zb KZ.out 1 (.int .i64 b.f1)
 have z2:=zb KZ.out 2 (.slice A2 b.f2.length c2)
 have z3:=zb KZ.out 3 (.slice A3 b.f3.length c3)
 have z4:=zb KZ.out 4 (.int .u64 b.f4)
 refine bodyPost_ret (v:=.tuple #[.agg #[.string b.f0,.int .i64 b.f1,.slice A2 b.f2.length c2,.slice A3 b.f3.length c3,.int .u64 b.f4],.int .u64 0,.string ⟨#[]⟩,.int .i64 e2]) (by simp [results,Tryz.results17,go_sem,z0,z1,z2,z3,z4]) rfl ?_
 exact ⟨_,rfl,⟨A2,c2,A3,c3,rfl,G2.out,G3.out,H2.out _ HBZ.out,H3.out _ HBZ.out⟩,HBZ.out⟩
end
section
open Go.WideMaps Go.Maps
attribute [local go_sem] Oper.semAt_some
section
variable {P : Program} {o : Oper} {a : Act} {Q : Exit → Act → World → Prop} {K : Act → World → Prop}
/-- a box made in a drawn region: its block and the world letters -/
theorem wp_box_row {W : World} {N : Tmp} (hd : o.dst = some N) {cs : Array Value} {t : TypeId}
  (hrun : (execOp a.eval o).run P W = .ok (.value (.pointer (some ⟨W.heap.size,0,none⟩))) (W.alloc (.cells cs t (0,0))))
  (h : ∀ g,g = W.heap.size → ∀ w1,w1.heap[g]? = some (.cells cs t (0,0)) → Below W.heap.size W w1 → K (a.put o.dst (.pointer (some ⟨g,0,none⟩))) w1) : Oper.wp P o a W K Q:=by
 unfold Oper.wp
 rw [hrun]
 exact h _ rfl _ (blk_new W _) (below_alloc (Below.refl _ _) _)
end
theorem whole_gg (b : S26) (A2 A3 : Option Addr) (c2 c3 : Nat) (id : Int) (ps : List S43) (A : Option Addr) (c : Nat) (q : Int) (w : World) (h2 : Kd.C k56 w A2 b.f2.length b.f2) (g2 : b.f2.length ≤ c2) (h3 : Kd.C k101 w A3 b.f3.length b.f3) (g3 : b.f3.length ≤ c3) (hl : ps.length < 100) (h4 : Kd.C k43 w A ps.length ps) (he0 : openR b anyK = 0) (u : S101) (hf : findR b.f3 id = (u,0)) (data tx : ByteArray) (hw : wholeR u ps = (data,tx,0)) (r3 : List S101) (hr : abortR b.f3 id = (r3,0)) (pb : S26) (pl : Int) (hp : laidR (⟨b.f0,b.f1,b.f2,r3,b.f4⟩ : S26) u.f1 (fun l id=>putV l b.f1 ⟨id,data,false,q⟩) = (pb,pl,0)) :
  Calls Tryz.prog 17 #[.agg #[.string b.f0,.int .i64 b.f1,.slice A2 b.f2.length c2,.slice A3 b.f3.length c3,.int .u64 b.f4],.int .u64 id,.slice A ps.length c,.int .i64 q] w (BkPost pb [.int .u64 pl,.string tx,.int .i64 0] w):=by
 have H2:=zh (fun (W : World) (h : Below w.heap.size w W)=>Kd.C_below h2 h)
 have H3:=zh (fun (W : World) (h : Below w.heap.size w W)=>Kd.C_below h3 h)
 have HOP:=zh (fun (W : World) (h : Below w.heap.size w W)=>open.walk b A2 A3 c2 c3 anyK W (Kd.C_below h2 h) g2 (Kd.C_below h3 h) g3)
 rw [he0] at HOP
 have HFD:=zh (fun (W : World) (h : Below w.heap.size w W)=>find.walk A3 c3 b.f3 id W (Kd.C_below h3 h) g3)
 unfold FindPost at HFD
 rw [hf] at HFD
 dsimp only at HFD
 have HWH:=zh (fun (A7 : Option Addr) (c7 : Nat) (W : World) (hW : Below w.heap.size w W) (hC : Kd.C k40 W A7 u.f2.length u.f2) (hc : u.f2.length ≤ c7)=>whole.walk u A7 c7 A c ps W hl hC hc (Kd.C_below h4 hW))
 rw [hw] at HWH
 unfold wholeV at HWH
 dsimp only at HWH
 have n00 : noR false 0 0 = 0:=by unfold noR;rw [if_neg (by decide)]
 have n01 : noR (!((0 : Int) == 0)) 0 0 = 0:=n00
 have HN1:=zh (fun (g : Nat) (W : World) hW=>no.walk g (.string b.f0) (.int .i64 b.f1) (.slice A2 b.f2.length c2) (.slice A3 b.f3.length c3) (.int .u64 b.f4) 0 0 false W hW)
 rw [n00] at HN1
 have HN2:=HN1
 have HAB:=zh (fun (W : World) (h : Below w.heap.size w W)=>abort.walk A3 c3 b.f3 id W (Kd.C_below h3 h) g3)
 rw [hr] at HAB
 have HUP:=zh (fun (g : Nat) (A4 : Option Addr) (c4 : Nat) (W : World) hW=>uploadsW.walk g (.string b.f0) (.int .i64 b.f1) (.slice A2 b.f2.length c2) (.slice A3 b.f3.length c3) (.int .u64 b.f4) A4 r3.length c4 0 0 W hW)
 rw [n01] at HUP
 have HPT:=zh (fun (A4 : Option Addr) (c4 : Nat) (W : World) (hW : Below w.heap.size w W) (hC : Kd.C k101 W A4 r3.length r3) (hc : r3.length ≤ c4)=>putB.walk (⟨b.f0,b.f1,b.f2,r3,b.f4⟩ : S26) A2 A4 c2 c4 u.f1 data q W (Kd.C_below h2 hW) g2 hC hc)
 dsimp only at HPT
 rw [hp] at HPT
 have G2:=zh g2
 have G3:=zh g3
 have HB:=zh (Below.refl w.heap.size w)
 clear h2 h3 g2 g3 h4 hl he0 hf hw hr hp n00 n01
 go_enter Tryz.func17,Tryz.ntmps17
 go_wp2_with (first
  | ((with_reducible refine gate_dst (N:=4) rfl ?_);go_must (refine zx HB (N:=4) (cs:=#[.string b.f0,.int .i64 b.f1,.slice A2 b.f2.length c2,.slice A3 b.f3.length c3,.int .u64 b.f4]) (t:=26) ?hr ?_;(case hr=>first | (go_simp;done) | (go_simp;rfl));intro gb w1 Kgb Lgb HB hbelgb hqgb;clear hbelgb hqgb))
  | ((with_reducible refine gate_dst (N:=8) rfl ?_);go_must (refine zx HB (N:=8) (cs:=#[.string ⟨#[]⟩,.int .i64 0,.slice none 0 0,.slice none 0 0,.int .u64 0]) (t:=26) ?hr ?_;(case hr=>first | (go_simp;done) | (go_simp;rfl));intro go w3 Kgo Lgo HB hbelgo hqgo;have M2:=zh (show gb < go by rw [hqgo];exact blk_lt Kgb.out);have Kgb:=zk Kgb hbelgo;obtain ⟨a0,a1,a2,a3,a4⟩:=zz5 Kgb.out;clear hbelgo hqgo))
  | (go_at_call 32;go_must (refine (HOP.out _ HB.out).mono ?_;rintro e w4 ⟨g,rfl,hgl,hk,hb⟩;have Kg:=hk;have M3:=zh (show go < g from Nat.lt_of_lt_of_le (blk_lt Kgo.out) hgl);have HB:=keepB HB hb.out;have Kgb:=zk Kgb hb.out;have Kgo:=zk Kgo hb.out;have k3:=zb Kg.out 3 (.slice A3 b.f3.length c3);clear hk hb hgl a0 a1 a2 a3 a4))
  | (go_at_call 44;go_must (refine (HFD.out _ HB.out).mono ?_;rintro e w5 ⟨A7,c7,rfl,hc7,hC5,hb⟩;have HC5:=zh hC5;have HG5:=zh hc7;have HB:=keepB HB hb;have Kgb:=zk Kgb hb;have Kgo:=zk Kgo hb;have Kg:=zk Kg hb;clear hb hC5 hc7 k3))
  | ((with_reducible refine gate_dst (N:=13) rfl ?_);go_must (refine zx HB (N:=13) (cs:=#[.int .u64 0,.string ⟨#[]⟩,.slice none 0 0]) (t:=101) ?hr ?_;(case hr=>first | (go_simp;done) | (go_simp;rfl));intro gu w6 Kgu Lgu HB hbelgu hqgu;have M4:=zh (show g < gu by rw [hqgu];exact blk_lt Kg.out);have HD:=zh hbelgu;have LD5:=zh (show w5.heap.size ≤ gu by rw [hqgu];exact Nat.le_refl _);have Kgb:=zk Kgb hbelgu;have Kgo:=zk Kgo hbelgu;have Kg:=zk Kg hbelgu;clear hbelgu hqgu))
  | ((with_reducible refine gate_store (t:=101) (p:=13) (v:=.tmp 29) rfl ?_);go_must (refine zs 101 (.tmp 13) (.tmp 29) gu 0 101 [.int .u64 u.f0,.string u.f1,.slice A7 u.f2.length c7] Kgu (by kernel_rfl) ?_;intro w7 hk ho;have HC5:=zc HC5 (ho.out.below HD.out HD.out.size LD5.out);have Kgu : Hid (w7.heap[gu]? = some (.cells #[.int .u64 u.f0,.string u.f1,.slice A7 u.f2.length c7] 101 (0,0))):=hk;have HB:=zo ho HB Lgu;have Kgb:=zl ho Kgb (by have:=M2.out;have:=M3.out;have:=M4.out;omega);have Kgo:=zl ho Kgo (by have:=M2.out;have:=M3.out;have:=M4.out;omega);have Kg:=zl ho Kg (by have:=M2.out;have:=M3.out;have:=M4.out;omega);have MK1:=zh True.intro;clear HD LD5;clear hk ho))
  | (go_at_call 45;go_must (first
   | (clear MK1;refine (HN1.out g _ Kg.out).mono ?_;rintro e w8 ⟨rfl,hk,ho⟩;have HC5:=zh (keepPt HC5.out Kg.out (work_like b.f0 b.f1 A2 b.f2.length c2 A3 b.f3.length c3 b.f4 0) ho.out);have Kg:=hk;have HB:=zh (ho.out.below HB.out HB.out.size (by have:=Lgo.out;have:=M3.out;omega));have Kgb:=zl ho Kgb (by have:=M2.out;have:=M3.out;have:=M4.out;omega);have Kgo:=zl ho Kgo (by have:=M2.out;have:=M3.out;have:=M4.out;omega);have Kgu:=zl ho Kgu (by have:=M2.out;have:=M3.out;have:=M4.out;omega);obtain ⟨u0,u1,u2⟩:=zz3 Kgu.out;have MK2:=zh True.intro;clear hk ho)
   | (clear MK2;refine (HN2.out g _ Kg.out).mono ?_;rintro e w8 ⟨rfl,hk,ho⟩;have HC5:=zh (keepPt HC5.out Kg.out (work_like b.f0 b.f1 A2 b.f2.length c2 A3 b.f3.length c3 b.f4 0) ho.out);have Kg:=hk;have HB:=zh (ho.out.below HB.out HB.out.size (by have:=Lgo.out;have:=M3.out;omega));have Kgb:=zl ho Kgb (by have:=M2.out;have:=M3.out;have:=M4.out;omega);have Kgo:=zl ho Kgo (by have:=M2.out;have:=M3.out;have:=M4.out;omega);have Kgu:=zl ho Kgu (by have:=M2.out;have:=M3.out;have:=M4.out;omega);have k3:=zb Kg.out 3 (.slice A3 b.f3.length c3);have k5:=zb Kg.out 5 (.int .i64 0);clear hk ho)))
  | (go_at_call 46;go_must (refine (HWH.out A7 c7 _ HB.out HC5.out HG5.out).mono ?_;rintro e w9 ⟨rfl,hb⟩;have HC5:=zc HC5 hb;have HB:=keepB HB hb;have Kgb:=zk Kgb hb;have Kgo:=zk Kgo hb;have Kg:=zk Kg hb;have Kgu:=zk Kgu hb;clear hb u0 u1 u2))
  | (go_at_call 47;go_must (refine (HAB.out _ HB.out).mono ?_;rintro e w10 ⟨A4,c4,rfl,hc4,hC4,hb⟩;have HC4:=zh hC4;have HB:=keepB HB hb;have Kgb:=zk Kgb hb;have Kgo:=zk Kgo hb;have Kg:=zk Kg hb;have Kgu:=zk Kgu hb;clear hb hC4 k3 k5))
  | (go_at_call 34;go_must (refine (HUP.out g A4 c4 _ Kg.out).mono ?_;rintro e w11 ⟨rfl,hk,ho⟩;have HC4:=zh (keepU HC4.out Kg.out (work_like b.f0 b.f1 A2 b.f2.length c2 A3 b.f3.length c3 b.f4 0) ho.out);have Kg:=hk;have HB:=zh (ho.out.below HB.out HB.out.size (by have:=Lgo.out;have:=M3.out;omega));have Kgb:=zl ho Kgb (by have:=M2.out;have:=M3.out;have:=M4.out;omega);have Kgo:=zl ho Kgo (by have:=M2.out;have:=M3.out;have:=M4.out;omega);have Kgu:=zl ho Kgu (by have:=M2.out;have:=M3.out;have:=M4.out;omega);have k5:=zb Kg.out 5 (.int .i64 0);clear hk ho)))
 refine wp_region_held_drew (S:=fun W=>W.heap[g]? = some (.cells #[.string b.f0,.int .i64 b.f1,.slice A2 b.f2.length c2,.slice A4 r3.length c4,.int .u64 b.f4,.int .i64 0] 87 (0,0)) ∧ W.cell? ⟨g,0,none⟩ = some (.string b.f0) ∧ W.cell? ⟨g,1,none⟩ = some (.int .i64 b.f1) ∧ W.cell? ⟨g,2,none⟩ = some (.slice A2 b.f2.length c2) ∧ W.cell? ⟨g,3,none⟩ = some (.slice A4 r3.length c4) ∧ W.cell? ⟨g,4,none⟩ = some (.int .u64 b.f4) ∧ W.heap[gu]? = some (.cells #[.int .u64 u.f0,.string u.f1,.slice A7 u.f2.length c7] 101 (0,0)) ∧ W.cell? ⟨gu,1,none⟩ = some (.string u.f1) ∧ W.heap[gb]? = some (.cells #[.string b.f0,.int .i64 b.f1,.slice A2 b.f2.length c2,.slice A3 b.f3.length c3,.int .u64 b.f4] 26 (0,0)) ∧ W.heap[go]? = some (.cells #[.string ⟨#[]⟩,.int .i64 0,.slice none 0 0,.slice none 0 0,.int .u64 0] 26 (0,0)) ∧ Kd.C k101 W A4 r3.length r3 ∧ Below w.heap.size w W) (by kernel_rfl) ?_ (fun hHeld=>?_)
 ·exact ⟨blk_drew Kg.out,(blk_cell (blk_drew Kg.out) 0).trans rfl,(blk_cell (blk_drew Kg.out) 1).trans rfl,(blk_cell (blk_drew Kg.out) 2).trans rfl,(blk_cell (blk_drew Kg.out) 3).trans rfl,(blk_cell (blk_drew Kg.out) 4).trans rfl,blk_drew Kgu.out,(blk_cell (blk_drew Kgu.out) 1).trans rfl,blk_drew Kgb.out,blk_drew Kgo.out,Kd.C_below HC4.out (below_drew (Below.refl _ _)),HB.out.drew⟩
 clear Kg Kgo Kgb Kgu HB k5 HC4 HC5
 refine zt 0 (v:=?v0g1) ?y0g1 ?r0g1
 case y0g1=>(rintro w ⟨s0,s1,s2,s3,s4,s5,s6,s7,s8,s9,s10,s11⟩;go_simp;try with_reducible rfl)
 try simp only [zA,zB,zC,Act.put,zD,zE,zF]
 refine zt 1 (v:=?v1g1) ?y1g1 ?r1g1
 case y1g1=>(rintro w ⟨s0,s1,s2,s3,s4,s5,s6,s7,s8,s9,s10,s11⟩;go_simp;try with_reducible rfl)
 try simp only [zA,zB,zC,Act.put,zD,zE,zF]
 refine zt 2 (v:=?v2g1) ?y2g1 ?r2g1
 case y2g1=>(rintro w ⟨s0,s1,s2,s3,s4,s5,s6,s7,s8,s9,s10,s11⟩;go_simp;try with_reducible rfl)
 try simp only [zA,zB,zC,Act.put,zD,zE,zF]
 refine zt 3 (v:=?v3g1) ?y3g1 ?r3g1
 case y3g1=>(rintro w ⟨s0,s1,s2,s3,s4,s5,s6,s7,s8,s9,s10,s11⟩;go_simp;try with_reducible rfl)
 try simp only [zA,zB,zC,Act.put,zD,zE,zF]
 refine zt 4 (v:=?v4g1) ?y4g1 ?r4g1
 case y4g1=>(rintro w ⟨s0,s1,s2,s3,s4,s5,s6,s7,s8,s9,s10,s11⟩;go_simp;try with_reducible rfl)
 try simp only [zA,zB,zC,Act.put,zD,zE,zF]
 refine zt 5 (v:=?v5g1) ?y5g1 ?r5g1
 case y5g1=>(rintro w ⟨s0,s1,s2,s3,s4,s5,s6,s7,s8,s9,s10,s11⟩;go_simp;try with_reducible rfl)
 try simp only [zA,zB,zC,Act.put,zD,zE,zF]
 refine zt 6 (v:=?v6g1) ?y6g1 ?r6g1
 case y6g1=>(rintro w ⟨s0,s1,s2,s3,s4,s5,s6,s7,s8,s9,s10,s11⟩;go_simp;try with_reducible rfl)
 try simp only [zA,zB,zC,Act.put,zD,zE,zF]
 refine zt 7 (v:=?v7g1) ?y7g1 ?r7g1
 case y7g1=>(rintro w ⟨s0,s1,s2,s3,s4,s5,s6,s7,s8,s9,s10,s11⟩;go_simp;try with_reducible rfl)
 try simp only [zA,zB,zC,Act.put,zD,zE,zF]
 refine wpAnyH_ready (rs:=[8,13]) (by kernel_rfl) (by simp) ?_
 refine AllReadyH.cons (o:=_) rfl (fun K hK=>?_) (AllReadyH.cons (o:=_) rfl (fun K hK=>?_) AllReadyH.nil)
 ·skip
  rw [if_pos (by rfl)]
  go_simp
  obtain ⟨s0,s1,s2,s3,s4,s5,s6,s7,s8,s9,s10,s11⟩:=hHeld
  refine (HPT.out A4 c4 _ s11 s10 hc4).mono ?_
  rintro e8 w8 ⟨v8,rfl,⟨A5,c5,A6,c6,rfl,y1,y2,y3,y4⟩,hb8⟩
  have Y3:=zh y3
  have Y4:=zh y4
  clear y3 y4
  refine hK.out _ _ ⟨blk_below s0 hb8,keepc hb8 s1,keepc hb8 s2,keepc hb8 s3,keepc hb8 s4,keepc hb8 s5,blk_below s6 hb8,keepc hb8 s7,blk_below s8 hb8,blk_below s9 hb8,Kd.C_below s10 hb8,s11.trans (hb8.mono s11.size)⟩ (fun hHeld=>?_)
  clear hK K hb8 s0 s1 s2 s3 s4 s5 s6 s7 s8 s9 s10 s11
  try simp only [zA,zB,zC,Act.put,zD,zE,zF]
  refine zt 9 (v:=?v9g1a) ?y9g1a ?r9g1a
  case y9g1a=>(rintro w ⟨s0,s1,s2,s3,s4,s5,s6,s7,s8,s9,s10,s11⟩;go_simp;try with_reducible rfl)
  try simp only [zA,zB,zC,Act.put,zD,zE,zF]
  refine zt 10 (v:=?v10g1a) ?y10g1a ?r10g1a
  case y10g1a=>(rintro w ⟨s0,s1,s2,s3,s4,s5,s6,s7,s8,s9,s10,s11⟩;go_simp;try with_reducible rfl)
  try simp only [zA,zB,zC,Act.put,zD,zE,zF]
  refine zt 11 (v:=?v11g1a) ?y11g1a ?r11g1a
  case y11g1a=>(rintro w ⟨s0,s1,s2,s3,s4,s5,s6,s7,s8,s9,s10,s11⟩;go_simp;try with_reducible rfl)
  try simp only [zA,zB,zC,Act.put,zD,zE,zF]
  refine zt 12 (v:=?v12g1a) ?y12g1a ?r12g1a
  case y12g1a=>(rintro w ⟨s0,s1,s2,s3,s4,s5,s6,s7,s8,s9,s10,s11⟩;go_simp;try with_reducible rfl)
  try simp only [zA,zB,zC,Act.put,zD,zE,zF]
  refine wpAnyH_ready (rs:=[13]) (by kernel_rfl) (by simp) ?_
  refine AllReadyH.cons (o:=_) rfl (fun K hK=>?_) AllReadyH.nil
  rw [if_pos (by rfl)]
  obtain ⟨s0,s1,s2,s3,s4,s5,s6,s7,s8,s9,s10,s11⟩:=hHeld
  refine wp_box_row (N:=17) rfl (cs:=#[.string ⟨#[]⟩,.int .i64 0,.slice none 0 0,.slice none 0 0,.int .u64 0]) (t:=26) (by first | (go_simp;done) | (go_simp;rfl)) ?_
  intro gx hgx w12 hkx hbx
  have Kgx:=zh hkx
  have M5:=zh (show go < gx by rw [hgx];exact blk_lt s9)
  have M6:=zh (show g < gx by rw [hgx];exact blk_lt s0)
  have M7:=zh (show gu < gx by rw [hgx];exact blk_lt s6)
  have Lgx:=zh (show w.heap.size ≤ gx by rw [hgx];exact s11.size)
  have Y3:=zc Y3 hbx
  have Y4:=zc Y4 hbx
  refine hK.out _ _ ⟨blk_below s0 hbx,keepc hbx s1,keepc hbx s2,keepc hbx s3,keepc hbx s4,keepc hbx s5,blk_below s6 hbx,keepc hbx s7,blk_below s8 hbx,blk_below s9 hbx,Kd.C_below s10 hbx,s11.trans (hbx.mono s11.size)⟩ (fun hHeld=>?_)
  clear hK K hkx hbx hgx s0 s1 s2 s3 s4 s5 s6 s7 s8 s9 s10 s11
  try simp only [zA,zB,zC,Act.put,zD,zE,zF]
  refine wpAnyH_ready (rs:=[14]) (by kernel_rfl) (by simp) ?_
  refine AllReadyH.cons (o:=_) rfl (fun K hK=>?_) AllReadyH.nil
  rw [if_pos (by rfl)]
  obtain ⟨s0,s1,s2,s3,s4,s5,s6,s7,s8,s9,s10,s11⟩:=hHeld
  refine wp_store_row rfl 26 (.tmp 17) (.tmp 84) rfl gx 0 _ 26 (.agg #[.string pb.f0,.int .i64 pb.f1,.slice A5 pb.f2.length c5,.slice A6 pb.f3.length c6,.int .u64 pb.f4]) [.string pb.f0,.int .i64 pb.f1,.slice A5 pb.f2.length c5,.slice A6 pb.f3.length c6,.int .u64 pb.f4] rfl rfl Kgx.out rfl isz_bucket (by show 0 + 5 ≤ 5;decide) (by simp [Value.oneCell']) ?_
  intro w14 hk ho
  have Y3:=zh (keepE Y3.out Kgx.out (bk_like _ _ _ _ _ _ _ _ _) ho.out)
  have Y4:=zh (keepU Y4.out Kgx.out (bk_like _ _ _ _ _ _ _ _ _) ho.out)
  have C4:=zh (keepU s10 Kgx.out (bk_like _ _ _ _ _ _ _ _ _) ho.out)
  have Kgx : Hid (w14.heap[gx]? = some (.cells #[.string pb.f0,.int .i64 pb.f1,.slice A5 pb.f2.length c5,.slice A6 pb.f3.length c6,.int .u64 pb.f4] 26 (0,0))):=hk
  have HB:=zh (ho.out.below s11 s11.size Lgx.out)
  have Kg:=zh (ho.out.blk s0 (by have:=M6.out;omega))
  have Kgu:=zh (ho.out.blk s6 (by have:=M7.out;omega))
  have Kgb:=zh (ho.out.blk s8 (by have:=M2.out;have:=M5.out;omega))
  have Kgo:=zh (ho.out.blk s9 (by have:=M5.out;omega))
  refine hK.out _ _ ⟨Kg.out,zj Kg 0,zj Kg 1,zj Kg 2,zj Kg 3,zj Kg 4,Kgu.out,zj Kgu 1,Kgb.out,Kgo.out,C4.out,HB.out⟩ (fun hHeld=>?_)
  clear hK K hk ho C4 s0 s1 s2 s3 s4 s5 s6 s7 s8 s9 s10 s11
  try simp only [zA,zB,zC,Act.put,zD,zE,zF]
  refine zt 15 (v:=?v15g1a) ?y15g1a ?r15g1a
  case y15g1a=>(rintro w ⟨s0,s1,s2,s3,s4,s5,s6,s7,s8,s9,s10,s11⟩;go_simp;try with_reducible rfl)
  try simp only [zA,zB,zC,Act.put,zD,zE,zF]
  refine zt 16 (v:=?v16g1a) ?y16g1a ?r16g1a
  case y16g1a=>(rintro w ⟨s0,s1,s2,s3,s4,s5,s6,s7,s8,s9,s10,s11⟩;go_simp;try with_reducible rfl)
  try simp only [zA,zB,zC,Act.put,zD,zE,zF]
  refine wpAnyH_done (by kernel_rfl) ?_ _
  have p0:=zb Kgx.out 0 (.string pb.f0)
  have p1:=zb Kgx.out 1 (.int .i64 pb.f1)
  have p2:=zb Kgx.out 2 (.slice A5 pb.f2.length c5)
  have p3:=zb Kgx.out 3 (.slice A6 pb.f3.length c6)
  have p4:=zb Kgx.out 4 (.int .u64 pb.f4)
  clear hHeld Kg Kgu
  go_wp2_with (((with_reducible refine gate_store (t:=26) (p:=8) (v:=.tmp 91) rfl ?_);go_must (refine zs 26 (.tmp 8) (.tmp 91) go 0 26 [.string pb.f0,.int .i64 pb.f1,.slice A5 pb.f2.length c5,.slice A6 pb.f3.length c6,.int .u64 pb.f4] Kgo isz_bucket ?_;intro w15 hk ho;have Y3:=zh (keepE Y3.out Kgo.out (bk_like _ _ _ _ _ _ _ _ _) ho.out);have Y4:=zh (keepU Y4.out Kgo.out (bk_like _ _ _ _ _ _ _ _ _) ho.out);have HB:=zo ho HB Lgo;obtain ⟨z0,z1,z2,z3,z4⟩:=zz5 hk.out;clear hk ho)))
  refine bodyPost_ret (v:=.tuple #[.agg #[.string pb.f0,.int .i64 pb.f1,.slice A5 pb.f2.length c5,.slice A6 pb.f3.length c6,.int .u64 pb.f4],.int .u64 pl,.string tx,.int .i64 0]) (by simp [results,Tryz.results17,go_sem,z0,z1,z2,z3,z4]) rfl ?_
  exact ⟨_,rfl,⟨A5,c5,A6,c6,rfl,y1,y2,Y3.out,Y4.out⟩,HB.out⟩
 ·skip
  rw [if_pos (by rfl)]
  obtain ⟨s0,s1,s2,s3,s4,s5,s6,s7,s8,s9,s10,s11⟩:=hHeld
  refine wp_box_row (N:=17) rfl (cs:=#[.string ⟨#[]⟩,.int .i64 0,.slice none 0 0,.slice none 0 0,.int .u64 0]) (t:=26) (by first | (go_simp;done) | (go_simp;rfl)) ?_
  intro gx hgx w12 hkx hbx
  have Kgx:=zh hkx
  have M5:=zh (show go < gx by rw [hgx];exact blk_lt s9)
  have M6:=zh (show g < gx by rw [hgx];exact blk_lt s0)
  have M7:=zh (show gu < gx by rw [hgx];exact blk_lt s6)
  have Lgx:=zh (show w.heap.size ≤ gx by rw [hgx];exact s11.size)
  refine hK.out _ _ ⟨blk_below s0 hbx,keepc hbx s1,keepc hbx s2,keepc hbx s3,keepc hbx s4,keepc hbx s5,blk_below s6 hbx,keepc hbx s7,blk_below s8 hbx,blk_below s9 hbx,Kd.C_below s10 hbx,s11.trans (hbx.mono s11.size)⟩ (fun hHeld=>?_)
  clear hK K hkx hbx hgx s0 s1 s2 s3 s4 s5 s6 s7 s8 s9 s10 s11
  try simp only [zA,zB,zC,Act.put,zD,zE,zF]
  refine wpAnyH_ready (rs:=[8]) (by kernel_rfl) (by simp) ?_
  refine AllReadyH.cons (o:=_) rfl (fun K hK=>?_) AllReadyH.nil
  rw [if_pos (by rfl)]
  go_simp
  obtain ⟨s0,s1,s2,s3,s4,s5,s6,s7,s8,s9,s10,s11⟩:=hHeld
  refine (HPT.out A4 c4 _ s11 s10 hc4).mono ?_
  rintro e8 w8 ⟨v8,rfl,⟨A5,c5,A6,c6,rfl,y1,y2,y3,y4⟩,hb8⟩
  have Y3:=zh y3
  have Y4:=zh y4
  clear y3 y4
  have Kgx:=zk Kgx hb8
  refine hK.out _ _ ⟨blk_below s0 hb8,keepc hb8 s1,keepc hb8 s2,keepc hb8 s3,keepc hb8 s4,keepc hb8 s5,blk_below s6 hb8,keepc hb8 s7,blk_below s8 hb8,blk_below s9 hb8,Kd.C_below s10 hb8,s11.trans (hb8.mono s11.size)⟩ (fun hHeld=>?_)
  clear hK K hb8 s0 s1 s2 s3 s4 s5 s6 s7 s8 s9 s10 s11
  try simp only [zA,zB,zC,Act.put,zD,zE,zF]
  refine zt 9 (v:=?v9g1b) ?y9g1b ?r9g1b
  case y9g1b=>(rintro w ⟨s0,s1,s2,s3,s4,s5,s6,s7,s8,s9,s10,s11⟩;go_simp;try with_reducible rfl)
  try simp only [zA,zB,zC,Act.put,zD,zE,zF]
  refine zt 10 (v:=?v10g1b) ?y10g1b ?r10g1b
  case y10g1b=>(rintro w ⟨s0,s1,s2,s3,s4,s5,s6,s7,s8,s9,s10,s11⟩;go_simp;try with_reducible rfl)
  try simp only [zA,zB,zC,Act.put,zD,zE,zF]
  refine zt 11 (v:=?v11g1b) ?y11g1b ?r11g1b
  case y11g1b=>(rintro w ⟨s0,s1,s2,s3,s4,s5,s6,s7,s8,s9,s10,s11⟩;go_simp;try with_reducible rfl)
  try simp only [zA,zB,zC,Act.put,zD,zE,zF]
  refine zt 12 (v:=?v12g1b) ?y12g1b ?r12g1b
  case y12g1b=>(rintro w ⟨s0,s1,s2,s3,s4,s5,s6,s7,s8,s9,s10,s11⟩;go_simp;try with_reducible rfl)
  try simp only [zA,zB,zC,Act.put,zD,zE,zF]
  refine wpAnyH_ready (rs:=[14]) (by kernel_rfl) (by simp) ?_
  refine AllReadyH.cons (o:=_) rfl (fun K hK=>?_) AllReadyH.nil
  rw [if_pos (by rfl)]
  obtain ⟨s0,s1,s2,s3,s4,s5,s6,s7,s8,s9,s10,s11⟩:=hHeld
  refine wp_store_row rfl 26 (.tmp 17) (.tmp 84) rfl gx 0 _ 26 (.agg #[.string pb.f0,.int .i64 pb.f1,.slice A5 pb.f2.length c5,.slice A6 pb.f3.length c6,.int .u64 pb.f4]) [.string pb.f0,.int .i64 pb.f1,.slice A5 pb.f2.length c5,.slice A6 pb.f3.length c6,.int .u64 pb.f4] rfl rfl Kgx.out rfl isz_bucket (by show 0 + 5 ≤ 5;decide) (by simp [Value.oneCell']) ?_
  intro w14 hk ho
  have Y3:=zh (keepE Y3.out Kgx.out (bk_like _ _ _ _ _ _ _ _ _) ho.out)
  have Y4:=zh (keepU Y4.out Kgx.out (bk_like _ _ _ _ _ _ _ _ _) ho.out)
  have C4:=zh (keepU s10 Kgx.out (bk_like _ _ _ _ _ _ _ _ _) ho.out)
  have Kgx : Hid (w14.heap[gx]? = some (.cells #[.string pb.f0,.int .i64 pb.f1,.slice A5 pb.f2.length c5,.slice A6 pb.f3.length c6,.int .u64 pb.f4] 26 (0,0))):=hk
  have HB:=zh (ho.out.below s11 s11.size Lgx.out)
  have Kg:=zh (ho.out.blk s0 (by have:=M6.out;omega))
  have Kgu:=zh (ho.out.blk s6 (by have:=M7.out;omega))
  have Kgb:=zh (ho.out.blk s8 (by have:=M2.out;have:=M5.out;omega))
  have Kgo:=zh (ho.out.blk s9 (by have:=M5.out;omega))
  refine hK.out _ _ ⟨Kg.out,zj Kg 0,zj Kg 1,zj Kg 2,zj Kg 3,zj Kg 4,Kgu.out,zj Kgu 1,Kgb.out,Kgo.out,C4.out,HB.out⟩ (fun hHeld=>?_)
  clear hK K hk ho C4 s0 s1 s2 s3 s4 s5 s6 s7 s8 s9 s10 s11
  try simp only [zA,zB,zC,Act.put,zD,zE,zF]
  refine zt 15 (v:=?v15g1b) ?y15g1b ?r15g1b
  case y15g1b=>(rintro w ⟨s0,s1,s2,s3,s4,s5,s6,s7,s8,s9,s10,s11⟩;go_simp;try with_reducible rfl)
  try simp only [zA,zB,zC,Act.put,zD,zE,zF]
  refine zt 16 (v:=?v16g1b) ?y16g1b ?r16g1b
  case y16g1b=>(rintro w ⟨s0,s1,s2,s3,s4,s5,s6,s7,s8,s9,s10,s11⟩;go_simp;try with_reducible rfl)
  try simp only [zA,zB,zC,Act.put,zD,zE,zF]
  refine wpAnyH_done (by kernel_rfl) ?_ _
  have p0:=zb Kgx.out 0 (.string pb.f0)
  have p1:=zb Kgx.out 1 (.int .i64 pb.f1)
  have p2:=zb Kgx.out 2 (.slice A5 pb.f2.length c5)
  have p3:=zb Kgx.out 3 (.slice A6 pb.f3.length c6)
  have p4:=zb Kgx.out 4 (.int .u64 pb.f4)
  clear hHeld Kg Kgu
  go_wp2_with (((with_reducible refine gate_store (t:=26) (p:=8) (v:=.tmp 91) rfl ?_);go_must (refine zs 26 (.tmp 8) (.tmp 91) go 0 26 [.string pb.f0,.int .i64 pb.f1,.slice A5 pb.f2.length c5,.slice A6 pb.f3.length c6,.int .u64 pb.f4] Kgo isz_bucket ?_;intro w15 hk ho;have Y3:=zh (keepE Y3.out Kgo.out (bk_like _ _ _ _ _ _ _ _ _) ho.out);have Y4:=zh (keepU Y4.out Kgo.out (bk_like _ _ _ _ _ _ _ _ _) ho.out);have HB:=zo ho HB Lgo;obtain ⟨z0,z1,z2,z3,z4⟩:=zz5 hk.out;clear hk ho)))
  refine bodyPost_ret (v:=.tuple #[.agg #[.string pb.f0,.int .i64 pb.f1,.slice A5 pb.f2.length c5,.slice A6 pb.f3.length c6,.int .u64 pb.f4],.int .u64 pl,.string tx,.int .i64 0]) (by simp [results,Tryz.results17,go_sem,z0,z1,z2,z3,z4]) rfl ?_
  exact ⟨_,rfl,⟨A5,c5,A6,c6,rfl,y1,y2,Y3.out,Y4.out⟩,HB.out⟩
theorem whole_gn (b : S26) (A2 A3 : Option Addr) (c2 c3 : Nat) (id : Int) (ps : List S43) (A : Option Addr) (c : Nat) (q : Int) (w : World) (h2 : Kd.C k56 w A2 b.f2.length b.f2) (g2 : b.f2.length ≤ c2) (h3 : Kd.C k101 w A3 b.f3.length b.f3) (g3 : b.f3.length ≤ c3) (hl : ps.length < 100) (h4 : Kd.C k43 w A ps.length ps) (he0 : openR b anyK = 0) (u : S101) (hf : findR b.f3 id = (u,0)) (data tx : ByteArray) (hw : wholeR u ps = (data,tx,0)) (r3 : List S101) (hr : abortR b.f3 id = (r3,0)) (pb : S26) (pl : Int) (pe : Int) (hz : pe ≠ 0) (hp : laidR (⟨b.f0,b.f1,b.f2,r3,b.f4⟩ : S26) u.f1 (fun l id=>putV l b.f1 ⟨id,data,false,q⟩) = (pb,pl,pe)) :
  Calls Tryz.prog 17 #[.agg #[.string b.f0,.int .i64 b.f1,.slice A2 b.f2.length c2,.slice A3 b.f3.length c3,.int .u64 b.f4],.int .u64 id,.slice A ps.length c,.int .i64 q] w (BkPost b [.int .u64 0,.string ⟨#[]⟩,.int .i64 pe] w):=by
 have H2:=zh (fun (W : World) (h : Below w.heap.size w W)=>Kd.C_below h2 h)
 have H3:=zh (fun (W : World) (h : Below w.heap.size w W)=>Kd.C_below h3 h)
 have HOP:=zh (fun (W : World) (h : Below w.heap.size w W)=>open.walk b A2 A3 c2 c3 anyK W (Kd.C_below h2 h) g2 (Kd.C_below h3 h) g3)
 rw [he0] at HOP
 have HFD:=zh (fun (W : World) (h : Below w.heap.size w W)=>find.walk A3 c3 b.f3 id W (Kd.C_below h3 h) g3)
 unfold FindPost at HFD
 rw [hf] at HFD
 dsimp only at HFD
 have HWH:=zh (fun (A7 : Option Addr) (c7 : Nat) (W : World) (hW : Below w.heap.size w W) (hC : Kd.C k40 W A7 u.f2.length u.f2) (hc : u.f2.length ≤ c7)=>whole.walk u A7 c7 A c ps W hl hC hc (Kd.C_below h4 hW))
 rw [hw] at HWH
 unfold wholeV at HWH
 dsimp only at HWH
 have n00 : noR false 0 0 = 0:=by unfold noR;rw [if_neg (by decide)]
 have n01 : noR (!((0 : Int) == 0)) 0 0 = 0:=n00
 have HN1:=zh (fun (g : Nat) (W : World) hW=>no.walk g (.string b.f0) (.int .i64 b.f1) (.slice A2 b.f2.length c2) (.slice A3 b.f3.length c3) (.int .u64 b.f4) 0 0 false W hW)
 rw [n00] at HN1
 have HN2:=HN1
 have HAB:=zh (fun (W : World) (h : Below w.heap.size w W)=>abort.walk A3 c3 b.f3 id W (Kd.C_below h3 h) g3)
 rw [hr] at HAB
 have HUP:=zh (fun (g : Nat) (A4 : Option Addr) (c4 : Nat) (W : World) hW=>uploadsW.walk g (.string b.f0) (.int .i64 b.f1) (.slice A2 b.f2.length c2) (.slice A3 b.f3.length c3) (.int .u64 b.f4) A4 r3.length c4 0 0 W hW)
 rw [n01] at HUP
 have HPT:=zh (fun (A4 : Option Addr) (c4 : Nat) (W : World) (hW : Below w.heap.size w W) (hC : Kd.C k101 W A4 r3.length r3) (hc : r3.length ≤ c4)=>putB.walk (⟨b.f0,b.f1,b.f2,r3,b.f4⟩ : S26) A2 A4 c2 c4 u.f1 data q W (Kd.C_below h2 hW) g2 hC hc)
 dsimp only at HPT
 rw [hp] at HPT
 have q2 : (pe == 0) = false:=beq_eq_false_iff_ne.2 hz
 have r2 : (pe != 0) = true:=by rw [bne,q2];rfl
 have G2:=zh g2
 have G3:=zh g3
 have HB:=zh (Below.refl w.heap.size w)
 clear h2 h3 g2 g3 h4 hl he0 hf hw hr hp n00 n01 hz
 go_enter Tryz.func17,Tryz.ntmps17
 go_wp2_with (first
  | ((with_reducible refine gate_dst (N:=4) rfl ?_);go_must (refine zx HB (N:=4) (cs:=#[.string b.f0,.int .i64 b.f1,.slice A2 b.f2.length c2,.slice A3 b.f3.length c3,.int .u64 b.f4]) (t:=26) ?hr ?_;(case hr=>first | (go_simp;done) | (go_simp;rfl));intro gb w1 Kgb Lgb HB hbelgb hqgb;clear hbelgb hqgb))
  | ((with_reducible refine gate_dst (N:=8) rfl ?_);go_must (refine zx HB (N:=8) (cs:=#[.string ⟨#[]⟩,.int .i64 0,.slice none 0 0,.slice none 0 0,.int .u64 0]) (t:=26) ?hr ?_;(case hr=>first | (go_simp;done) | (go_simp;rfl));intro go w3 Kgo Lgo HB hbelgo hqgo;have M2:=zh (show gb < go by rw [hqgo];exact blk_lt Kgb.out);have Kgb:=zk Kgb hbelgo;obtain ⟨a0,a1,a2,a3,a4⟩:=zz5 Kgb.out;clear hbelgo hqgo))
  | (go_at_call 32;go_must (refine (HOP.out _ HB.out).mono ?_;rintro e w4 ⟨g,rfl,hgl,hk,hb⟩;have Kg:=hk;have M3:=zh (show go < g from Nat.lt_of_lt_of_le (blk_lt Kgo.out) hgl);have HB:=keepB HB hb.out;have Kgb:=zk Kgb hb.out;have Kgo:=zk Kgo hb.out;have k3:=zb Kg.out 3 (.slice A3 b.f3.length c3);clear hk hb hgl a0 a1 a2 a3 a4))
  | (go_at_call 44;go_must (refine (HFD.out _ HB.out).mono ?_;rintro e w5 ⟨A7,c7,rfl,hc7,hC5,hb⟩;have HC5:=zh hC5;have HG5:=zh hc7;have HB:=keepB HB hb;have Kgb:=zk Kgb hb;have Kgo:=zk Kgo hb;have Kg:=zk Kg hb;clear hb hC5 hc7 k3))
  | ((with_reducible refine gate_dst (N:=13) rfl ?_);go_must (refine zx HB (N:=13) (cs:=#[.int .u64 0,.string ⟨#[]⟩,.slice none 0 0]) (t:=101) ?hr ?_;(case hr=>first | (go_simp;done) | (go_simp;rfl));intro gu w6 Kgu Lgu HB hbelgu hqgu;have M4:=zh (show g < gu by rw [hqgu];exact blk_lt Kg.out);have HD:=zh hbelgu;have LD5:=zh (show w5.heap.size ≤ gu by rw [hqgu];exact Nat.le_refl _);have Kgb:=zk Kgb hbelgu;have Kgo:=zk Kgo hbelgu;have Kg:=zk Kg hbelgu;clear hbelgu hqgu))
  | ((with_reducible refine gate_store (t:=101) (p:=13) (v:=.tmp 29) rfl ?_);go_must (refine zs 101 (.tmp 13) (.tmp 29) gu 0 101 [.int .u64 u.f0,.string u.f1,.slice A7 u.f2.length c7] Kgu (by kernel_rfl) ?_;intro w7 hk ho;have HC5:=zc HC5 (ho.out.below HD.out HD.out.size LD5.out);have Kgu : Hid (w7.heap[gu]? = some (.cells #[.int .u64 u.f0,.string u.f1,.slice A7 u.f2.length c7] 101 (0,0))):=hk;have HB:=zo ho HB Lgu;have Kgb:=zl ho Kgb (by have:=M2.out;have:=M3.out;have:=M4.out;omega);have Kgo:=zl ho Kgo (by have:=M2.out;have:=M3.out;have:=M4.out;omega);have Kg:=zl ho Kg (by have:=M2.out;have:=M3.out;have:=M4.out;omega);have MK1:=zh True.intro;clear HD LD5;clear hk ho))
  | (go_at_call 45;go_must (first
   | (clear MK1;refine (HN1.out g _ Kg.out).mono ?_;rintro e w8 ⟨rfl,hk,ho⟩;have HC5:=zh (keepPt HC5.out Kg.out (work_like b.f0 b.f1 A2 b.f2.length c2 A3 b.f3.length c3 b.f4 0) ho.out);have Kg:=hk;have HB:=zh (ho.out.below HB.out HB.out.size (by have:=Lgo.out;have:=M3.out;omega));have Kgb:=zl ho Kgb (by have:=M2.out;have:=M3.out;have:=M4.out;omega);have Kgo:=zl ho Kgo (by have:=M2.out;have:=M3.out;have:=M4.out;omega);have Kgu:=zl ho Kgu (by have:=M2.out;have:=M3.out;have:=M4.out;omega);obtain ⟨u0,u1,u2⟩:=zz3 Kgu.out;have MK2:=zh True.intro;clear hk ho)
   | (clear MK2;refine (HN2.out g _ Kg.out).mono ?_;rintro e w8 ⟨rfl,hk,ho⟩;have HC5:=zh (keepPt HC5.out Kg.out (work_like b.f0 b.f1 A2 b.f2.length c2 A3 b.f3.length c3 b.f4 0) ho.out);have Kg:=hk;have HB:=zh (ho.out.below HB.out HB.out.size (by have:=Lgo.out;have:=M3.out;omega));have Kgb:=zl ho Kgb (by have:=M2.out;have:=M3.out;have:=M4.out;omega);have Kgo:=zl ho Kgo (by have:=M2.out;have:=M3.out;have:=M4.out;omega);have Kgu:=zl ho Kgu (by have:=M2.out;have:=M3.out;have:=M4.out;omega);have k3:=zb Kg.out 3 (.slice A3 b.f3.length c3);have k5:=zb Kg.out 5 (.int .i64 0);clear hk ho)))
  | (go_at_call 46;go_must (refine (HWH.out A7 c7 _ HB.out HC5.out HG5.out).mono ?_;rintro e w9 ⟨rfl,hb⟩;have HC5:=zc HC5 hb;have HB:=keepB HB hb;have Kgb:=zk Kgb hb;have Kgo:=zk Kgo hb;have Kg:=zk Kg hb;have Kgu:=zk Kgu hb;clear hb u0 u1 u2))
  | (go_at_call 47;go_must (refine (HAB.out _ HB.out).mono ?_;rintro e w10 ⟨A4,c4,rfl,hc4,hC4,hb⟩;have HC4:=zh hC4;have HB:=keepB HB hb;have Kgb:=zk Kgb hb;have Kgo:=zk Kgo hb;have Kg:=zk Kg hb;have Kgu:=zk Kgu hb;clear hb hC4 k3 k5))
  | (go_at_call 34;go_must (refine (HUP.out g A4 c4 _ Kg.out).mono ?_;rintro e w11 ⟨rfl,hk,ho⟩;have HC4:=zh (keepU HC4.out Kg.out (work_like b.f0 b.f1 A2 b.f2.length c2 A3 b.f3.length c3 b.f4 0) ho.out);have Kg:=hk;have HB:=zh (ho.out.below HB.out HB.out.size (by have:=Lgo.out;have:=M3.out;omega));have Kgb:=zl ho Kgb (by have:=M2.out;have:=M3.out;have:=M4.out;omega);have Kgo:=zl ho Kgo (by have:=M2.out;have:=M3.out;have:=M4.out;omega);have Kgu:=zl ho Kgu (by have:=M2.out;have:=M3.out;have:=M4.out;omega);have k5:=zb Kg.out 5 (.int .i64 0);clear hk ho)))
 refine wp_region_held_drew (S:=fun W=>W.heap[g]? = some (.cells #[.string b.f0,.int .i64 b.f1,.slice A2 b.f2.length c2,.slice A4 r3.length c4,.int .u64 b.f4,.int .i64 0] 87 (0,0)) ∧ W.cell? ⟨g,0,none⟩ = some (.string b.f0) ∧ W.cell? ⟨g,1,none⟩ = some (.int .i64 b.f1) ∧ W.cell? ⟨g,2,none⟩ = some (.slice A2 b.f2.length c2) ∧ W.cell? ⟨g,3,none⟩ = some (.slice A4 r3.length c4) ∧ W.cell? ⟨g,4,none⟩ = some (.int .u64 b.f4) ∧ W.heap[gu]? = some (.cells #[.int .u64 u.f0,.string u.f1,.slice A7 u.f2.length c7] 101 (0,0)) ∧ W.cell? ⟨gu,1,none⟩ = some (.string u.f1) ∧ W.heap[gb]? = some (.cells #[.string b.f0,.int .i64 b.f1,.slice A2 b.f2.length c2,.slice A3 b.f3.length c3,.int .u64 b.f4] 26 (0,0)) ∧ W.heap[go]? = some (.cells #[.string ⟨#[]⟩,.int .i64 0,.slice none 0 0,.slice none 0 0,.int .u64 0] 26 (0,0)) ∧ Kd.C k101 W A4 r3.length r3 ∧ Below w.heap.size w W) (by kernel_rfl) ?_ (fun hHeld=>?_)
 ·exact ⟨blk_drew Kg.out,(blk_cell (blk_drew Kg.out) 0).trans rfl,(blk_cell (blk_drew Kg.out) 1).trans rfl,(blk_cell (blk_drew Kg.out) 2).trans rfl,(blk_cell (blk_drew Kg.out) 3).trans rfl,(blk_cell (blk_drew Kg.out) 4).trans rfl,blk_drew Kgu.out,(blk_cell (blk_drew Kgu.out) 1).trans rfl,blk_drew Kgb.out,blk_drew Kgo.out,Kd.C_below HC4.out (below_drew (Below.refl _ _)),HB.out.drew⟩
 clear Kg Kgo Kgb Kgu HB k5 HC4 HC5
 refine zt 0 (v:=?v0g2) ?y0g2 ?r0g2
 case y0g2=>(rintro w ⟨s0,s1,s2,s3,s4,s5,s6,s7,s8,s9,s10,s11⟩;go_simp;try with_reducible rfl)
 try simp only [zA,zB,zC,Act.put,zD,zE,zF]
 refine zt 1 (v:=?v1g2) ?y1g2 ?r1g2
 case y1g2=>(rintro w ⟨s0,s1,s2,s3,s4,s5,s6,s7,s8,s9,s10,s11⟩;go_simp;try with_reducible rfl)
 try simp only [zA,zB,zC,Act.put,zD,zE,zF]
 refine zt 2 (v:=?v2g2) ?y2g2 ?r2g2
 case y2g2=>(rintro w ⟨s0,s1,s2,s3,s4,s5,s6,s7,s8,s9,s10,s11⟩;go_simp;try with_reducible rfl)
 try simp only [zA,zB,zC,Act.put,zD,zE,zF]
 refine zt 3 (v:=?v3g2) ?y3g2 ?r3g2
 case y3g2=>(rintro w ⟨s0,s1,s2,s3,s4,s5,s6,s7,s8,s9,s10,s11⟩;go_simp;try with_reducible rfl)
 try simp only [zA,zB,zC,Act.put,zD,zE,zF]
 refine zt 4 (v:=?v4g2) ?y4g2 ?r4g2
 case y4g2=>(rintro w ⟨s0,s1,s2,s3,s4,s5,s6,s7,s8,s9,s10,s11⟩;go_simp;try with_reducible rfl)
 try simp only [zA,zB,zC,Act.put,zD,zE,zF]
 refine zt 5 (v:=?v5g2) ?y5g2 ?r5g2
 case y5g2=>(rintro w ⟨s0,s1,s2,s3,s4,s5,s6,s7,s8,s9,s10,s11⟩;go_simp;try with_reducible rfl)
 try simp only [zA,zB,zC,Act.put,zD,zE,zF]
 refine zt 6 (v:=?v6g2) ?y6g2 ?r6g2
 case y6g2=>(rintro w ⟨s0,s1,s2,s3,s4,s5,s6,s7,s8,s9,s10,s11⟩;go_simp;try with_reducible rfl)
 try simp only [zA,zB,zC,Act.put,zD,zE,zF]
 refine zt 7 (v:=?v7g2) ?y7g2 ?r7g2
 case y7g2=>(rintro w ⟨s0,s1,s2,s3,s4,s5,s6,s7,s8,s9,s10,s11⟩;go_simp;try with_reducible rfl)
 try simp only [zA,zB,zC,Act.put,zD,zE,zF]
 refine wpAnyH_ready (rs:=[8,13]) (by kernel_rfl) (by simp) ?_
 refine AllReadyH.cons (o:=_) rfl (fun K hK=>?_) (AllReadyH.cons (o:=_) rfl (fun K hK=>?_) AllReadyH.nil)
 ·skip
  rw [if_pos (by rfl)]
  go_simp
  obtain ⟨s0,s1,s2,s3,s4,s5,s6,s7,s8,s9,s10,s11⟩:=hHeld
  refine (HPT.out A4 c4 _ s11 s10 hc4).mono ?_
  rintro e8 w8 ⟨v8,rfl,⟨A5,c5,A6,c6,rfl,y1,y2,y3,y4⟩,hb8⟩
  have Y3:=zh y3
  have Y4:=zh y4
  clear y3 y4
  refine hK.out _ _ ⟨blk_below s0 hb8,keepc hb8 s1,keepc hb8 s2,keepc hb8 s3,keepc hb8 s4,keepc hb8 s5,blk_below s6 hb8,keepc hb8 s7,blk_below s8 hb8,blk_below s9 hb8,Kd.C_below s10 hb8,s11.trans (hb8.mono s11.size)⟩ (fun hHeld=>?_)
  clear hK K hb8 s0 s1 s2 s3 s4 s5 s6 s7 s8 s9 s10 s11
  try simp only [zA,zB,zC,Act.put,zD,zE,zF]
  refine zt 9 (v:=?v9g2a) ?y9g2a ?r9g2a
  case y9g2a=>(rintro w ⟨s0,s1,s2,s3,s4,s5,s6,s7,s8,s9,s10,s11⟩;go_simp;try with_reducible rfl)
  try simp only [zA,zB,zC,Act.put,zD,zE,zF]
  refine zt 10 (v:=?v10g2a) ?y10g2a ?r10g2a
  case y10g2a=>(rintro w ⟨s0,s1,s2,s3,s4,s5,s6,s7,s8,s9,s10,s11⟩;go_simp;try with_reducible rfl)
  try simp only [zA,zB,zC,Act.put,zD,zE,zF]
  refine zt 11 (v:=?v11g2a) ?y11g2a ?r11g2a
  case y11g2a=>(rintro w ⟨s0,s1,s2,s3,s4,s5,s6,s7,s8,s9,s10,s11⟩;go_simp;try with_reducible rfl)
  try simp only [zA,zB,zC,Act.put,zD,zE,zF]
  refine zt 12 (v:=?v12g2a) ?y12g2a ?r12g2a
  case y12g2a=>(rintro w ⟨s0,s1,s2,s3,s4,s5,s6,s7,s8,s9,s10,s11⟩;go_simp;try with_reducible rfl)
  try simp only [zA,zB,zC,Act.put,zD,zE,zF]
  refine wpAnyH_ready (rs:=[13]) (by kernel_rfl) (by simp) ?_
  refine AllReadyH.cons (o:=_) rfl (fun K hK=>?_) AllReadyH.nil
  rw [if_pos (by rfl)]
  obtain ⟨s0,s1,s2,s3,s4,s5,s6,s7,s8,s9,s10,s11⟩:=hHeld
  refine wp_box_row (N:=17) rfl (cs:=#[.string ⟨#[]⟩,.int .i64 0,.slice none 0 0,.slice none 0 0,.int .u64 0]) (t:=26) (by first | (go_simp;done) | (go_simp;rfl)) ?_
  intro gx hgx w12 hkx hbx
  have Kgx:=zh hkx
  have M5:=zh (show go < gx by rw [hgx];exact blk_lt s9)
  have M6:=zh (show g < gx by rw [hgx];exact blk_lt s0)
  have M7:=zh (show gu < gx by rw [hgx];exact blk_lt s6)
  have Lgx:=zh (show w.heap.size ≤ gx by rw [hgx];exact s11.size)
  have Y3:=zc Y3 hbx
  have Y4:=zc Y4 hbx
  refine hK.out _ _ ⟨blk_below s0 hbx,keepc hbx s1,keepc hbx s2,keepc hbx s3,keepc hbx s4,keepc hbx s5,blk_below s6 hbx,keepc hbx s7,blk_below s8 hbx,blk_below s9 hbx,Kd.C_below s10 hbx,s11.trans (hbx.mono s11.size)⟩ (fun hHeld=>?_)
  clear hK K hkx hbx hgx s0 s1 s2 s3 s4 s5 s6 s7 s8 s9 s10 s11
  try simp only [zA,zB,zC,Act.put,zD,zE,zF]
  refine wpAnyH_ready (rs:=[14]) (by kernel_rfl) (by simp) ?_
  refine AllReadyH.cons (o:=_) rfl (fun K hK=>?_) AllReadyH.nil
  rw [if_pos (by rfl)]
  obtain ⟨s0,s1,s2,s3,s4,s5,s6,s7,s8,s9,s10,s11⟩:=hHeld
  refine wp_store_row rfl 26 (.tmp 17) (.tmp 84) rfl gx 0 _ 26 (.agg #[.string pb.f0,.int .i64 pb.f1,.slice A5 pb.f2.length c5,.slice A6 pb.f3.length c6,.int .u64 pb.f4]) [.string pb.f0,.int .i64 pb.f1,.slice A5 pb.f2.length c5,.slice A6 pb.f3.length c6,.int .u64 pb.f4] rfl rfl Kgx.out rfl isz_bucket (by show 0 + 5 ≤ 5;decide) (by simp [Value.oneCell']) ?_
  intro w14 hk ho
  have Y3:=zh (keepE Y3.out Kgx.out (bk_like _ _ _ _ _ _ _ _ _) ho.out)
  have Y4:=zh (keepU Y4.out Kgx.out (bk_like _ _ _ _ _ _ _ _ _) ho.out)
  have C4:=zh (keepU s10 Kgx.out (bk_like _ _ _ _ _ _ _ _ _) ho.out)
  have Kgx : Hid (w14.heap[gx]? = some (.cells #[.string pb.f0,.int .i64 pb.f1,.slice A5 pb.f2.length c5,.slice A6 pb.f3.length c6,.int .u64 pb.f4] 26 (0,0))):=hk
  have HB:=zh (ho.out.below s11 s11.size Lgx.out)
  have Kg:=zh (ho.out.blk s0 (by have:=M6.out;omega))
  have Kgu:=zh (ho.out.blk s6 (by have:=M7.out;omega))
  have Kgb:=zh (ho.out.blk s8 (by have:=M2.out;have:=M5.out;omega))
  have Kgo:=zh (ho.out.blk s9 (by have:=M5.out;omega))
  refine hK.out _ _ ⟨Kg.out,zj Kg 0,zj Kg 1,zj Kg 2,zj Kg 3,zj Kg 4,Kgu.out,zj Kgu 1,Kgb.out,Kgo.out,C4.out,HB.out⟩ (fun hHeld=>?_)
  clear hK K hk ho C4 s0 s1 s2 s3 s4 s5 s6 s7 s8 s9 s10 s11
  try simp only [zA,zB,zC,Act.put,zD,zE,zF]
  refine zt 15 (v:=?v15g2a) ?y15g2a ?r15g2a
  case y15g2a=>(rintro w ⟨s0,s1,s2,s3,s4,s5,s6,s7,s8,s9,s10,s11⟩;go_simp;try with_reducible rfl)
  try simp only [zA,zB,zC,Act.put,zD,zE,zF]
  refine zt 16 (v:=?v16g2a) ?y16g2a ?r16g2a
  case y16g2a=>(rintro w ⟨s0,s1,s2,s3,s4,s5,s6,s7,s8,s9,s10,s11⟩;go_simp;try with_reducible rfl)
  try simp only [zA,zB,zC,Act.put,zD,zE,zF]
  refine wpAnyH_done (by kernel_rfl) ?_ _
  have p0:=zb Kgb.out 0 (.string b.f0)
  have p1:=zb Kgb.out 1 (.int .i64 b.f1)
  have p2:=zb Kgb.out 2 (.slice A2 b.f2.length c2)
  have p3:=zb Kgb.out 3 (.slice A3 b.f3.length c3)
  have p4:=zb Kgb.out 4 (.int .u64 b.f4)
  clear hHeld Kg Kgu
  go_wp2_with (((with_reducible refine gate_store (t:=26) (p:=8) (v:=.tmp 89) rfl ?_);go_must (refine zs 26 (.tmp 8) (.tmp 89) go 0 26 [.string b.f0,.int .i64 b.f1,.slice A2 b.f2.length c2,.slice A3 b.f3.length c3,.int .u64 b.f4] Kgo isz_bucket ?_;intro w15 hk ho;have HB:=zo ho HB Lgo;obtain ⟨z0,z1,z2,z3,z4⟩:=zz5 hk.out;clear hk ho)))
  refine bodyPost_ret (v:=.tuple #[.agg #[.string b.f0,.int .i64 b.f1,.slice A2 b.f2.length c2,.slice A3 b.f3.length c3,.int .u64 b.f4],.int .u64 0,.string ⟨#[]⟩,.int .i64 pe]) (by simp [results,Tryz.results17,go_sem,z0,z1,z2,z3,z4]) rfl ?_
  exact ⟨_,rfl,⟨A2,c2,A3,c3,rfl,G2.out,G3.out,H2.out _ HB.out,H3.out _ HB.out⟩,HB.out⟩
 ·skip
  rw [if_pos (by rfl)]
  obtain ⟨s0,s1,s2,s3,s4,s5,s6,s7,s8,s9,s10,s11⟩:=hHeld
  refine wp_box_row (N:=17) rfl (cs:=#[.string ⟨#[]⟩,.int .i64 0,.slice none 0 0,.slice none 0 0,.int .u64 0]) (t:=26) (by first | (go_simp;done) | (go_simp;rfl)) ?_
  intro gx hgx w12 hkx hbx
  have Kgx:=zh hkx
  have M5:=zh (show go < gx by rw [hgx];exact blk_lt s9)
  have M6:=zh (show g < gx by rw [hgx];exact blk_lt s0)
  have M7:=zh (show gu < gx by rw [hgx];exact blk_lt s6)
  have Lgx:=zh (show w.heap.size ≤ gx by rw [hgx];exact s11.size)
  refine hK.out _ _ ⟨blk_below s0 hbx,keepc hbx s1,keepc hbx s2,keepc hbx s3,keepc hbx s4,keepc hbx s5,blk_below s6 hbx,keepc hbx s7,blk_below s8 hbx,blk_below s9 hbx,Kd.C_below s10 hbx,s11.trans (hbx.mono s11.size)⟩ (fun hHeld=>?_)
  clear hK K hkx hbx hgx s0 s1 s2 s3 s4 s5 s6 s7 s8 s9 s10 s11
  try simp only [zA,zB,zC,Act.put,zD,zE,zF]
  refine wpAnyH_ready (rs:=[8]) (by kernel_rfl) (by simp) ?_
  refine AllReadyH.cons (o:=_) rfl (fun K hK=>?_) AllReadyH.nil
  rw [if_pos (by rfl)]
  go_simp
  obtain ⟨s0,s1,s2,s3,s4,s5,s6,s7,s8,s9,s10,s11⟩:=hHeld
  refine (HPT.out A4 c4 _ s11 s10 hc4).mono ?_
  rintro e8 w8 ⟨v8,rfl,⟨A5,c5,A6,c6,rfl,y1,y2,y3,y4⟩,hb8⟩
  have Y3:=zh y3
  have Y4:=zh y4
  clear y3 y4
  have Kgx:=zk Kgx hb8
  refine hK.out _ _ ⟨blk_below s0 hb8,keepc hb8 s1,keepc hb8 s2,keepc hb8 s3,keepc hb8 s4,keepc hb8 s5,blk_below s6 hb8,keepc hb8 s7,blk_below s8 hb8,blk_below s9 hb8,Kd.C_below s10 hb8,s11.trans (hb8.mono s11.size)⟩ (fun hHeld=>?_)
  clear hK K hb8 s0 s1 s2 s3 s4 s5 s6 s7 s8 s9 s10 s11
  try simp only [zA,zB,zC,Act.put,zD,zE,zF]
  refine zt 9 (v:=?v9g2b) ?y9g2b ?r9g2b
  case y9g2b=>(rintro w ⟨s0,s1,s2,s3,s4,s5,s6,s7,s8,s9,s10,s11⟩;go_simp;try with_reducible rfl)
  try simp only [zA,zB,zC,Act.put,zD,zE,zF]
  refine zt 10 (v:=?v10g2b) ?y10g2b ?r10g2b
  case y10g2b=>(rintro w ⟨s0,s1,s2,s3,s4,s5,s6,s7,s8,s9,s10,s11⟩;go_simp;try with_reducible rfl)
  try simp only [zA,zB,zC,Act.put,zD,zE,zF]
  refine zt 11 (v:=?v11g2b) ?y11g2b ?r11g2b
  case y11g2b=>(rintro w ⟨s0,s1,s2,s3,s4,s5,s6,s7,s8,s9,s10,s11⟩;go_simp;try with_reducible rfl)
  try simp only [zA,zB,zC,Act.put,zD,zE,zF]
  refine zt 12 (v:=?v12g2b) ?y12g2b ?r12g2b
  case y12g2b=>(rintro w ⟨s0,s1,s2,s3,s4,s5,s6,s7,s8,s9,s10,s11⟩;go_simp;try with_reducible rfl)
  try simp only [zA,zB,zC,Act.put,zD,zE,zF]
  refine wpAnyH_ready (rs:=[14]) (by kernel_rfl) (by simp) ?_
  refine AllReadyH.cons (o:=_) rfl (fun K hK=>?_) AllReadyH.nil
  rw [if_pos (by rfl)]
  obtain ⟨s0,s1,s2,s3,s4,s5,s6,s7,s8,s9,s10,s11⟩:=hHeld
  refine wp_store_row rfl 26 (.tmp 17) (.tmp 84) rfl gx 0 _ 26 (.agg #[.string pb.f0,.int .i64 pb.f1,.slice A5 pb.f2.length c5,.slice A6 pb.f3.length c6,.int .u64 pb.f4]) [.string pb.f0,.int .i64 pb.f1,.slice A5 pb.f2.length c5,.slice A6 pb.f3.length c6,.int .u64 pb.f4] rfl rfl Kgx.out rfl isz_bucket (by show 0 + 5 ≤ 5;decide) (by simp [Value.oneCell']) ?_
  intro w14 hk ho
  have Y3:=zh (keepE Y3.out Kgx.out (bk_like _ _ _ _ _ _ _ _ _) ho.out)
  have Y4:=zh (keepU Y4.out Kgx.out (bk_like _ _ _ _ _ _ _ _ _) ho.out)
  have C4:=zh (keepU s10 Kgx.out (bk_like _ _ _ _ _ _ _ _ _) ho.out)
  have Kgx : Hid (w14.heap[gx]? = some (.cells #[.string pb.f0,.int .i64 pb.f1,.slice A5 pb.f2.length c5,.slice A6 pb.f3.length c6,.int .u64 pb.f4] 26 (0,0))):=hk
  have HB:=zh (ho.out.below s11 s11.size Lgx.out)
  have Kg:=zh (ho.out.blk s0 (by have:=M6.out;omega))
  have Kgu:=zh (ho.out.blk s6 (by have:=M7.out;omega))
  have Kgb:=zh (ho.out.blk s8 (by have:=M2.out;have:=M5.out;omega))
  have Kgo:=zh (ho.out.blk s9 (by have:=M5.out;omega))
  refine hK.out _ _ ⟨Kg.out,zj Kg 0,zj Kg 1,zj Kg 2,zj Kg 3,zj Kg 4,Kgu.out,zj Kgu 1,Kgb.out,Kgo.out,C4.out,HB.out⟩ (fun hHeld=>?_)
  clear hK K hk ho C4 s0 s1 s2 s3 s4 s5 s6 s7 s8 s9 s10 s11
  try simp only [zA,zB,zC,Act.put,zD,zE,zF]
  refine zt 15 (v:=?v15g2b) ?y15g2b ?r15g2b
  case y15g2b=>(rintro w ⟨s0,s1,s2,s3,s4,s5,s6,s7,s8,s9,s10,s11⟩;go_simp;try with_reducible rfl)
  try simp only [zA,zB,zC,Act.put,zD,zE,zF]
  refine zt 16 (v:=?v16g2b) ?y16g2b ?r16g2b
  case y16g2b=>(rintro w ⟨s0,s1,s2,s3,s4,s5,s6,s7,s8,s9,s10,s11⟩;go_simp;try with_reducible rfl)
  try simp only [zA,zB,zC,Act.put,zD,zE,zF]
  refine wpAnyH_done (by kernel_rfl) ?_ _
  have p0:=zb Kgb.out 0 (.string b.f0)
  have p1:=zb Kgb.out 1 (.int .i64 b.f1)
  have p2:=zb Kgb.out 2 (.slice A2 b.f2.length c2)
  have p3:=zb Kgb.out 3 (.slice A3 b.f3.length c3)
  have p4:=zb Kgb.out 4 (.int .u64 b.f4)
  clear hHeld Kg Kgu
  go_wp2_with (((with_reducible refine gate_store (t:=26) (p:=8) (v:=.tmp 89) rfl ?_);go_must (refine zs 26 (.tmp 8) (.tmp 89) go 0 26 [.string b.f0,.int .i64 b.f1,.slice A2 b.f2.length c2,.slice A3 b.f3.length c3,.int .u64 b.f4] Kgo isz_bucket ?_;intro w15 hk ho;have HB:=zo ho HB Lgo;obtain ⟨z0,z1,z2,z3,z4⟩:=zz5 hk.out;clear hk ho)))
  refine bodyPost_ret (v:=.tuple #[.agg #[.string b.f0,.int .i64 b.f1,.slice A2 b.f2.length c2,.slice A3 b.f3.length c3,.int .u64 b.f4],.int .u64 0,.string ⟨#[]⟩,.int .i64 pe]) (by simp [results,Tryz.results17,go_sem,z0,z1,z2,z3,z4]) rfl ?_
  exact ⟨_,rfl,⟨A2,c2,A3,c3,rfl,G2.out,G3.out,H2.out _ HB.out,H3.out _ HB.out⟩,HB.out⟩
def wholeB (b : S26) (id : Int) (ps : List S43) (q : Int) : S26 × Int × ByteArray × Int :=
 let f:=findR b.f3 id
 let x:=wholeR f.1 ps
 let e2:=noR (!(x.2.2 == 0)) x.2.2 (noR (!(f.2 == 0)) f.2 (openR b anyK))
 if e2 = 0 then
  let p:=laidR ⟨b.f0,b.f1,b.f2,(abortR b.f3 id).1,b.f4⟩ f.1.f1 (fun l id=>putV l b.f1 ⟨id,x.1,false,q⟩)
  if p.2.2 = 0 then (p.1,p.2.1,x.2.1,0) else (b,0,⟨#[]⟩,p.2.2)
 else (b,0,⟨#[]⟩,e2)
theorem find_abort {l : List S101} {id : Int} {u : S101} (h : findR l id = (u,0)) : abortR l id = ((abortR l id).1,0):=by
 unfold findR at h
 unfold abortR
 cases hc : checkB l with
 | false=>rw [hc] at h;cases h
 | true =>
  rw [hc] at h
  cases hp : posU l id with
  | none=>rw [hp] at h;cases h
  | some i=>rfl
theorem wholeB.walk (b : S26) (A2 A3 : Option Addr) (c2 c3 : Nat) (id : Int) (ps : List S43) (A : Option Addr) (c : Nat) (q : Int) (w : World) (h2 : Kd.C k56 w A2 b.f2.length b.f2) (g2 : b.f2.length ≤ c2) (h3 : Kd.C k101 w A3 b.f3.length b.f3) (g3 : b.f3.length ≤ c3) (hl : ps.length < 100) (h4 : Kd.C k43 w A ps.length ps) :
  Calls Tryz.prog 17 #[.agg #[.string b.f0,.int .i64 b.f1,.slice A2 b.f2.length c2,.slice A3 b.f3.length c3,.int .u64 b.f4],.int .u64 id,.slice A ps.length c,.int .i64 q] w (BkPost (wholeB b id ps q).1 [.int .u64 (wholeB b id ps q).2.1,.string (wholeB b id ps q).2.2.1,.int .i64 (wholeB b id ps q).2.2.2] w):=by
 obtain ⟨⟨u,fe⟩,hf⟩ : ∃ f,findR b.f3 id = f:=⟨_,rfl⟩
 obtain ⟨⟨data,tx,we⟩,hw⟩ : ∃ f,wholeR u ps = f:=⟨_,rfl⟩
 by_cases hz : noR (!(we == 0)) we (noR (!(fe == 0)) fe (openR b anyK)) = 0
 ·obtain ⟨hwe,h1⟩:=noR_ok hz
  obtain ⟨hfe,he0⟩:=noR_ok h1
  subst hwe hfe
  obtain ⟨⟨pb,pl,pe⟩,hp⟩ : ∃ p,laidR ⟨b.f0,b.f1,b.f2,(abortR b.f3 id).1,b.f4⟩ u.f1 (fun l id=>putV l b.f1 ⟨id,data,false,q⟩) = p:=⟨_,rfl⟩
  have e : wholeB b id ps q = if pe = 0 then (pb,pl,tx,0) else (b,0,⟨#[]⟩,pe):=by
   unfold wholeB
   simp only [hf,hw,hp]
   rw [if_pos hz]
  rw [e]
  by_cases hpe : pe = 0
  ·rw [if_pos hpe]
   subst hpe
   exact whole_gg b A2 A3 c2 c3 id ps A c q w h2 g2 h3 g3 hl h4 he0 u hf data tx hw _ (find_abort hf) pb pl hp
  ·rw [if_neg hpe]
   exact whole_gn b A2 A3 c2 c3 id ps A c q w h2 g2 h3 g3 hl h4 he0 u hf data tx hw _ (find_abort hf) pb pl pe hpe hp
 ·have e : wholeB b id ps q = (b,0,⟨#[]⟩,noR (!(we == 0)) we (noR (!(fe == 0)) fe (openR b anyK))):=by
   unfold wholeB
   simp only [hf,hw]
   rw [if_neg hz]
  rw [e]
  have tt : ∀ x : Int,x ≠ 0 → (!(x == 0)) = true:=fun x h=>by rw [beq_eq_false_iff_ne.2 h];rfl
  by_cases hfe : fe = 0
  ·subst hfe
   by_cases hwe : we = 0
   ·subst hwe;exact whole_n00 b A2 A3 c2 c3 id ps A c q w h2 g2 h3 g3 hl h4 _ rfl u hf data tx hw _ _ rfl rfl hz
   ·have t1:=tt we hwe
    rw [t1] at hz ⊢
    exact whole_n01 b A2 A3 c2 c3 id ps A c q w h2 g2 h3 g3 hl h4 _ rfl u hf data tx we hwe hw _ _ rfl rfl hz
  ·have t2:=tt fe hfe
   rw [t2] at hz ⊢
   by_cases hwe : we = 0
   ·subst hwe;exact whole_n10 b A2 A3 c2 c3 id ps A c q w h2 g2 h3 g3 hl h4 _ rfl u fe hfe hf data tx hw _ _ rfl rfl hz
   ·have t1:=tt we hwe
    rw [t1] at hz ⊢
    exact whole_n11 b A2 A3 c2 c3 id ps A c q w h2 g2 h3 g3 hl h4 _ rfl u fe hfe hf data tx we hwe hw _ _ rfl rfl hz
end
section
open Go.WideMaps Go.Maps
attribute [local go_sem] Oper.semAt_some
theorem one_P {w : World} {x : S43} {c : List Value} {g : Nat} (h : k43.K w x c) (hr : RawAt w ⟨g,0,none⟩ c) : Kd.C k43 w (some ⟨g,0,none⟩) 1 [x]:=by
 have:=rows_C (RowsOf.one_ x c h) (by simpa using hr) (by simp)
 simpa using this
theorem awake_gen (B1 B2 G B3 C D U1 U2 U3 : S26) (i6 q6 i8 q8 i13 q13 : Int) (s6 t11 : ByteArray) (m6 m8 m13 : Bool) (tg n9 n11 : Int) (h1 : laidR (⟨⟨#[98,111,120]⟩,0,[],[],0⟩ : S26) ⟨#[97]⟩ (fun l id=>putV l (⟨⟨#[98,111,120]⟩,0,[],[],0⟩ : S26).f1 ⟨id,⟨#[120]⟩,false,0⟩) = (B1,0,0)) (h2 : laidR B1 ⟨#[97]⟩ (fun l id=>putV l B1.f1 ⟨id,⟨#[121]⟩,false,0⟩) = (B2,0,0)) (h3 : laidR B2 ⟨#[97]⟩ (fun l id=>deleteV l B2.f1 id 0) = (G,0,0)) (h4 : turnB B2 1 = (B3,0)) (h5 : laidR B3 ⟨#[97]⟩ (fun l id=>deleteV l B3.f1 id 1) = (C,1,0)) (h6 : getB C ⟨#[97]⟩ = (⟨i6,s6,m6,q6⟩,13)) (h7 : dropB C ⟨#[97]⟩ 1 = (D,0)) (h8 : getB D ⟨#[97]⟩ = (⟨i8,⟨#[121]⟩,m8,q8⟩,0)) (h9 : beginB B3 ⟨#[107]⟩ = (U1,n9,0)) (h10 : layB U1 n9 ⟨1,⟨#[119,104,111,108,101]⟩⟩ = (U2,tg,0)) (h11 : wholeB U2 n9 [⟨1,tg⟩] 2 = (U3,n11,t11,0)) (h12 : getB U3 ⟨#[107]⟩ = (⟨i13,⟨#[119,104,111,108,101]⟩,m13,q13⟩,0)) (hg : G.f2.length = 0 ∧ G.f3.length = 0) (w : World) :
  Calls Tryz.prog 14 #[] w fun e w'=>e = .returned (.bool true) ∧ Below w.heap.size w w':=by
 have H0:=zh (fun (W : World)=>newB_ok ⟨#[98,111,120]⟩ W (by kernel_rfl))
 have H1 : Hid (∀ W,Calls Tryz.prog 19 #[.agg #[.string ⟨#[98,111,120]⟩,.int .i64 0,.slice none 0 0,.slice none 0 0,.int .u64 0],.string ⟨#[97]⟩,.string ⟨#[120]⟩,.int .i64 0] W (BkPost B1 [.int .u64 0,.int .i64 0] W)):=fun W=>by
  have x:=putB.walk (⟨⟨#[98,111,120]⟩,0,[],[],0⟩ : S26) none none 0 0 ⟨#[97]⟩ ⟨#[120]⟩ 0 W (C_mt _ _ _) (Nat.le_refl _) (C_mt _ _ _) (Nat.le_refl _)
  rw [h1] at x
  exact x
 have H2 : Hid (∀ (AB1 DB1 : Option Addr) (cB1 dB1 : Nat) (W : World),Kd.C k56 W AB1 B1.f2.length B1.f2 → B1.f2.length ≤ cB1 → Kd.C k101 W DB1 B1.f3.length B1.f3 → B1.f3.length ≤ dB1 → Calls Tryz.prog 19 #[.agg #[.string B1.f0,.int .i64 B1.f1,.slice AB1 B1.f2.length cB1,.slice DB1 B1.f3.length dB1,.int .u64 B1.f4],.string ⟨#[97]⟩,.string ⟨#[121]⟩,.int .i64 0] W (BkPost B2 [.int .u64 0,.int .i64 0] W)):=fun A D c d W e2 g2 e3 g3=>by
  have x:=putB.walk B1 A D c d ⟨#[97]⟩ ⟨#[121]⟩ 0 W e2 g2 e3 g3
  rw [h2] at x
  exact x
 have H3 : Hid (∀ (AB2 DB2 : Option Addr) (cB2 dB2 : Nat) (W : World),Kd.C k56 W AB2 B2.f2.length B2.f2 → B2.f2.length ≤ cB2 → Kd.C k101 W DB2 B2.f3.length B2.f3 → B2.f3.length ≤ dB2 → Calls Tryz.prog 39 #[.agg #[.string B2.f0,.int .i64 B2.f1,.slice AB2 B2.f2.length cB2,.slice DB2 B2.f3.length dB2,.int .u64 B2.f4],.string ⟨#[97]⟩,.int .i64 0] W (BkPost G [.int .u64 0,.int .i64 0] W)):=fun A D c d W e2 g2 e3 g3=>by
  have x:=delB.walk B2 A D c d ⟨#[97]⟩ 0 W e2 g2 e3 g3
  rw [h3] at x
  exact x
 have H4 : Hid (∀ (AB2 DB2 : Option Addr) (cB2 dB2 : Nat) (W : World),Kd.C k56 W AB2 B2.f2.length B2.f2 → B2.f2.length ≤ cB2 → Kd.C k101 W DB2 B2.f3.length B2.f3 → B2.f3.length ≤ dB2 → Calls Tryz.prog 27 #[.agg #[.string B2.f0,.int .i64 B2.f1,.slice AB2 B2.f2.length cB2,.slice DB2 B2.f3.length dB2,.int .u64 B2.f4],.int .i64 1] W (BkPost B3 [.int .i64 0] W)):=fun A D c d W e2 g2 e3 g3=>by
  have x:=turnB.walk B2 A D c d 1 W e2 g2 e3 g3
  rw [h4] at x
  exact x
 have H5 : Hid (∀ (AB3 DB3 : Option Addr) (cB3 dB3 : Nat) (W : World),Kd.C k56 W AB3 B3.f2.length B3.f2 → B3.f2.length ≤ cB3 → Kd.C k101 W DB3 B3.f3.length B3.f3 → B3.f3.length ≤ dB3 → Calls Tryz.prog 39 #[.agg #[.string B3.f0,.int .i64 B3.f1,.slice AB3 B3.f2.length cB3,.slice DB3 B3.f3.length dB3,.int .u64 B3.f4],.string ⟨#[97]⟩,.int .i64 1] W (BkPost C [.int .u64 1,.int .i64 0] W)):=fun A D c d W e2 g2 e3 g3=>by
  have x:=delB.walk B3 A D c d ⟨#[97]⟩ 1 W e2 g2 e3 g3
  rw [h5] at x
  exact x
 have H6 : Hid (∀ (AC DC : Option Addr) (cC dC : Nat) (W : World),Kd.C k56 W AC C.f2.length C.f2 → C.f2.length ≤ cC → Kd.C k101 W DC C.f3.length C.f3 → C.f3.length ≤ dC → Calls Tryz.prog 18 #[.agg #[.string C.f0,.int .i64 C.f1,.slice AC C.f2.length cC,.slice DC C.f3.length dC,.int .u64 C.f4],.string ⟨#[97]⟩] W (OnePost ⟨i6,s6,m6,q6⟩ 13 W)):=fun A D c d W e2 g2 e3 g3=>by
  have x:=getB.walk C A D c d ⟨#[97]⟩ W e2 g2 e3 g3
  rw [h6] at x
  exact x
 have H7 : Hid (∀ (AC DC : Option Addr) (cC dC : Nat) (W : World),Kd.C k56 W AC C.f2.length C.f2 → C.f2.length ≤ cC → Kd.C k101 W DC C.f3.length C.f3 → C.f3.length ≤ dC → Calls Tryz.prog 40 #[.agg #[.string C.f0,.int .i64 C.f1,.slice AC C.f2.length cC,.slice DC C.f3.length dC,.int .u64 C.f4],.string ⟨#[97]⟩,.int .u64 1] W (BkPost D [.int .i64 0] W)):=fun A D' c d W e2 g2 e3 g3=>by
  have x:=dropB.walk C A D' c d ⟨#[97]⟩ 1 W e2 g2 e3 g3
  rw [h7] at x
  exact x
 have H8 : Hid (∀ (AD DD : Option Addr) (cD dD : Nat) (W : World),Kd.C k56 W AD D.f2.length D.f2 → D.f2.length ≤ cD → Kd.C k101 W DD D.f3.length D.f3 → D.f3.length ≤ dD → Calls Tryz.prog 18 #[.agg #[.string D.f0,.int .i64 D.f1,.slice AD D.f2.length cD,.slice DD D.f3.length dD,.int .u64 D.f4],.string ⟨#[97]⟩] W (OnePost ⟨i8,⟨#[121]⟩,m8,q8⟩ 0 W)):=fun A D' c d W e2 g2 e3 g3=>by
  have x:=getB.walk D A D' c d ⟨#[97]⟩ W e2 g2 e3 g3
  rw [h8] at x
  exact x
 have H9 : Hid (∀ (AB3 DB3 : Option Addr) (cB3 dB3 : Nat) (W : World),Kd.C k56 W AB3 B3.f2.length B3.f2 → B3.f2.length ≤ cB3 → Kd.C k101 W DB3 B3.f3.length B3.f3 → B3.f3.length ≤ dB3 → Calls Tryz.prog 12 #[.agg #[.string B3.f0,.int .i64 B3.f1,.slice AB3 B3.f2.length cB3,.slice DB3 B3.f3.length dB3,.int .u64 B3.f4],.string ⟨#[107]⟩] W (BkPost U1 [.int .u64 n9,.int .i64 0] W)):=fun A D c d W e2 g2 e3 g3=>by
  have x:=beginB.walk B3 A D c d ⟨#[107]⟩ W e2 g2 e3 g3
  rw [h9] at x
  exact x
 have H10 : Hid (∀ (AU1 DU1 : Option Addr) (cU1 dU1 : Nat) (W : World),Kd.C k56 W AU1 U1.f2.length U1.f2 → U1.f2.length ≤ cU1 → Kd.C k101 W DU1 U1.f3.length U1.f3 → U1.f3.length ≤ dU1 → Calls Tryz.prog 15 #[.agg #[.string U1.f0,.int .i64 U1.f1,.slice AU1 U1.f2.length cU1,.slice DU1 U1.f3.length dU1,.int .u64 U1.f4],.int .u64 n9,.agg #[.int .i64 1,.string ⟨#[119,104,111,108,101]⟩]] W (BkPost U2 [.int .u32 tg,.int .i64 0] W)):=fun A D c d W e2 g2 e3 g3=>by
  have x:=layB.walk U1 A D c d n9 ⟨1,⟨#[119,104,111,108,101]⟩⟩ W e2 g2 e3 g3
  rw [h10] at x
  exact x
 have H11 : Hid (∀ (AU2 DU2 : Option Addr) (cU2 dU2 : Nat) (W : World),Kd.C k56 W AU2 U2.f2.length U2.f2 → U2.f2.length ≤ cU2 → Kd.C k101 W DU2 U2.f3.length U2.f3 → U2.f3.length ≤ dU2 → ∀ gl : Nat,W.heap[gl]? = some (.cells #[.int .i64 1,.int .u32 tg] 43 (0,0)) → Calls Tryz.prog 17 #[.agg #[.string U2.f0,.int .i64 U2.f1,.slice AU2 U2.f2.length cU2,.slice DU2 U2.f3.length dU2,.int .u64 U2.f4],.int .u64 n9,.slice (some ⟨gl,0,none⟩) 1 1,.int .i64 2] W (BkPost U3 [.int .u64 n11,.string t11,.int .i64 0] W)):=fun A D c d W e2 g2 e3 g3 gl kl=>by
  have x:=wholeB.walk U2 A D c d n9 [⟨1,tg⟩] (some ⟨gl,0,none⟩) 1 2 W e2 g2 e3 g3 (by show 1 < 100;decide) (one_P (k43_mk W (⟨1,tg⟩ : S43)) (blkRaw (cs:=[.int .i64 1,.int .u32 tg]) kl))
  rw [h11] at x
  exact x
 have H12 : Hid (∀ (AU3 DU3 : Option Addr) (cU3 dU3 : Nat) (W : World),Kd.C k56 W AU3 U3.f2.length U3.f2 → U3.f2.length ≤ cU3 → Kd.C k101 W DU3 U3.f3.length U3.f3 → U3.f3.length ≤ dU3 → Calls Tryz.prog 18 #[.agg #[.string U3.f0,.int .i64 U3.f1,.slice AU3 U3.f2.length cU3,.slice DU3 U3.f3.length dU3,.int .u64 U3.f4],.string ⟨#[107]⟩] W (OnePost ⟨i13,⟨#[119,104,111,108,101]⟩,m13,q13⟩ 0 W)):=fun A D c d W e2 g2 e3 g3=>by
  have x:=getB.walk U3 A D c d ⟨#[107]⟩ W e2 g2 e3 g3
  rw [h12] at x
  exact x
 have HE : Hid (∀ (AG DG : Option Addr) (cG dG : Nat) (W : World),Kd.C k56 W AG G.f2.length G.f2 → G.f2.length ≤ cG → Kd.C k101 W DG G.f3.length G.f3 → G.f3.length ≤ dG → Calls Tryz.prog 41 #[.agg #[.string G.f0,.int .i64 G.f1,.slice AG G.f2.length cG,.slice DG G.f3.length dG,.int .u64 G.f4]] W (fun e w'=>e = .returned (.bool true) ∧ Below W.heap.size W w')):=fun A D c d W e2 g2 e3 g3=>by
  have x:=bucket_Empty.calls G.f0 G.f1 A c G.f2 D d G.f3 G.f4 true W e2 g2 e3 g3 (by unfold bucket_Empty.f;rw [hg.1,hg.2];rfl)
  exact x
 have HB:=zh (Below.refl w.heap.size w)
 clear h1 h2 h3 h4 h5 h6 h7 h8 h9 h10 h11 h12 hg
 go_enter Tryz.func14,Tryz.ntmps14
 go_wp2_with (first
  | ((with_reducible refine gate_dst (N:=1) rfl ?_);go_must (refine zx HB (N:=1) (cs:=#[.string ⟨#[]⟩,.int .i64 0,.slice none 0 0,.slice none 0 0,.int .u64 0]) (t:=26) ?hr ?_;(case hr=>first | (go_simp;done) | (go_simp;rfl));intro gB wb0 KgB LgB HB hbelgB hqgB;have HD:=zh hbelgB;have WD:=zh (show _ ≤ gB by rw [hqgB];exact Nat.le_refl _);clear hbelgB hqgB))
  | ((with_reducible refine gate_dst (N:=7) rfl ?_);go_must (refine zx HB (N:=7) (cs:=#[.string ⟨#[]⟩,.int .i64 0,.slice none 0 0,.slice none 0 0,.int .u64 0]) (t:=26) ?hr ?_;(case hr=>first | (go_simp;done) | (go_simp;rfl));intro gG wb3 KgG LgG HB hbelgG hqgG;have NgBgG:=zh (show gB < gG by rw [hqgG];exact blk_lt KgB.out);have HD:=zh hbelgG;have WD:=zh (show _ ≤ gG by rw [hqgG];exact Nat.le_refl _);have KgB:=zk KgB hbelgG;clear hbelgG hqgG))
  | ((with_reducible refine gate_dst (N:=11) rfl ?_);go_must (refine zx HB (N:=11) (cs:=#[.string ⟨#[]⟩,.int .i64 0,.slice none 0 0,.slice none 0 0,.int .u64 0]) (t:=26) ?hr ?_;(case hr=>first | (go_simp;done) | (go_simp;rfl));intro gC wb5 KgC LgC HB hbelgC hqgC;have NgBgC:=zh (show gB < gC by rw [hqgC];exact blk_lt KgB.out);have NgGgC:=zh (show gG < gC by rw [hqgC];exact blk_lt KgG.out);have HD:=zh hbelgC;have WD:=zh (show _ ≤ gC by rw [hqgC];exact Nat.le_refl _);have KgB:=zk KgB hbelgC;have KgG:=zk KgG hbelgC;clear hbelgC hqgC))
  | ((with_reducible refine gate_dst (N:=14) rfl ?_);go_must (refine zx HB (N:=14) (cs:=#[.int .u64 0,.string ⟨#[]⟩,.bool false,.int .i64 0]) (t:=47) ?hr ?_;(case hr=>first | (go_simp;done) | (go_simp;rfl));intro gv wb6 Kgv Lgv HB hbelgv hqgv;have NgBgv:=zh (show gB < gv by rw [hqgv];exact blk_lt KgB.out);have NgGgv:=zh (show gG < gv by rw [hqgv];exact blk_lt KgG.out);have NgCgv:=zh (show gC < gv by rw [hqgv];exact blk_lt KgC.out);have HD:=zh hbelgv;have WD:=zh (show _ ≤ gv by rw [hqgv];exact Nat.le_refl _);have KgB:=zk KgB hbelgv;have KgG:=zk KgG hbelgv;have KgC:=zk KgC hbelgv;clear hbelgv hqgv))
  | ((with_reducible refine gate_dst (N:=16) rfl ?_);go_must (refine zx HB (N:=16) (cs:=#[.string ⟨#[]⟩,.int .i64 0,.slice none 0 0,.slice none 0 0,.int .u64 0]) (t:=26) ?hr ?_;(case hr=>first | (go_simp;done) | (go_simp;rfl));intro gD wb7 KgD LgD HB hbelgD hqgD;have NgBgD:=zh (show gB < gD by rw [hqgD];exact blk_lt KgB.out);have NgGgD:=zh (show gG < gD by rw [hqgD];exact blk_lt KgG.out);have NgCgD:=zh (show gC < gD by rw [hqgD];exact blk_lt KgC.out);have HD:=zh hbelgD;have WD:=zh (show _ ≤ gD by rw [hqgD];exact Nat.le_refl _);have KgB:=zk KgB hbelgD;have KgG:=zk KgG hbelgD;have KgC:=zk KgC hbelgD;clear hbelgD hqgD))
  | ((with_reducible refine gate_dst (N:=18) rfl ?_);go_must (refine zx HB (N:=18) (cs:=#[.int .u64 0,.string ⟨#[]⟩,.bool false,.int .i64 0]) (t:=47) ?hr ?_;(case hr=>first | (go_simp;done) | (go_simp;rfl));intro gV wb8 KgV LgV HB hbelgV hqgV;have NgBgV:=zh (show gB < gV by rw [hqgV];exact blk_lt KgB.out);have NgGgV:=zh (show gG < gV by rw [hqgV];exact blk_lt KgG.out);have NgDgV:=zh (show gD < gV by rw [hqgV];exact blk_lt KgD.out);have HD:=zh hbelgV;have WD:=zh (show _ ≤ gV by rw [hqgV];exact Nat.le_refl _);have KgB:=zk KgB hbelgV;have KgG:=zk KgG hbelgV;have KgD:=zk KgD hbelgV;clear hbelgV hqgV))
  | ((with_reducible refine gate_dst (N:=20) rfl ?_);go_must (refine zx HB (N:=20) (cs:=#[.string ⟨#[]⟩,.int .i64 0,.slice none 0 0,.slice none 0 0,.int .u64 0]) (t:=26) ?hr ?_;(case hr=>first | (go_simp;done) | (go_simp;rfl));intro gU wb9 KgU LgU HB hbelgU hqgU;have NgBgU:=zh (show gB < gU by rw [hqgU];exact blk_lt KgB.out);have NgGgU:=zh (show gG < gU by rw [hqgU];exact blk_lt KgG.out);have NgVgU:=zh (show gV < gU by rw [hqgU];exact blk_lt KgV.out);have HD:=zh hbelgU;have WD:=zh (show _ ≤ gU by rw [hqgU];exact Nat.le_refl _);have KgB:=zk KgB hbelgU;have KgG:=zk KgG hbelgU;have KgV:=zk KgV hbelgU;clear hbelgU hqgU))
  | ((with_reducible refine gate_dst (N:=28) rfl ?_);go_must (refine zx HB (N:=28) (cs:=#[.int .u64 0,.string ⟨#[]⟩,.bool false,.int .i64 0]) (t:=47) ?hr ?_;(case hr=>first | (go_simp;done) | (go_simp;rfl));intro gW wb12 KgW LgW HB hbelgW hqgW;have NgGgW:=zh (show gG < gW by rw [hqgW];exact blk_lt KgG.out);have NgVgW:=zh (show gV < gW by rw [hqgW];exact blk_lt KgV.out);have NgUgW:=zh (show gU < gW by rw [hqgW];exact blk_lt KgU.out);have HD:=zh hbelgW;have WD:=zh (show _ ≤ gW by rw [hqgW];exact Nat.le_refl _);have KgG:=zk KgG hbelgW;have KgV:=zk KgV hbelgW;have KgU:=zk KgU hbelgW;clear hbelgW hqgW))
  | ((with_reducible refine gate_dst (N:=98) rfl ?_);go_must (refine lit_event ?hg (N:=98) ?hd (cs:=#[.int .i64 1,.int .u32 tg]) (t:=43) 1 ?hr ?_;(case hd=>rfl);(case hg=>rfl);(case hr=>first | (go_simp;done) | (go_simp;rfl));intro gl hql wl hbl hbell;have Kl:=zh hbl;have HB:=keepB HB hbell;have KgG:=zk KgG hbell;have KgV:=zk KgV hbell;have KgU:=zk KgU hbell;have EG:=zc EG hbell;have UG:=zc UG hbell;have EU2:=zc EU2 hbell;have UU2:=zc UU2 hbell;obtain ⟨a0,a1,a2,a3,a4⟩:=zz5 KgU.out;clear hbl hbell hql))
  | (go_at_call 26;go_must (first
    | (refine (H0.out _).mono ?_;rintro e w' ⟨rfl,hb⟩;have HB:=keepB HB hb;clear hb)))
  | (go_at_call 19;go_must (first
    | (clear MK1;refine (H1.out _).mono ?_;rintro e w' ⟨v,rfl,⟨AB1,cB1,DB1,dB1,rfl,x2,x3,y2,y3⟩,hb⟩;have HB:=keepB HB hb;have KgB:=zk KgB hb;have XB1:=zh x2;have YB1:=zh x3;have EB1:=zh y2;have UB1:=zh y3;clear x2 x3 y2 y3;clear a0 a1 a2 a3 a4;clear hb)
    | (clear MK2;refine (H2.out AB1 DB1 cB1 dB1 _ EB1.out XB1.out UB1.out YB1.out).mono ?_;rintro e w' ⟨v,rfl,⟨AB2,cB2,DB2,dB2,rfl,x2,x3,y2,y3⟩,hb⟩;have HB:=keepB HB hb;have KgB:=zk KgB hb;have EB1:=zc EB1 hb;have UB1:=zc UB1 hb;have XB2:=zh x2;have YB2:=zh x3;have EB2:=zh y2;have UB2:=zh y3;clear x2 x3 y2 y3;clear a0 a1 a2 a3 a4;clear hb)))
  | (go_at_call 39;go_must (first
    | (clear MK3;refine (H3.out AB2 DB2 cB2 dB2 _ EB2.out XB2.out UB2.out YB2.out).mono ?_;rintro e w' ⟨v,rfl,⟨AG,cG,DG,dG,rfl,x2,x3,y2,y3⟩,hb⟩;have HB:=keepB HB hb;have KgB:=zk KgB hb;have EB2:=zc EB2 hb;have UB2:=zc UB2 hb;have XG:=zh x2;have YG:=zh x3;have EG:=zh y2;have UG:=zh y3;clear x2 x3 y2 y3;clear a0 a1 a2 a3 a4;clear hb)
    | (clear MK5;refine (H5.out AB3 DB3 cB3 dB3 _ EB3.out XB3.out UB3.out YB3.out).mono ?_;rintro e w' ⟨v,rfl,⟨AC,cC,DC,dC,rfl,x2,x3,y2,y3⟩,hb⟩;have HB:=keepB HB hb;have KgB:=zk KgB hb;have KgG:=zk KgG hb;have EB3:=zc EB3 hb;have UB3:=zc UB3 hb;have EG:=zc EG hb;have UG:=zc UG hb;have XC:=zh x2;have YC:=zh x3;have EC:=zh y2;have UC:=zh y3;clear x2 x3 y2 y3;clear a0 a1 a2 a3 a4;clear hb)))
  | (go_at_call 27;go_must (first
    | (clear MK4;refine (H4.out AB2 DB2 cB2 dB2 _ EB2.out XB2.out UB2.out YB2.out).mono ?_;rintro e w' ⟨v,rfl,⟨AB3,cB3,DB3,dB3,rfl,x2,x3,y2,y3⟩,hb⟩;have HB:=keepB HB hb;have KgB:=zk KgB hb;have KgG:=zk KgG hb;have EB2:=zc EB2 hb;have UB2:=zc UB2 hb;have EG:=zc EG hb;have UG:=zc UG hb;have XB3:=zh x2;have YB3:=zh x3;have EB3:=zh y2;have UB3:=zh y3;clear x2 x3 y2 y3;clear a0 a1 a2 a3 a4;clear hb)))
  | (go_at_call 18;go_must (first
    | (clear MK6;refine (H6.out AC DC cC dC _ EC.out XC.out UC.out YC.out).mono ?_;rintro e w' ⟨rfl,hb⟩;have HB:=keepB HB hb;have KgB:=zk KgB hb;have KgG:=zk KgG hb;have KgC:=zk KgC hb;have EB3:=zc EB3 hb;have UB3:=zc UB3 hb;have EG:=zc EG hb;have UG:=zc UG hb;have EC:=zc EC hb;have UC:=zc UC hb;clear a0 a1 a2 a3 a4;clear hb)
    | (clear MK8;refine (H8.out AD DD cD dD _ ED.out XD.out UD.out YD.out).mono ?_;rintro e w' ⟨rfl,hb⟩;have HB:=keepB HB hb;have KgB:=zk KgB hb;have KgG:=zk KgG hb;have KgD:=zk KgD hb;have EB3:=zc EB3 hb;have UB3:=zc UB3 hb;have EG:=zc EG hb;have UG:=zc UG hb;have ED:=zc ED hb;have UD:=zc UD hb;clear a0 a1 a2 a3 a4;clear hb)
    | (clear MK12;refine (H12.out AU3 DU3 cU3 dU3 _ EU3.out XU3.out UU3.out YU3.out).mono ?_;rintro e w' ⟨rfl,hb⟩;have HB:=keepB HB hb;have KgG:=zk KgG hb;have KgV:=zk KgV hb;have KgU:=zk KgU hb;have EG:=zc EG hb;have UG:=zc UG hb;have EU3:=zc EU3 hb;have UU3:=zc UU3 hb;clear a0 a1 a2 a3 a4;clear hb)))
  | (go_at_call 40;go_must (first
    | (clear MK7;refine (H7.out AC DC cC dC _ EC.out XC.out UC.out YC.out).mono ?_;rintro e w' ⟨v,rfl,⟨AD,cD,DD,dD,rfl,x2,x3,y2,y3⟩,hb⟩;have HB:=keepB HB hb;have KgB:=zk KgB hb;have KgG:=zk KgG hb;have KgC:=zk KgC hb;have EB3:=zc EB3 hb;have UB3:=zc UB3 hb;have EG:=zc EG hb;have UG:=zc UG hb;have EC:=zc EC hb;have UC:=zc UC hb;have XD:=zh x2;have YD:=zh x3;have ED:=zh y2;have UD:=zh y3;clear x2 x3 y2 y3;clear a0 a1 a2 a3 a4;clear hb)))
  | (go_at_call 12;go_must (first
    | (clear MK9;refine (H9.out AB3 DB3 cB3 dB3 _ EB3.out XB3.out UB3.out YB3.out).mono ?_;rintro e w' ⟨v,rfl,⟨AU1,cU1,DU1,dU1,rfl,x2,x3,y2,y3⟩,hb⟩;have HB:=keepB HB hb;have KgB:=zk KgB hb;have KgG:=zk KgG hb;have KgV:=zk KgV hb;have EB3:=zc EB3 hb;have UB3:=zc UB3 hb;have EG:=zc EG hb;have UG:=zc UG hb;have XU1:=zh x2;have YU1:=zh x3;have EU1:=zh y2;have UU1:=zh y3;clear x2 x3 y2 y3;clear a0 a1 a2 a3 a4;clear hb)))
  | (go_at_call 15;go_must (first
    | (clear MK10;refine (H10.out AU1 DU1 cU1 dU1 _ EU1.out XU1.out UU1.out YU1.out).mono ?_;rintro e w' ⟨v,rfl,⟨AU2,cU2,DU2,dU2,rfl,x2,x3,y2,y3⟩,hb⟩;have HB:=keepB HB hb;have KgG:=zk KgG hb;have KgV:=zk KgV hb;have KgU:=zk KgU hb;have EG:=zc EG hb;have UG:=zc UG hb;have EU1:=zc EU1 hb;have UU1:=zc UU1 hb;have XU2:=zh x2;have YU2:=zh x3;have EU2:=zh y2;have UU2:=zh y3;clear x2 x3 y2 y3;clear a0 a1 a2 a3 a4;clear hb)))
  | (go_at_call 17;go_must (first
    | (clear MK11;refine (H11.out AU2 DU2 cU2 dU2 _ EU2.out XU2.out UU2.out YU2.out gl Kl.out).mono ?_;rintro e w' ⟨v,rfl,⟨AU3,cU3,DU3,dU3,rfl,x2,x3,y2,y3⟩,hb⟩;have HB:=keepB HB hb;have KgG:=zk KgG hb;have KgV:=zk KgV hb;have KgU:=zk KgU hb;have EG:=zc EG hb;have UG:=zc UG hb;have EU2:=zc EU2 hb;have UU2:=zc UU2 hb;have XU3:=zh x2;have YU3:=zh x3;have EU3:=zh y2;have UU3:=zh y3;clear x2 x3 y2 y3;clear a0 a1 a2 a3 a4;clear hb)))
  | (go_at_call 41;go_must (refine (HE.out AG DG cG dG _ EG.out XG.out UG.out YG.out).mono ?_;rintro e w' ⟨rfl,hb⟩;have HB:=keepB HB hb;have KgV:=zk KgV hb;have KgW:=zk KgW hb;obtain ⟨b0,b1,b2,b3⟩:=zz4 KgV.out;obtain ⟨d0,d1,d2,d3⟩:=zz4 KgW.out;clear hb))
  | ((with_reducible refine gate_store (t:=26) (p:=1) (v:=.tmp 32) rfl ?_);go_must (refine zs 26 (.tmp 1) (.tmp 32) gB 0 26 [.string ⟨#[98,111,120]⟩,.int .i64 0,.slice none 0 0,.slice none 0 0,.int .u64 0] KgB isz_bucket ?_;intro ws0 hk ho;clear HD WD;have KgB : Hid (ws0.heap[gB]? = some (.cells #[.string ⟨#[98,111,120]⟩,.int .i64 0,.slice none 0 0,.slice none 0 0,.int .u64 0] 26 (0,0))):=hk;have HB:=zo ho HB LgB;obtain ⟨a0,a1,a2,a3,a4⟩:=zz5 KgB.out;have MK1:=zh True.intro;clear hk ho))
  | ((with_reducible refine gate_store (t:=26) (p:=1) (v:=.tmp 37) rfl ?_);go_must (refine zs 26 (.tmp 1) (.tmp 37) gB 0 26 [.string B1.f0,.int .i64 B1.f1,.slice AB1 B1.f2.length cB1,.slice DB1 B1.f3.length dB1,.int .u64 B1.f4] KgB isz_bucket ?_;intro ws1 hk ho;have EB1:=zh (keepE EB1.out KgB.out (bk_like _ _ _ _ _ _ _ _ _) ho.out);have UB1:=zh (keepU UB1.out KgB.out (bk_like _ _ _ _ _ _ _ _ _) ho.out);have KgB : Hid (ws1.heap[gB]? = some (.cells #[.string B1.f0,.int .i64 B1.f1,.slice AB1 B1.f2.length cB1,.slice DB1 B1.f3.length dB1,.int .u64 B1.f4] 26 (0,0))):=hk;have HB:=zo ho HB LgB;obtain ⟨a0,a1,a2,a3,a4⟩:=zz5 KgB.out;have MK2:=zh True.intro;clear hk ho))
  | ((with_reducible refine gate_store (t:=26) (p:=1) (v:=.tmp 43) rfl ?_);go_must (refine zs 26 (.tmp 1) (.tmp 43) gB 0 26 [.string B2.f0,.int .i64 B2.f1,.slice AB2 B2.f2.length cB2,.slice DB2 B2.f3.length dB2,.int .u64 B2.f4] KgB isz_bucket ?_;intro ws2 hk ho;have EB2:=zh (keepE EB2.out KgB.out (bk_like _ _ _ _ _ _ _ _ _) ho.out);have UB2:=zh (keepU UB2.out KgB.out (bk_like _ _ _ _ _ _ _ _ _) ho.out);have KgB : Hid (ws2.heap[gB]? = some (.cells #[.string B2.f0,.int .i64 B2.f1,.slice AB2 B2.f2.length cB2,.slice DB2 B2.f3.length dB2,.int .u64 B2.f4] 26 (0,0))):=hk;have HB:=zo ho HB LgB;obtain ⟨a0,a1,a2,a3,a4⟩:=zz5 KgB.out;have MK3:=zh True.intro;clear hk ho))
  | ((with_reducible refine gate_store (t:=26) (p:=7) (v:=.tmp 49) rfl ?_);go_must (refine zs 26 (.tmp 7) (.tmp 49) gG 0 26 [.string G.f0,.int .i64 G.f1,.slice AG G.f2.length cG,.slice DG G.f3.length dG,.int .u64 G.f4] KgG isz_bucket ?_;intro ws3 hk ho;have EB2:=zc EB2 (ho.out.below HD.out HD.out.size WD.out);have UB2:=zc UB2 (ho.out.below HD.out HD.out.size WD.out);have EG:=zc EG (ho.out.below HD.out HD.out.size WD.out);have UG:=zc UG (ho.out.below HD.out HD.out.size WD.out);clear HD WD;have KgG : Hid (ws3.heap[gG]? = some (.cells #[.string G.f0,.int .i64 G.f1,.slice AG G.f2.length cG,.slice DG G.f3.length dG,.int .u64 G.f4] 26 (0,0))):=hk;have HB:=zo ho HB LgG;have KgB:=zl ho KgB (by have:=NgBgG.out;omega);obtain ⟨a0,a1,a2,a3,a4⟩:=zz5 KgB.out;have MK4:=zh True.intro;clear hk ho))
  | ((with_reducible refine gate_store (t:=26) (p:=1) (v:=.tmp 55) rfl ?_);go_must (refine zs 26 (.tmp 1) (.tmp 55) gB 0 26 [.string B3.f0,.int .i64 B3.f1,.slice AB3 B3.f2.length cB3,.slice DB3 B3.f3.length dB3,.int .u64 B3.f4] KgB isz_bucket ?_;intro ws4 hk ho;have EB3:=zh (keepE EB3.out KgB.out (bk_like _ _ _ _ _ _ _ _ _) ho.out);have UB3:=zh (keepU UB3.out KgB.out (bk_like _ _ _ _ _ _ _ _ _) ho.out);have EG:=zh (keepE EG.out KgB.out (bk_like _ _ _ _ _ _ _ _ _) ho.out);have UG:=zh (keepU UG.out KgB.out (bk_like _ _ _ _ _ _ _ _ _) ho.out);have KgB : Hid (ws4.heap[gB]? = some (.cells #[.string B3.f0,.int .i64 B3.f1,.slice AB3 B3.f2.length cB3,.slice DB3 B3.f3.length dB3,.int .u64 B3.f4] 26 (0,0))):=hk;have HB:=zo ho HB LgB;have KgG:=zl ho KgG (by have:=NgBgG.out;omega);obtain ⟨a0,a1,a2,a3,a4⟩:=zz5 KgB.out;have MK5:=zh True.intro;clear hk ho))
  | ((with_reducible refine gate_store (t:=26) (p:=11) (v:=.tmp 60) rfl ?_);go_must (refine zs 26 (.tmp 11) (.tmp 60) gC 0 26 [.string C.f0,.int .i64 C.f1,.slice AC C.f2.length cC,.slice DC C.f3.length dC,.int .u64 C.f4] KgC isz_bucket ?_;intro ws5 hk ho;have EB3:=zc EB3 (ho.out.below HD.out HD.out.size WD.out);have UB3:=zc UB3 (ho.out.below HD.out HD.out.size WD.out);have EG:=zc EG (ho.out.below HD.out HD.out.size WD.out);have UG:=zc UG (ho.out.below HD.out HD.out.size WD.out);have EC:=zc EC (ho.out.below HD.out HD.out.size WD.out);have UC:=zc UC (ho.out.below HD.out HD.out.size WD.out);clear HD WD;have KgC : Hid (ws5.heap[gC]? = some (.cells #[.string C.f0,.int .i64 C.f1,.slice AC C.f2.length cC,.slice DC C.f3.length dC,.int .u64 C.f4] 26 (0,0))):=hk;have HB:=zo ho HB LgC;have KgB:=zl ho KgB (by have:=NgBgC.out;omega);have KgG:=zl ho KgG (by have:=NgGgC.out;omega);obtain ⟨a0,a1,a2,a3,a4⟩:=zz5 KgC.out;have MK6:=zh True.intro;clear hk ho))
  | ((with_reducible refine gate_store (t:=47) (p:=14) (v:=.tmp 66) rfl ?_);go_must (refine zs 47 (.tmp 14) (.tmp 66) gv 0 47 [.int .u64 i6,.string s6,.bool m6,.int .i64 q6] Kgv (by kernel_rfl) ?_;intro ws6 hk ho;have EB3:=zc EB3 (ho.out.below HD.out HD.out.size WD.out);have UB3:=zc UB3 (ho.out.below HD.out HD.out.size WD.out);have EG:=zc EG (ho.out.below HD.out HD.out.size WD.out);have UG:=zc UG (ho.out.below HD.out HD.out.size WD.out);have EC:=zc EC (ho.out.below HD.out HD.out.size WD.out);have UC:=zc UC (ho.out.below HD.out HD.out.size WD.out);clear HD WD;have Kgv : Hid (ws6.heap[gv]? = some (.cells #[.int .u64 i6,.string s6,.bool m6,.int .i64 q6] 47 (0,0))):=hk;have HB:=zo ho HB Lgv;have KgB:=zl ho KgB (by have:=NgBgv.out;omega);have KgG:=zl ho KgG (by have:=NgGgv.out;omega);have KgC:=zl ho KgC (by have:=NgCgv.out;omega);obtain ⟨a0,a1,a2,a3,a4⟩:=zz5 KgC.out;have MK7:=zh True.intro;clear hk ho))
  | ((with_reducible refine gate_store (t:=26) (p:=16) (v:=.tmp 72) rfl ?_);go_must (refine zs 26 (.tmp 16) (.tmp 72) gD 0 26 [.string D.f0,.int .i64 D.f1,.slice AD D.f2.length cD,.slice DD D.f3.length dD,.int .u64 D.f4] KgD isz_bucket ?_;intro ws7 hk ho;have EB3:=zc EB3 (ho.out.below HD.out HD.out.size WD.out);have UB3:=zc UB3 (ho.out.below HD.out HD.out.size WD.out);have EG:=zc EG (ho.out.below HD.out HD.out.size WD.out);have UG:=zc UG (ho.out.below HD.out HD.out.size WD.out);have ED:=zc ED (ho.out.below HD.out HD.out.size WD.out);have UD:=zc UD (ho.out.below HD.out HD.out.size WD.out);clear HD WD;have KgD : Hid (ws7.heap[gD]? = some (.cells #[.string D.f0,.int .i64 D.f1,.slice AD D.f2.length cD,.slice DD D.f3.length dD,.int .u64 D.f4] 26 (0,0))):=hk;have HB:=zo ho HB LgD;have KgB:=zl ho KgB (by have:=NgBgD.out;omega);have KgG:=zl ho KgG (by have:=NgGgD.out;omega);obtain ⟨a0,a1,a2,a3,a4⟩:=zz5 KgD.out;have MK8:=zh True.intro;clear hk ho))
  | ((with_reducible refine gate_store (t:=47) (p:=18) (v:=.tmp 77) rfl ?_);go_must (refine zs 47 (.tmp 18) (.tmp 77) gV 0 47 [.int .u64 i8,.string ⟨#[121]⟩,.bool m8,.int .i64 q8] KgV (by kernel_rfl) ?_;intro ws8 hk ho;have EB3:=zc EB3 (ho.out.below HD.out HD.out.size WD.out);have UB3:=zc UB3 (ho.out.below HD.out HD.out.size WD.out);have EG:=zc EG (ho.out.below HD.out HD.out.size WD.out);have UG:=zc UG (ho.out.below HD.out HD.out.size WD.out);clear HD WD;have KgV : Hid (ws8.heap[gV]? = some (.cells #[.int .u64 i8,.string ⟨#[121]⟩,.bool m8,.int .i64 q8] 47 (0,0))):=hk;have HB:=zo ho HB LgV;have KgB:=zl ho KgB (by have:=NgBgV.out;omega);have KgG:=zl ho KgG (by have:=NgGgV.out;omega);obtain ⟨a0,a1,a2,a3,a4⟩:=zz5 KgB.out;have MK9:=zh True.intro;clear hk ho))
  | ((with_reducible refine gate_store (t:=26) (p:=20) (v:=.tmp 82) rfl ?_);go_must (refine zs 26 (.tmp 20) (.tmp 82) gU 0 26 [.string U1.f0,.int .i64 U1.f1,.slice AU1 U1.f2.length cU1,.slice DU1 U1.f3.length dU1,.int .u64 U1.f4] KgU isz_bucket ?_;intro ws9 hk ho;have EG:=zc EG (ho.out.below HD.out HD.out.size WD.out);have UG:=zc UG (ho.out.below HD.out HD.out.size WD.out);have EU1:=zc EU1 (ho.out.below HD.out HD.out.size WD.out);have UU1:=zc UU1 (ho.out.below HD.out HD.out.size WD.out);clear HD WD;have KgU : Hid (ws9.heap[gU]? = some (.cells #[.string U1.f0,.int .i64 U1.f1,.slice AU1 U1.f2.length cU1,.slice DU1 U1.f3.length dU1,.int .u64 U1.f4] 26 (0,0))):=hk;have HB:=zo ho HB LgU;have KgG:=zl ho KgG (by have:=NgGgU.out;omega);have KgV:=zl ho KgV (by have:=NgVgU.out;omega);obtain ⟨a0,a1,a2,a3,a4⟩:=zz5 KgU.out;have MK10:=zh True.intro;clear hk ho))
  | ((with_reducible refine gate_store (t:=26) (p:=20) (v:=.tmp 90) rfl ?_);go_must (refine zs 26 (.tmp 20) (.tmp 90) gU 0 26 [.string U2.f0,.int .i64 U2.f1,.slice AU2 U2.f2.length cU2,.slice DU2 U2.f3.length dU2,.int .u64 U2.f4] KgU isz_bucket ?_;intro ws10 hk ho;have EG:=zh (keepE EG.out KgU.out (bk_like _ _ _ _ _ _ _ _ _) ho.out);have UG:=zh (keepU UG.out KgU.out (bk_like _ _ _ _ _ _ _ _ _) ho.out);have EU2:=zh (keepE EU2.out KgU.out (bk_like _ _ _ _ _ _ _ _ _) ho.out);have UU2:=zh (keepU UU2.out KgU.out (bk_like _ _ _ _ _ _ _ _ _) ho.out);have KgU : Hid (ws10.heap[gU]? = some (.cells #[.string U2.f0,.int .i64 U2.f1,.slice AU2 U2.f2.length cU2,.slice DU2 U2.f3.length dU2,.int .u64 U2.f4] 26 (0,0))):=hk;have HB:=zo ho HB LgU;have KgG:=zl ho KgG (by have:=NgGgU.out;omega);have KgV:=zl ho KgV (by have:=NgVgU.out;omega);obtain ⟨a0,a1,a2,a3,a4⟩:=zz5 KgU.out;have MK11:=zh True.intro;clear hk ho))
  | ((with_reducible refine gate_store (t:=26) (p:=20) (v:=.tmp 100) rfl ?_);go_must (refine zs 26 (.tmp 20) (.tmp 100) gU 0 26 [.string U3.f0,.int .i64 U3.f1,.slice AU3 U3.f2.length cU3,.slice DU3 U3.f3.length dU3,.int .u64 U3.f4] KgU isz_bucket ?_;intro ws11 hk ho;have EG:=zh (keepE EG.out KgU.out (bk_like _ _ _ _ _ _ _ _ _) ho.out);have UG:=zh (keepU UG.out KgU.out (bk_like _ _ _ _ _ _ _ _ _) ho.out);have EU3:=zh (keepE EU3.out KgU.out (bk_like _ _ _ _ _ _ _ _ _) ho.out);have UU3:=zh (keepU UU3.out KgU.out (bk_like _ _ _ _ _ _ _ _ _) ho.out);have KgU : Hid (ws11.heap[gU]? = some (.cells #[.string U3.f0,.int .i64 U3.f1,.slice AU3 U3.f2.length cU3,.slice DU3 U3.f3.length dU3,.int .u64 U3.f4] 26 (0,0))):=hk;have HB:=zo ho HB LgU;have KgG:=zl ho KgG (by have:=NgGgU.out;omega);have KgV:=zl ho KgV (by have:=NgVgU.out;omega);obtain ⟨a0,a1,a2,a3,a4⟩:=zz5 KgU.out;have MK12:=zh True.intro;clear hk ho))
  | ((with_reducible refine gate_store (t:=47) (p:=28) (v:=.tmp 107) rfl ?_);go_must (refine zs 47 (.tmp 28) (.tmp 107) gW 0 47 [.int .u64 i13,.string ⟨#[119,104,111,108,101]⟩,.bool m13,.int .i64 q13] KgW (by kernel_rfl) ?_;intro ws12 hk ho;have EG:=zc EG (ho.out.below HD.out HD.out.size WD.out);have UG:=zc UG (ho.out.below HD.out HD.out.size WD.out);clear HD WD;have KgW : Hid (ws12.heap[gW]? = some (.cells #[.int .u64 i13,.string ⟨#[119,104,111,108,101]⟩,.bool m13,.int .i64 q13] 47 (0,0))):=hk;have HB:=zo ho HB LgW;have KgG:=zl ho KgG (by have:=NgGgW.out;omega);have KgV:=zl ho KgV (by have:=NgVgW.out;omega);have MK13:=zh True.intro;obtain ⟨a0,a1,a2,a3,a4⟩:=zz5 KgG.out;obtain ⟨b0,b1,b2,b3⟩:=zz4 KgV.out;obtain ⟨d0,d1,d2,d3⟩:=zz4 KgW.out;clear hk ho)))
 refine bodyPost_ret (v:=.bool true) (by simp [results,Tryz.results14,go_sem]) rfl ?_
 exact ⟨rfl,HB.out⟩
end
section
open Go.WideMaps Go.Maps
def aB1 : S26:=(laidR (⟨⟨#[98,111,120]⟩,0,[],[],0⟩ : S26) ⟨#[97]⟩ (fun l id=>putV l (⟨⟨#[98,111,120]⟩,0,[],[],0⟩ : S26).f1 ⟨id,⟨#[120]⟩,false,0⟩)).1
def aB2 : S26:=(laidR aB1 ⟨#[97]⟩ (fun l id=>putV l aB1.f1 ⟨id,⟨#[121]⟩,false,0⟩)).1
def aG : S26:=(laidR aB2 ⟨#[97]⟩ (fun l id=>deleteV l aB2.f1 id 0)).1
def aB3 : S26:=(turnB aB2 1).1
def aC : S26:=(laidR aB3 ⟨#[97]⟩ (fun l id=>deleteV l aB3.f1 id 1)).1
def aD : S26:=(dropB aC ⟨#[97]⟩ 1).1
def aU1 : S26:=(beginB aB3 ⟨#[107]⟩).1
def aU2 : S26:=(layB aU1 (beginB aB3 ⟨#[107]⟩).2.1 ⟨1,⟨#[119,104,111,108,101]⟩⟩).1
def aU3 : S26:=(wholeB aU2 (beginB aB3 ⟨#[107]⟩).2.1 [⟨1,(layB aU1 (beginB aB3 ⟨#[107]⟩).2.1 ⟨1,⟨#[119,104,111,108,101]⟩⟩).2.1⟩] 2).1
theorem awake.walk (w : World) : Calls Tryz.prog 14 #[] w fun e w'=>e = .returned (.bool true) ∧ Below w.heap.size w w' :=
 awake_gen aB1 aB2 aG aB3 aC aD aU1 aU2 aU3 (getB aC ⟨#[97]⟩).1.f0 (getB aC ⟨#[97]⟩).1.f3 (getB aD ⟨#[97]⟩).1.f0 (getB aD ⟨#[97]⟩).1.f3 (getB aU3 ⟨#[107]⟩).1.f0 (getB aU3 ⟨#[107]⟩).1.f3 (getB aC ⟨#[97]⟩).1.f1 (wholeB aU2 (beginB aB3 ⟨#[107]⟩).2.1 [⟨1,(layB aU1 (beginB aB3 ⟨#[107]⟩).2.1 ⟨1,⟨#[119,104,111,108,101]⟩⟩).2.1⟩] 2).2.2.1 (getB aC ⟨#[97]⟩).1.f2 (getB aD ⟨#[97]⟩).1.f2 (getB aU3 ⟨#[107]⟩).1.f2 ((layB aU1 (beginB aB3 ⟨#[107]⟩).2.1 ⟨1,⟨#[119,104,111,108,101]⟩⟩).2.1) ((beginB aB3 ⟨#[107]⟩).2.1) (wholeB aU2 (beginB aB3 ⟨#[107]⟩).2.1 [⟨1,(layB aU1 (beginB aB3 ⟨#[107]⟩).2.1 ⟨1,⟨#[119,104,111,108,101]⟩⟩).2.1⟩] 2).2.1
  (by kernel_rfl) (by kernel_rfl) (by kernel_rfl) (by kernel_rfl) (by kernel_rfl) (by kernel_rfl) (by kernel_rfl) (by kernel_rfl) (by kernel_rfl) (by kernel_rfl) (by kernel_rfl) (by kernel_rfl) ⟨by kernel_rfl,by kernel_rfl⟩ w
end
section
open Go.WideMaps Go.Maps
attribute [local go_sem] Oper.semAt_some
def cutS (n : Nat) (s : ByteArray) : ByteArray:=if n < s.size then s.extract 0 n else s
theorem few_cut (s : ByteArray) : cellarerlaw01_Few.f s = some (cutS 80 s):=by
 unfold cellarerlaw01_Few.f cutS
 by_cases h : 80 < s.size
 ·rw [if_pos (by omega),if_pos (by decide),if_pos (by omega),if_pos h]
 ·rw [if_neg (by omega),if_neg h]
theorem cut_00 (kd id n q : Int) (key data : ByteArray) (A : Option Addr) (m c : Nat) (w : World) (hm : m ≤ c) (hd : data.size ≤ 2001) (hp : m ≤ 40) :
  Calls Tryz.prog 22 #[.agg #[.int .u8 kd,.string key,.string data,.int .u64 id,.int .i64 n,.int .i64 q,.slice A m c]] w fun e w'=>e = .returned (.agg #[.int .u8 kd,.string (cutS 80 key),.string data,.int .u64 id,.int .i64 n,.int .i64 q,.slice A m c]) ∧ Below w.heap.size w w':=by
 have HF:=zh (fun (W : World)=>cellarerlaw01_Few.calls key _ W (few_cut key))
 have d0 : decide ((2001 : Int) < (data.size : Int)) = false:=decide_eq_false (by omega)
 have d1 : decide ((data.size : Int) > 2001) = false:=decide_eq_false (by omega)
 have d2 : ¬ 2001 < data.size:=by omega
 have p0 : decide ((40 : Int) < (m : Int)) = false:=decide_eq_false (by omega)
 have p1 : decide ((m : Int) > 40) = false:=decide_eq_false (by omega)
 have p2 : ¬ 40 < m:=by omega
 have HB:=zh (Below.refl w.heap.size w)
 have l1 : True:=trivial
 have l2 : True:=trivial
 have l3 : True:=trivial
 go_enter Tryz.func22,Tryz.ntmps22
 go_wp2_with (first
  | ((with_reducible refine gate_dst (N:=1) rfl ?_);go_must (refine zx HB (N:=1) (cs:=#[.int .u8 kd,.string key,.string data,.int .u64 id,.int .i64 n,.int .i64 q,.slice A m c]) (t:=59) ?hr ?_;(case hr=>first | (go_simp;done) | (go_simp;rfl));intro gb w1 Kgb Lgb HB hbelgb hqgb;clear hbelgb hqgb))
  | ((with_reducible refine gate_dst (N:=2) rfl ?_);go_must (refine zx HB (N:=2) (cs:=#[.int .u8 0,.string ⟨#[]⟩,.string ⟨#[]⟩,.int .u64 0,.int .i64 0,.int .i64 0,.slice none 0 0]) (t:=59) ?hr ?_;(case hr=>first | (go_simp;done) | (go_simp;rfl));intro go w2 Kgo Lgo HB hbelgo hqgo;have M2:=zh (show gb < go by rw [hqgo];exact blk_lt Kgb.out);have Kgb:=zk Kgb hbelgo;obtain ⟨a0,a1,a2,a3,a4,a5,a6⟩:=zz7 Kgb.out;clear hbelgo hqgo))
  | (go_at_call 11;go_must (refine (HF.out _).mono ?_;rintro e w3 ⟨rfl,hb⟩;have hb:=outD hb;have HB:=keepB HB hb;have Kgb:=zk Kgb hb;have Kgo:=zk Kgo hb;clear hb a0 a1 a2 a3 a4 a5 a6))
  | ((with_reducible refine gate_store (t:=9) (p:=6) (v:=.tmp 5) rfl ?_);go_must (refine zq 9 (.tmp 6) (.tmp 5) gb 1 59 (.string (cutS 80 key)) Kgb (by kernel_rfl) ?_;intro w4 hk ho;have Kgb : Hid (w4.heap[gb]? = some (.cells #[.int .u8 kd,.string (cutS 80 key),.string data,.int .u64 id,.int .i64 n,.int .i64 q,.slice A m c] 59 (0,0))):=hk;have HB:=zo ho HB Lgb;have Kgo:=zl ho Kgo (by have:=M2.out;omega);obtain ⟨b0,b1,b2,b3,b4,b5,b6⟩:=zz7 Kgb.out;clear hk ho))
  | ((with_reducible refine gate_store (t:=59) (p:=2) (v:=.tmp 23) rfl ?_);go_must (refine zs 59 (.tmp 2) (.tmp 23) go 0 59 [.int .u8 kd,.string (cutS 80 key),.string data,.int .u64 id,.int .i64 n,.int .i64 q,.slice A m c] Kgo (by kernel_rfl) ?_;intro w7 hk ho;have HB:=zo ho HB Lgo;obtain ⟨z0,z1,z2,z3,z4,z5,z6⟩:=zz7 hk.out;clear hk ho)))
 refine bodyPost_ret (v:=.agg #[.int .u8 kd,.string (cutS 80 key),.string data,.int .u64 id,.int .i64 n,.int .i64 q,.slice A m c]) (by simp [results,Tryz.results22,go_sem,z0,z1,z2,z3,z4,z5,z6]) rfl ?_
 exact ⟨rfl,HB.out⟩
theorem cut_10 (kd id n q : Int) (key data : ByteArray) (A : Option Addr) (m c : Nat) (w : World) (hm : m ≤ c) (hd : 2001 < data.size) (hp : m ≤ 40) :
  Calls Tryz.prog 22 #[.agg #[.int .u8 kd,.string key,.string data,.int .u64 id,.int .i64 n,.int .i64 q,.slice A m c]] w fun e w'=>e = .returned (.agg #[.int .u8 kd,.string (cutS 80 key),.string (data.extract 0 2001),.int .u64 id,.int .i64 n,.int .i64 q,.slice A m c]) ∧ Below w.heap.size w w':=by
 have HF:=zh (fun (W : World)=>cellarerlaw01_Few.calls key _ W (few_cut key))
 have d0 : decide ((2001 : Int) < (data.size : Int)) = true:=decide_eq_true (by omega)
 have d1 : decide ((data.size : Int) > 2001) = true:=decide_eq_true (by omega)
 have d2 : 2001 < data.size:=by omega
 have p0 : decide ((40 : Int) < (m : Int)) = false:=decide_eq_false (by omega)
 have p1 : decide ((m : Int) > 40) = false:=decide_eq_false (by omega)
 have p2 : ¬ 40 < m:=by omega
 have HB:=zh (Below.refl w.heap.size w)
 have l1 : 2001 ≤ data.size:=by omega
 have l2 : True:=trivial
 have l3 : True:=trivial
 go_enter Tryz.func22,Tryz.ntmps22
 go_wp2_with (first
  | ((with_reducible refine gate_dst (N:=1) rfl ?_);go_must (refine zx HB (N:=1) (cs:=#[.int .u8 kd,.string key,.string data,.int .u64 id,.int .i64 n,.int .i64 q,.slice A m c]) (t:=59) ?hr ?_;(case hr=>first | (go_simp;done) | (go_simp;rfl));intro gb w1 Kgb Lgb HB hbelgb hqgb;clear hbelgb hqgb))
  | ((with_reducible refine gate_dst (N:=2) rfl ?_);go_must (refine zx HB (N:=2) (cs:=#[.int .u8 0,.string ⟨#[]⟩,.string ⟨#[]⟩,.int .u64 0,.int .i64 0,.int .i64 0,.slice none 0 0]) (t:=59) ?hr ?_;(case hr=>first | (go_simp;done) | (go_simp;rfl));intro go w2 Kgo Lgo HB hbelgo hqgo;have M2:=zh (show gb < go by rw [hqgo];exact blk_lt Kgb.out);have Kgb:=zk Kgb hbelgo;obtain ⟨a0,a1,a2,a3,a4,a5,a6⟩:=zz7 Kgb.out;clear hbelgo hqgo))
  | (go_at_call 11;go_must (refine (HF.out _).mono ?_;rintro e w3 ⟨rfl,hb⟩;have hb:=outD hb;have HB:=keepB HB hb;have Kgb:=zk Kgb hb;have Kgo:=zk Kgo hb;clear hb a0 a1 a2 a3 a4 a5 a6))
  | ((with_reducible refine gate_store (t:=9) (p:=6) (v:=.tmp 5) rfl ?_);go_must (refine zq 9 (.tmp 6) (.tmp 5) gb 1 59 (.string (cutS 80 key)) Kgb (by kernel_rfl) ?_;intro w4 hk ho;have Kgb : Hid (w4.heap[gb]? = some (.cells #[.int .u8 kd,.string (cutS 80 key),.string data,.int .u64 id,.int .i64 n,.int .i64 q,.slice A m c] 59 (0,0))):=hk;have HB:=zo ho HB Lgb;have Kgo:=zl ho Kgo (by have:=M2.out;omega);obtain ⟨b0,b1,b2,b3,b4,b5,b6⟩:=zz7 Kgb.out;clear hk ho))
  | ((with_reducible refine gate_store (t:=9) (p:=14) (v:=.tmp 13) rfl ?_);go_must (refine zq 9 (.tmp 14) (.tmp 13) gb 2 59 (.string (data.extract 0 2001)) Kgb (by kernel_rfl) ?_;intro w5 hk ho;have Kgb : Hid (w5.heap[gb]? = some (.cells #[.int .u8 kd,.string (cutS 80 key),.string (data.extract 0 2001),.int .u64 id,.int .i64 n,.int .i64 q,.slice A m c] 59 (0,0))):=hk;have HB:=zo ho HB Lgb;have Kgo:=zl ho Kgo (by have:=M2.out;omega);clear b0 b1 b2 b3 b4 b5 b6;obtain ⟨b0,b1,b2,b3,b4,b5,b6⟩:=zz7 Kgb.out;clear hk ho))
  | ((with_reducible refine gate_store (t:=59) (p:=2) (v:=.tmp 23) rfl ?_);go_must (refine zs 59 (.tmp 2) (.tmp 23) go 0 59 [.int .u8 kd,.string (cutS 80 key),.string (data.extract 0 2001),.int .u64 id,.int .i64 n,.int .i64 q,.slice A m c] Kgo (by kernel_rfl) ?_;intro w7 hk ho;have HB:=zo ho HB Lgo;obtain ⟨z0,z1,z2,z3,z4,z5,z6⟩:=zz7 hk.out;clear hk ho)))
 refine bodyPost_ret (v:=.agg #[.int .u8 kd,.string (cutS 80 key),.string (data.extract 0 2001),.int .u64 id,.int .i64 n,.int .i64 q,.slice A m c]) (by simp [results,Tryz.results22,go_sem,z0,z1,z2,z3,z4,z5,z6]) rfl ?_
 exact ⟨rfl,HB.out⟩
theorem cut_01 (kd id n q : Int) (key data : ByteArray) (A : Option Addr) (m c : Nat) (w : World) (hm : m ≤ c) (hd : data.size ≤ 2001) (hp : 40 < m) :
  Calls Tryz.prog 22 #[.agg #[.int .u8 kd,.string key,.string data,.int .u64 id,.int .i64 n,.int .i64 q,.slice A m c]] w fun e w'=>e = .returned (.agg #[.int .u8 kd,.string (cutS 80 key),.string data,.int .u64 id,.int .i64 n,.int .i64 q,.slice A 40 c]) ∧ Below w.heap.size w w':=by
 have HF:=zh (fun (W : World)=>cellarerlaw01_Few.calls key _ W (few_cut key))
 have d0 : decide ((2001 : Int) < (data.size : Int)) = false:=decide_eq_false (by omega)
 have d1 : decide ((data.size : Int) > 2001) = false:=decide_eq_false (by omega)
 have d2 : ¬ 2001 < data.size:=by omega
 have p0 : decide ((40 : Int) < (m : Int)) = true:=decide_eq_true (by omega)
 have p1 : decide ((m : Int) > 40) = true:=decide_eq_true (by omega)
 have p2 : 40 < m:=by omega
 have HB:=zh (Below.refl w.heap.size w)
 have l1 : True:=trivial
 have l2 : 40 ≤ c:=by omega
 have l3 : 40 ≤ m:=by omega
 go_enter Tryz.func22,Tryz.ntmps22
 go_wp2_with (first
  | ((with_reducible refine gate_dst (N:=1) rfl ?_);go_must (refine zx HB (N:=1) (cs:=#[.int .u8 kd,.string key,.string data,.int .u64 id,.int .i64 n,.int .i64 q,.slice A m c]) (t:=59) ?hr ?_;(case hr=>first | (go_simp;done) | (go_simp;rfl));intro gb w1 Kgb Lgb HB hbelgb hqgb;clear hbelgb hqgb))
  | ((with_reducible refine gate_dst (N:=2) rfl ?_);go_must (refine zx HB (N:=2) (cs:=#[.int .u8 0,.string ⟨#[]⟩,.string ⟨#[]⟩,.int .u64 0,.int .i64 0,.int .i64 0,.slice none 0 0]) (t:=59) ?hr ?_;(case hr=>first | (go_simp;done) | (go_simp;rfl));intro go w2 Kgo Lgo HB hbelgo hqgo;have M2:=zh (show gb < go by rw [hqgo];exact blk_lt Kgb.out);have Kgb:=zk Kgb hbelgo;obtain ⟨a0,a1,a2,a3,a4,a5,a6⟩:=zz7 Kgb.out;clear hbelgo hqgo))
  | (go_at_call 11;go_must (refine (HF.out _).mono ?_;rintro e w3 ⟨rfl,hb⟩;have hb:=outD hb;have HB:=keepB HB hb;have Kgb:=zk Kgb hb;have Kgo:=zk Kgo hb;clear hb a0 a1 a2 a3 a4 a5 a6))
  | ((with_reducible refine gate_store (t:=9) (p:=6) (v:=.tmp 5) rfl ?_);go_must (refine zq 9 (.tmp 6) (.tmp 5) gb 1 59 (.string (cutS 80 key)) Kgb (by kernel_rfl) ?_;intro w4 hk ho;have Kgb : Hid (w4.heap[gb]? = some (.cells #[.int .u8 kd,.string (cutS 80 key),.string data,.int .u64 id,.int .i64 n,.int .i64 q,.slice A m c] 59 (0,0))):=hk;have HB:=zo ho HB Lgb;have Kgo:=zl ho Kgo (by have:=M2.out;omega);obtain ⟨b0,b1,b2,b3,b4,b5,b6⟩:=zz7 Kgb.out;clear hk ho))
  | ((with_reducible refine gate_store (t:=35) (p:=22) (v:=.tmp 21) rfl ?_);go_must (refine zq 35 (.tmp 22) (.tmp 21) gb 6 59 (.slice A 40 c) Kgb (by kernel_rfl) ?_;intro w6 hk ho;have Kgb : Hid (w6.heap[gb]? = some (.cells #[.int .u8 kd,.string (cutS 80 key),.string data,.int .u64 id,.int .i64 n,.int .i64 q,.slice A 40 c] 59 (0,0))):=hk;have HB:=zo ho HB Lgb;have Kgo:=zl ho Kgo (by have:=M2.out;omega);clear b0 b1 b2 b3 b4 b5 b6;obtain ⟨b0,b1,b2,b3,b4,b5,b6⟩:=zz7 Kgb.out;clear hk ho))
  | ((with_reducible refine gate_store (t:=59) (p:=2) (v:=.tmp 23) rfl ?_);go_must (refine zs 59 (.tmp 2) (.tmp 23) go 0 59 [.int .u8 kd,.string (cutS 80 key),.string data,.int .u64 id,.int .i64 n,.int .i64 q,.slice A 40 c] Kgo (by kernel_rfl) ?_;intro w7 hk ho;have HB:=zo ho HB Lgo;obtain ⟨z0,z1,z2,z3,z4,z5,z6⟩:=zz7 hk.out;clear hk ho)))
 refine bodyPost_ret (v:=.agg #[.int .u8 kd,.string (cutS 80 key),.string data,.int .u64 id,.int .i64 n,.int .i64 q,.slice A 40 c]) (by simp [results,Tryz.results22,go_sem,z0,z1,z2,z3,z4,z5,z6]) rfl ?_
 exact ⟨rfl,HB.out⟩
theorem cut_11 (kd id n q : Int) (key data : ByteArray) (A : Option Addr) (m c : Nat) (w : World) (hm : m ≤ c) (hd : 2001 < data.size) (hp : 40 < m) :
  Calls Tryz.prog 22 #[.agg #[.int .u8 kd,.string key,.string data,.int .u64 id,.int .i64 n,.int .i64 q,.slice A m c]] w fun e w'=>e = .returned (.agg #[.int .u8 kd,.string (cutS 80 key),.string (data.extract 0 2001),.int .u64 id,.int .i64 n,.int .i64 q,.slice A 40 c]) ∧ Below w.heap.size w w':=by
 have HF:=zh (fun (W : World)=>cellarerlaw01_Few.calls key _ W (few_cut key))
 have d0 : decide ((2001 : Int) < (data.size : Int)) = true:=decide_eq_true (by omega)
 have d1 : decide ((data.size : Int) > 2001) = true:=decide_eq_true (by omega)
 have d2 : 2001 < data.size:=by omega
 have p0 : decide ((40 : Int) < (m : Int)) = true:=decide_eq_true (by omega)
 have p1 : decide ((m : Int) > 40) = true:=decide_eq_true (by omega)
 have p2 : 40 < m:=by omega
 have HB:=zh (Below.refl w.heap.size w)
 have l1 : 2001 ≤ data.size:=by omega
 have l2 : 40 ≤ c:=by omega
 have l3 : 40 ≤ m:=by omega
 go_enter Tryz.func22,Tryz.ntmps22
 go_wp2_with (first
  | ((with_reducible refine gate_dst (N:=1) rfl ?_);go_must (refine zx HB (N:=1) (cs:=#[.int .u8 kd,.string key,.string data,.int .u64 id,.int .i64 n,.int .i64 q,.slice A m c]) (t:=59) ?hr ?_;(case hr=>first | (go_simp;done) | (go_simp;rfl));intro gb w1 Kgb Lgb HB hbelgb hqgb;clear hbelgb hqgb))
  | ((with_reducible refine gate_dst (N:=2) rfl ?_);go_must (refine zx HB (N:=2) (cs:=#[.int .u8 0,.string ⟨#[]⟩,.string ⟨#[]⟩,.int .u64 0,.int .i64 0,.int .i64 0,.slice none 0 0]) (t:=59) ?hr ?_;(case hr=>first | (go_simp;done) | (go_simp;rfl));intro go w2 Kgo Lgo HB hbelgo hqgo;have M2:=zh (show gb < go by rw [hqgo];exact blk_lt Kgb.out);have Kgb:=zk Kgb hbelgo;obtain ⟨a0,a1,a2,a3,a4,a5,a6⟩:=zz7 Kgb.out;clear hbelgo hqgo))
  | (go_at_call 11;go_must (refine (HF.out _).mono ?_;rintro e w3 ⟨rfl,hb⟩;have hb:=outD hb;have HB:=keepB HB hb;have Kgb:=zk Kgb hb;have Kgo:=zk Kgo hb;clear hb a0 a1 a2 a3 a4 a5 a6))
  | ((with_reducible refine gate_store (t:=9) (p:=6) (v:=.tmp 5) rfl ?_);go_must (refine zq 9 (.tmp 6) (.tmp 5) gb 1 59 (.string (cutS 80 key)) Kgb (by kernel_rfl) ?_;intro w4 hk ho;have Kgb : Hid (w4.heap[gb]? = some (.cells #[.int .u8 kd,.string (cutS 80 key),.string data,.int .u64 id,.int .i64 n,.int .i64 q,.slice A m c] 59 (0,0))):=hk;have HB:=zo ho HB Lgb;have Kgo:=zl ho Kgo (by have:=M2.out;omega);obtain ⟨b0,b1,b2,b3,b4,b5,b6⟩:=zz7 Kgb.out;clear hk ho))
  | ((with_reducible refine gate_store (t:=9) (p:=14) (v:=.tmp 13) rfl ?_);go_must (refine zq 9 (.tmp 14) (.tmp 13) gb 2 59 (.string (data.extract 0 2001)) Kgb (by kernel_rfl) ?_;intro w5 hk ho;have Kgb : Hid (w5.heap[gb]? = some (.cells #[.int .u8 kd,.string (cutS 80 key),.string (data.extract 0 2001),.int .u64 id,.int .i64 n,.int .i64 q,.slice A m c] 59 (0,0))):=hk;have HB:=zo ho HB Lgb;have Kgo:=zl ho Kgo (by have:=M2.out;omega);clear b0 b1 b2 b3 b4 b5 b6;obtain ⟨b0,b1,b2,b3,b4,b5,b6⟩:=zz7 Kgb.out;clear hk ho))
  | ((with_reducible refine gate_store (t:=35) (p:=22) (v:=.tmp 21) rfl ?_);go_must (refine zq 35 (.tmp 22) (.tmp 21) gb 6 59 (.slice A 40 c) Kgb (by kernel_rfl) ?_;intro w6 hk ho;have Kgb : Hid (w6.heap[gb]? = some (.cells #[.int .u8 kd,.string (cutS 80 key),.string (data.extract 0 2001),.int .u64 id,.int .i64 n,.int .i64 q,.slice A 40 c] 59 (0,0))):=hk;have HB:=zo ho HB Lgb;have Kgo:=zl ho Kgo (by have:=M2.out;omega);clear b0 b1 b2 b3 b4 b5 b6;obtain ⟨b0,b1,b2,b3,b4,b5,b6⟩:=zz7 Kgb.out;clear hk ho))
  | ((with_reducible refine gate_store (t:=59) (p:=2) (v:=.tmp 23) rfl ?_);go_must (refine zs 59 (.tmp 2) (.tmp 23) go 0 59 [.int .u8 kd,.string (cutS 80 key),.string (data.extract 0 2001),.int .u64 id,.int .i64 n,.int .i64 q,.slice A 40 c] Kgo (by kernel_rfl) ?_;intro w7 hk ho;have HB:=zo ho HB Lgo;obtain ⟨z0,z1,z2,z3,z4,z5,z6⟩:=zz7 hk.out;clear hk ho)))
 refine bodyPost_ret (v:=.agg #[.int .u8 kd,.string (cutS 80 key),.string (data.extract 0 2001),.int .u64 id,.int .i64 n,.int .i64 q,.slice A 40 c]) (by simp [results,Tryz.results22,go_sem,z0,z1,z2,z3,z4,z5,z6]) rfl ?_
 exact ⟨rfl,HB.out⟩
theorem cut.walk (kd id n q : Int) (key data : ByteArray) (A : Option Addr) (ps : List S43) (c : Nat) (w : World) (hm : ps.length ≤ c) :
  Calls Tryz.prog 22 #[.agg #[.int .u8 kd,.string key,.string data,.int .u64 id,.int .i64 n,.int .i64 q,.slice A ps.length c]] w fun e w'=>e = .returned (.agg #[.int .u8 kd,.string (cutS 80 key),.string (cutS 2001 data),.int .u64 id,.int .i64 n,.int .i64 q,.slice A (ps.take 40).length c]) ∧ Below w.heap.size w w':=by
 by_cases hd : 2001 < data.size
 ·have e1 : cutS 2001 data = data.extract 0 2001:=by unfold cutS;rw [if_pos hd]
  by_cases hp : 40 < ps.length
  ·have e2 : (ps.take 40).length = 40:=by rw [List.length_take];omega
   rw [e1,e2];exact cut_11 kd id n q key data A ps.length c w hm hd hp
  ·have e2 : (ps.take 40).length = ps.length:=by rw [List.length_take];omega
   rw [e1,e2];exact cut_10 kd id n q key data A ps.length c w hm hd (by omega)
 ·have e1 : cutS 2001 data = data:=by unfold cutS;rw [if_neg hd]
  by_cases hp : 40 < ps.length
  ·have e2 : (ps.take 40).length = 40:=by rw [List.length_take];omega
   rw [e1,e2];exact cut_01 kd id n q key data A ps.length c w hm (by omega) hp
  ·have e2 : (ps.take 40).length = ps.length:=by rw [List.length_take];omega
   rw [e1,e2];exact cut_00 kd id n q key data A ps.length c w hm (by omega) (by omega)
end
section
open Go.WideMaps Go.Maps
def DidLike (cs : Array Value) : Prop:=∃ (s : ByteArray) (i : Int) (A2 : Option Addr) (n2 c2 : Nat) (A3 : Option Addr) (n3 c3 : Nat) (l d : Int) (x : ByteArray) (e : Int),cs = #[.string s,.int .i64 i,.slice A2 n2 c2,.slice A3 n3 c3,.int .u64 l,.int .u64 d,.string x,.int .i64 e]
section
variable {w w1 : World} {g : Nat} {cs : Array Value} {t : TypeId} {fr : Nat × Nat} {A : Option Addr} {n : Nat}
theorem didV {l : List S47} (h : Kd.C k47 w A n l) (hg : w.heap[g]? = some (.cells cs t fr)) (hw : DidLike cs) (ho : Only g w w1) : Kd.C k47 w1 A n l :=
 C_sep h hg ho (fun x c o hk hc=>by
  obtain rfl:=k47_open hk
  obtain ⟨_,_,_,_,_,_,_,_,_,_,_,_,rfl⟩:=hw
  have h2:=hc 2 _ rfl
  rcases o with _ | _ | _ | _ | _ | _ | o <;> simp at h2) (fun x c hk=>by obtain rfl:=k47_open hk;exact k47_mk w1 x)
theorem didPt {l : List S40} (h : Kd.C k40 w A n l) (hg : w.heap[g]? = some (.cells cs t fr)) (hw : DidLike cs) (ho : Only g w w1) : Kd.C k40 w1 A n l :=
 C_sep h hg ho (fun x c o hk hc=>by
  obtain rfl:=k40_open hk
  obtain ⟨_,_,_,_,_,_,_,_,_,_,_,_,rfl⟩:=hw
  have h0:=hc 0 _ rfl
  have h1:=hc 1 _ rfl
  rcases o with _ | _ | _ | _ | _ | _ | _ | _ | o <;> simp at h0 h1) (fun x c hk=>by obtain rfl:=k40_open hk;exact k40_mk w1 x)
theorem didE {l : List S56} (h : Kd.C k56 w A n l) (hg : w.heap[g]? = some (.cells cs t fr)) (hw : DidLike cs) (ho : Only g w w1) : Kd.C k56 w1 A n l :=
 C_sep h hg ho (fun x c o hk hc=>by
  obtain ⟨A1,c1,rfl,_,_⟩:=k56_open hk
  obtain ⟨_,_,_,_,_,_,_,_,_,_,_,_,rfl⟩:=hw
  have h0:=hc 0 _ rfl
  have h1:=hc 1 _ rfl
  rcases o with _ | _ | _ | _ | _ | _ | _ | _ | o <;> simp at h0 h1) (fun x c hk=>by obtain ⟨A1,c1,rfl,h1,h2⟩:=k56_open hk;exact k56_mk w1 x h1 (didV h2 hg hw ho))
theorem didU {l : List S101} (h : Kd.C k101 w A n l) (hg : w.heap[g]? = some (.cells cs t fr)) (hw : DidLike cs) (ho : Only g w w1) : Kd.C k101 w1 A n l :=
 C_sep h hg ho (fun x c o hk hc=>by
  obtain ⟨A1,c1,rfl,_,_⟩:=k101_open hk
  obtain ⟨_,_,_,_,_,_,_,_,_,_,_,_,rfl⟩:=hw
  have h1:=hc 1 _ rfl
  have h2:=hc 2 _ rfl
  rcases o with _ | _ | _ | _ | _ | _ | _ | o <;> simp at h1 h2) (fun x c hk=>by obtain ⟨A1,c1,rfl,h1,h2⟩:=k101_open hk;exact k101_mk w1 x h1 (didPt h2 hg hw ho))
end
end
section
open Go.WideMaps Go.Maps
attribute [local go_sem] Oper.semAt_some
def DoPost (x : S26) (id : Int) (tg : ByteArray) (er : Int) (w : World) (e : Ending) (w' : World) : Prop :=
 ∃ A5 c5 A6 c6,e = .returned (.agg #[.string x.f0,.int .i64 x.f1,.slice A5 x.f2.length c5,.slice A6 x.f3.length c6,.int .u64 x.f4,.int .u64 id,.string tg,.int .i64 er]) ∧ x.f2.length ≤ c5 ∧ x.f3.length ≤ c6 ∧ Kd.C k56 w' A5 x.f2.length x.f2 ∧ Kd.C k101 w' A6 x.f3.length x.f3 ∧ Below w.heap.size w w'
theorem did_like (s : ByteArray) (i : Int) (A2 : Option Addr) (n2 c2 : Nat) (A3 : Option Addr) (n3 c3 : Nat) (l d : Int) (x : ByteArray) (e : Int) : DidLike #[.string s,.int .i64 i,.slice A2 n2 c2,.slice A3 n3 c3,.int .u64 l,.int .u64 d,.string x,.int .i64 e]:=⟨s,i,A2,n2,c2,A3,n3,c3,l,d,x,e,rfl⟩
theorem do_put0 (b : S26) (A2 A3 : Option Addr) (c2 c3 : Nat) (kd id n q : Int) (key data : ByteArray) (A : Option Addr) (ps : List S43) (c : Nat) (w : World) (h2 : Kd.C k56 w A2 b.f2.length b.f2) (g2 : b.f2.length ≤ c2) (h3 : Kd.C k101 w A3 b.f3.length b.f3) (g3 : b.f3.length ≤ c3) (hk : Int.tmod kd 9 = 0) :
  Calls Tryz.prog 23 #[.agg #[.string b.f0,.int .i64 b.f1,.slice A2 b.f2.length c2,.slice A3 b.f3.length c3,.int .u64 b.f4],.agg #[.int .u8 kd,.string key,.string data,.int .u64 id,.int .i64 n,.int .i64 q,.slice A ps.length c]] w (DoPost (laidR b key (fun l id=>putV l b.f1 ⟨id,data,false,q⟩)).1 (laidR b key (fun l id=>putV l b.f1 ⟨id,data,false,q⟩)).2.1 ⟨#[]⟩ (laidR b key (fun l id=>putV l b.f1 ⟨id,data,false,q⟩)).2.2 w):=by
 have HC:=zh (fun (W : World) (h : Below w.heap.size w W)=>putB.walk b A2 A3 c2 c3 key data q W (Kd.C_below h2 h) g2 (Kd.C_below h3 h) g3)
 generalize laidR b key (fun l id=>putV l b.f1 ⟨id,data,false,q⟩) = r at *
 obtain ⟨kb,li,er⟩:=r
 have HB:=zh (Below.refl w.heap.size w)
 have kf : ∀ j : Int,(Int.tmod kd 9 == j) = ((0 : Int) == j):=fun j=>by rw [hk]
 have e0 : (Int.tmod kd 9 == 0) = true:=kf 0
 have e1 : (Int.tmod kd 9 == 1) = false:=kf 1
 have e2 : (Int.tmod kd 9 == 2) = false:=kf 2
 have e3 : (Int.tmod kd 9 == 3) = false:=kf 3
 have e4 : (Int.tmod kd 9 == 4) = false:=kf 4
 have e5 : (Int.tmod kd 9 == 5) = false:=kf 5
 have e6 : (Int.tmod kd 9 == 6) = false:=kf 6
 have e7 : (Int.tmod kd 9 == 7) = false:=kf 7
 clear h2 h3 g2 g3 kf hk
 go_enter Tryz.func23,Tryz.ntmps23
 go_wp2_with (first
  | ((with_reducible refine gate_dst (N:=2) rfl ?_);go_must (refine zx HB (N:=2) (cs:=#[.string b.f0,.int .i64 b.f1,.slice A2 b.f2.length c2,.slice A3 b.f3.length c3,.int .u64 b.f4]) (t:=26) ?hr ?_;(case hr=>first | (go_simp;done) | (go_simp;rfl));intro gb w1 Kgb Lgb HB hbelgb hqgb;clear hbelgb hqgb))
  | ((with_reducible refine gate_dst (N:=3) rfl ?_);go_must (refine zx HB (N:=3) (cs:=#[.int .u8 kd,.string key,.string data,.int .u64 id,.int .i64 n,.int .i64 q,.slice A ps.length c]) (t:=59) ?hr ?_;(case hr=>first | (go_simp;done) | (go_simp;rfl));intro ga w2 Kga Lga HB hbelga hqga;have M1:=zh (show gb < ga by rw [hqga];exact blk_lt Kgb.out);have Kgb:=zk Kgb hbelga;clear hbelga hqga))
  | ((with_reducible refine gate_dst (N:=4) rfl ?_);go_must (refine zx HB (N:=4) (cs:=#[.string ⟨#[]⟩,.int .i64 0,.slice none 0 0,.slice none 0 0,.int .u64 0,.int .u64 0,.string ⟨#[]⟩,.int .i64 0]) (t:=62) ?hr ?_;(case hr=>first | (go_simp;done) | (go_simp;rfl));intro go w3 Kgo Lgo HB hbelgo hqgo;have M2:=zh (show ga < go by rw [hqgo];exact blk_lt Kga.out);have Kgb:=zk Kgb hbelgo;have Kga:=zk Kga hbelgo;clear hbelgo hqgo))
  | ((with_reducible refine gate_dst (N:=5) rfl ?_);go_must (refine zx HB (N:=5) (cs:=#[.string ⟨#[]⟩,.int .i64 0,.slice none 0 0,.slice none 0 0,.int .u64 0,.int .u64 0,.string ⟨#[]⟩,.int .i64 0]) (t:=62) ?hr ?_;(case hr=>first | (go_simp;done) | (go_simp;rfl));intro gd w4 Kgd Lgd HB hbelgd hqgd;have M3:=zh (show go < gd by rw [hqgd];exact blk_lt Kgo.out);have Kgb:=zk Kgb hbelgd;have Kga:=zk Kga hbelgd;have Kgo:=zk Kgo hbelgd;clear hbelgd hqgd))
  | ((with_reducible refine gate_store (t:=62) (p:=5) (v:=.tmp 9) rfl ?_);go_must (refine zs 62 (.tmp 5) (.tmp 9) gd 0 62 [.string ⟨#[]⟩,.int .i64 0,.slice none 0 0,.slice none 0 0,.int .u64 0,.int .u64 0,.string ⟨#[]⟩,.int .i64 0] Kgd (by kernel_rfl) ?_;intro w5 hk ho;have Kgd : Hid (w5.heap[gd]? = some (.cells #[.string ⟨#[]⟩,.int .i64 0,.slice none 0 0,.slice none 0 0,.int .u64 0,.int .u64 0,.string ⟨#[]⟩,.int .i64 0] 62 (0,0))):=hk;have HB:=zo ho HB Lgd;have Kgb:=zl ho Kgb (by have:=M1.out;have:=M2.out;have:=M3.out;omega);have Kga:=zl ho Kga (by have:=M1.out;have:=M2.out;have:=M3.out;omega);have Kgo:=zl ho Kgo (by have:=M1.out;have:=M2.out;have:=M3.out;omega);obtain ⟨a0,a1,a2,a3,a4⟩:=zz5 Kgb.out;obtain ⟨b0,b1,b2,b3,b4,b5,b6⟩:=zz7 Kga.out;clear hk ho))
  | (go_at_call 19;go_must (refine (HC.out _ HB.out).mono ?_;rintro e w6 ⟨v,rfl,⟨A5,c5,A6,c6,rfl,y1,y2,y3,y4⟩,hb⟩;have Y3:=zh y3;have Y4:=zh y4;have HB:=keepB HB hb;have Kgo:=zk Kgo hb;have Kgd:=zk Kgd hb;clear hb y3 y4 a0 a1 a2 a3 a4 b0 b1 b2 b3 b4 b5 b6))
  | ((with_reducible refine gate_store (t:=26) (p:=45) (v:=.tmp 42) rfl ?_);go_must (refine zs 26 (.tmp 45) (.tmp 42) gd 0 62 [.string kb.f0,.int .i64 kb.f1,.slice A5 kb.f2.length c5,.slice A6 kb.f3.length c6,.int .u64 kb.f4] Kgd isz_bucket ?_;intro x0 hk ho;have Y3:=zh (didE Y3.out Kgd.out (did_like _ _ _ _ _ _ _ _ _ _ _ _) ho.out);have Y4:=zh (didU Y4.out Kgd.out (did_like _ _ _ _ _ _ _ _ _ _ _ _) ho.out);have Kgd : Hid (x0.heap[gd]? = some (.cells #[.string kb.f0,.int .i64 kb.f1,.slice A5 kb.f2.length c5,.slice A6 kb.f3.length c6,.int .u64 kb.f4,.int .u64 0,.string ⟨#[]⟩,.int .i64 0] 62 (0,0))):=hk;have HB:=zo ho HB Lgd;have Kgo:=zl ho Kgo (by have:=M3.out;omega);clear hk ho))
  | ((with_reducible refine gate_store (t:=24) (p:=46) (v:=.tmp 43) rfl ?_);go_must (refine zq 24 (.tmp 46) (.tmp 43) gd 5 62 (.int .u64 li) Kgd (by kernel_rfl) ?_;intro x1 hk ho;have Y3:=zh (didE Y3.out Kgd.out (did_like _ _ _ _ _ _ _ _ _ _ _ _) ho.out);have Y4:=zh (didU Y4.out Kgd.out (did_like _ _ _ _ _ _ _ _ _ _ _ _) ho.out);have Kgd : Hid (x1.heap[gd]? = some (.cells #[.string kb.f0,.int .i64 kb.f1,.slice A5 kb.f2.length c5,.slice A6 kb.f3.length c6,.int .u64 kb.f4,.int .u64 li,.string ⟨#[]⟩,.int .i64 0] 62 (0,0))):=hk;have HB:=zo ho HB Lgd;have Kgo:=zl ho Kgo (by have:=M3.out;omega);clear hk ho))
  | ((with_reducible refine gate_store (t:=30) (p:=47) (v:=.tmp 44) rfl ?_);go_must (refine zq 30 (.tmp 47) (.tmp 44) gd 7 62 (.int .i64 er) Kgd (by kernel_rfl) ?_;intro x2 hk ho;have Y3:=zh (didE Y3.out Kgd.out (did_like _ _ _ _ _ _ _ _ _ _ _ _) ho.out);have Y4:=zh (didU Y4.out Kgd.out (did_like _ _ _ _ _ _ _ _ _ _ _ _) ho.out);have Kgd : Hid (x2.heap[gd]? = some (.cells #[.string kb.f0,.int .i64 kb.f1,.slice A5 kb.f2.length c5,.slice A6 kb.f3.length c6,.int .u64 kb.f4,.int .u64 li,.string ⟨#[]⟩,.int .i64 er] 62 (0,0))):=hk;have HB:=zo ho HB Lgd;have Kgo:=zl ho Kgo (by have:=M3.out;omega);obtain ⟨d0,d1,d2,d3,d4,d5,d6,d7⟩:=zz8 Kgd.out;clear hk ho))
  | ((with_reducible refine gate_store (t:=62) (p:=4) (v:=.tmp 133) rfl ?_);go_must (refine zs 62 (.tmp 4) (.tmp 133) go 0 62 [.string kb.f0,.int .i64 kb.f1,.slice A5 kb.f2.length c5,.slice A6 kb.f3.length c6,.int .u64 kb.f4,.int .u64 li,.string ⟨#[]⟩,.int .i64 er] Kgo (by kernel_rfl) ?_;intro x9 hk ho;have Y3:=zh (didE Y3.out Kgo.out (did_like _ _ _ _ _ _ _ _ _ _ _ _) ho.out);have Y4:=zh (didU Y4.out Kgo.out (did_like _ _ _ _ _ _ _ _ _ _ _ _) ho.out);have HB:=zo ho HB Lgo;obtain ⟨z0,z1,z2,z3,z4,z5,z6,z7⟩:=zz8 hk.out;clear hk ho)))
 refine bodyPost_ret (v:=.agg #[.string kb.f0,.int .i64 kb.f1,.slice A5 kb.f2.length c5,.slice A6 kb.f3.length c6,.int .u64 kb.f4,.int .u64 li,.string ⟨#[]⟩,.int .i64 er]) (by simp [results,Tryz.results23,go_sem,z0,z1,z2,z3,z4,z5,z6,z7]) rfl ?_
 exact ⟨A5,c5,A6,c6,rfl,y1,y2,Y3.out,Y4.out,HB.out⟩
theorem do_put1 (b : S26) (A2 A3 : Option Addr) (c2 c3 : Nat) (kd id n q : Int) (key data : ByteArray) (A : Option Addr) (ps : List S43) (c : Nat) (w : World) (h2 : Kd.C k56 w A2 b.f2.length b.f2) (g2 : b.f2.length ≤ c2) (h3 : Kd.C k101 w A3 b.f3.length b.f3) (g3 : b.f3.length ≤ c3) (hk : Int.tmod kd 9 = 1) :
  Calls Tryz.prog 23 #[.agg #[.string b.f0,.int .i64 b.f1,.slice A2 b.f2.length c2,.slice A3 b.f3.length c3,.int .u64 b.f4],.agg #[.int .u8 kd,.string key,.string data,.int .u64 id,.int .i64 n,.int .i64 q,.slice A ps.length c]] w (DoPost (laidR b key (fun l id=>putV l b.f1 ⟨id,data,false,q⟩)).1 (laidR b key (fun l id=>putV l b.f1 ⟨id,data,false,q⟩)).2.1 ⟨#[]⟩ (laidR b key (fun l id=>putV l b.f1 ⟨id,data,false,q⟩)).2.2 w):=by
 have HC:=zh (fun (W : World) (h : Below w.heap.size w W)=>putB.walk b A2 A3 c2 c3 key data q W (Kd.C_below h2 h) g2 (Kd.C_below h3 h) g3)
 generalize laidR b key (fun l id=>putV l b.f1 ⟨id,data,false,q⟩) = r at *
 obtain ⟨kb,li,er⟩:=r
 have HB:=zh (Below.refl w.heap.size w)
 have kf : ∀ j : Int,(Int.tmod kd 9 == j) = ((1 : Int) == j):=fun j=>by rw [hk]
 have e0 : (Int.tmod kd 9 == 0) = false:=kf 0
 have e1 : (Int.tmod kd 9 == 1) = true:=kf 1
 have e2 : (Int.tmod kd 9 == 2) = false:=kf 2
 have e3 : (Int.tmod kd 9 == 3) = false:=kf 3
 have e4 : (Int.tmod kd 9 == 4) = false:=kf 4
 have e5 : (Int.tmod kd 9 == 5) = false:=kf 5
 have e6 : (Int.tmod kd 9 == 6) = false:=kf 6
 have e7 : (Int.tmod kd 9 == 7) = false:=kf 7
 clear h2 h3 g2 g3 kf hk
 go_enter Tryz.func23,Tryz.ntmps23
 go_wp2_with (first
  | ((with_reducible refine gate_dst (N:=2) rfl ?_);go_must (refine zx HB (N:=2) (cs:=#[.string b.f0,.int .i64 b.f1,.slice A2 b.f2.length c2,.slice A3 b.f3.length c3,.int .u64 b.f4]) (t:=26) ?hr ?_;(case hr=>first | (go_simp;done) | (go_simp;rfl));intro gb w1 Kgb Lgb HB hbelgb hqgb;clear hbelgb hqgb))
  | ((with_reducible refine gate_dst (N:=3) rfl ?_);go_must (refine zx HB (N:=3) (cs:=#[.int .u8 kd,.string key,.string data,.int .u64 id,.int .i64 n,.int .i64 q,.slice A ps.length c]) (t:=59) ?hr ?_;(case hr=>first | (go_simp;done) | (go_simp;rfl));intro ga w2 Kga Lga HB hbelga hqga;have M1:=zh (show gb < ga by rw [hqga];exact blk_lt Kgb.out);have Kgb:=zk Kgb hbelga;clear hbelga hqga))
  | ((with_reducible refine gate_dst (N:=4) rfl ?_);go_must (refine zx HB (N:=4) (cs:=#[.string ⟨#[]⟩,.int .i64 0,.slice none 0 0,.slice none 0 0,.int .u64 0,.int .u64 0,.string ⟨#[]⟩,.int .i64 0]) (t:=62) ?hr ?_;(case hr=>first | (go_simp;done) | (go_simp;rfl));intro go w3 Kgo Lgo HB hbelgo hqgo;have M2:=zh (show ga < go by rw [hqgo];exact blk_lt Kga.out);have Kgb:=zk Kgb hbelgo;have Kga:=zk Kga hbelgo;clear hbelgo hqgo))
  | ((with_reducible refine gate_dst (N:=5) rfl ?_);go_must (refine zx HB (N:=5) (cs:=#[.string ⟨#[]⟩,.int .i64 0,.slice none 0 0,.slice none 0 0,.int .u64 0,.int .u64 0,.string ⟨#[]⟩,.int .i64 0]) (t:=62) ?hr ?_;(case hr=>first | (go_simp;done) | (go_simp;rfl));intro gd w4 Kgd Lgd HB hbelgd hqgd;have M3:=zh (show go < gd by rw [hqgd];exact blk_lt Kgo.out);have Kgb:=zk Kgb hbelgd;have Kga:=zk Kga hbelgd;have Kgo:=zk Kgo hbelgd;clear hbelgd hqgd))
  | ((with_reducible refine gate_store (t:=62) (p:=5) (v:=.tmp 9) rfl ?_);go_must (refine zs 62 (.tmp 5) (.tmp 9) gd 0 62 [.string ⟨#[]⟩,.int .i64 0,.slice none 0 0,.slice none 0 0,.int .u64 0,.int .u64 0,.string ⟨#[]⟩,.int .i64 0] Kgd (by kernel_rfl) ?_;intro w5 hk ho;have Kgd : Hid (w5.heap[gd]? = some (.cells #[.string ⟨#[]⟩,.int .i64 0,.slice none 0 0,.slice none 0 0,.int .u64 0,.int .u64 0,.string ⟨#[]⟩,.int .i64 0] 62 (0,0))):=hk;have HB:=zo ho HB Lgd;have Kgb:=zl ho Kgb (by have:=M1.out;have:=M2.out;have:=M3.out;omega);have Kga:=zl ho Kga (by have:=M1.out;have:=M2.out;have:=M3.out;omega);have Kgo:=zl ho Kgo (by have:=M1.out;have:=M2.out;have:=M3.out;omega);obtain ⟨a0,a1,a2,a3,a4⟩:=zz5 Kgb.out;obtain ⟨b0,b1,b2,b3,b4,b5,b6⟩:=zz7 Kga.out;clear hk ho))
  | (go_at_call 19;go_must (refine (HC.out _ HB.out).mono ?_;rintro e w6 ⟨v,rfl,⟨A5,c5,A6,c6,rfl,y1,y2,y3,y4⟩,hb⟩;have Y3:=zh y3;have Y4:=zh y4;have HB:=keepB HB hb;have Kgo:=zk Kgo hb;have Kgd:=zk Kgd hb;clear hb y3 y4 a0 a1 a2 a3 a4 b0 b1 b2 b3 b4 b5 b6))
  | ((with_reducible refine gate_store (t:=26) (p:=45) (v:=.tmp 42) rfl ?_);go_must (refine zs 26 (.tmp 45) (.tmp 42) gd 0 62 [.string kb.f0,.int .i64 kb.f1,.slice A5 kb.f2.length c5,.slice A6 kb.f3.length c6,.int .u64 kb.f4] Kgd isz_bucket ?_;intro x0 hk ho;have Y3:=zh (didE Y3.out Kgd.out (did_like _ _ _ _ _ _ _ _ _ _ _ _) ho.out);have Y4:=zh (didU Y4.out Kgd.out (did_like _ _ _ _ _ _ _ _ _ _ _ _) ho.out);have Kgd : Hid (x0.heap[gd]? = some (.cells #[.string kb.f0,.int .i64 kb.f1,.slice A5 kb.f2.length c5,.slice A6 kb.f3.length c6,.int .u64 kb.f4,.int .u64 0,.string ⟨#[]⟩,.int .i64 0] 62 (0,0))):=hk;have HB:=zo ho HB Lgd;have Kgo:=zl ho Kgo (by have:=M3.out;omega);clear hk ho))
  | ((with_reducible refine gate_store (t:=24) (p:=46) (v:=.tmp 43) rfl ?_);go_must (refine zq 24 (.tmp 46) (.tmp 43) gd 5 62 (.int .u64 li) Kgd (by kernel_rfl) ?_;intro x1 hk ho;have Y3:=zh (didE Y3.out Kgd.out (did_like _ _ _ _ _ _ _ _ _ _ _ _) ho.out);have Y4:=zh (didU Y4.out Kgd.out (did_like _ _ _ _ _ _ _ _ _ _ _ _) ho.out);have Kgd : Hid (x1.heap[gd]? = some (.cells #[.string kb.f0,.int .i64 kb.f1,.slice A5 kb.f2.length c5,.slice A6 kb.f3.length c6,.int .u64 kb.f4,.int .u64 li,.string ⟨#[]⟩,.int .i64 0] 62 (0,0))):=hk;have HB:=zo ho HB Lgd;have Kgo:=zl ho Kgo (by have:=M3.out;omega);clear hk ho))
  | ((with_reducible refine gate_store (t:=30) (p:=47) (v:=.tmp 44) rfl ?_);go_must (refine zq 30 (.tmp 47) (.tmp 44) gd 7 62 (.int .i64 er) Kgd (by kernel_rfl) ?_;intro x2 hk ho;have Y3:=zh (didE Y3.out Kgd.out (did_like _ _ _ _ _ _ _ _ _ _ _ _) ho.out);have Y4:=zh (didU Y4.out Kgd.out (did_like _ _ _ _ _ _ _ _ _ _ _ _) ho.out);have Kgd : Hid (x2.heap[gd]? = some (.cells #[.string kb.f0,.int .i64 kb.f1,.slice A5 kb.f2.length c5,.slice A6 kb.f3.length c6,.int .u64 kb.f4,.int .u64 li,.string ⟨#[]⟩,.int .i64 er] 62 (0,0))):=hk;have HB:=zo ho HB Lgd;have Kgo:=zl ho Kgo (by have:=M3.out;omega);obtain ⟨d0,d1,d2,d3,d4,d5,d6,d7⟩:=zz8 Kgd.out;clear hk ho))
  | ((with_reducible refine gate_store (t:=62) (p:=4) (v:=.tmp 133) rfl ?_);go_must (refine zs 62 (.tmp 4) (.tmp 133) go 0 62 [.string kb.f0,.int .i64 kb.f1,.slice A5 kb.f2.length c5,.slice A6 kb.f3.length c6,.int .u64 kb.f4,.int .u64 li,.string ⟨#[]⟩,.int .i64 er] Kgo (by kernel_rfl) ?_;intro x9 hk ho;have Y3:=zh (didE Y3.out Kgo.out (did_like _ _ _ _ _ _ _ _ _ _ _ _) ho.out);have Y4:=zh (didU Y4.out Kgo.out (did_like _ _ _ _ _ _ _ _ _ _ _ _) ho.out);have HB:=zo ho HB Lgo;obtain ⟨z0,z1,z2,z3,z4,z5,z6,z7⟩:=zz8 hk.out;clear hk ho)))
 refine bodyPost_ret (v:=.agg #[.string kb.f0,.int .i64 kb.f1,.slice A5 kb.f2.length c5,.slice A6 kb.f3.length c6,.int .u64 kb.f4,.int .u64 li,.string ⟨#[]⟩,.int .i64 er]) (by simp [results,Tryz.results23,go_sem,z0,z1,z2,z3,z4,z5,z6,z7]) rfl ?_
 exact ⟨A5,c5,A6,c6,rfl,y1,y2,Y3.out,Y4.out,HB.out⟩
end
end Go.Proofs.YtekooapbdgippaaGreatDoor.Q
