/- Whatever is done at two keys of a bucket comes to the same versions either way round, wherever both go, but for the numbers that are given; whatever the input, as the row says. Part 26 of 26. -/
import Derived.Test.YtekooapbdgippaaGreatDoorBt4
import Derived.Test.YtekooapbdgippaaGreatDoorBt1
import Derived.ProofKit
import Derived.Deep.Strs
import Derived.Lib.SmallJoins
import Derived.Test.YtekooapbdgippaaGreatDoorBt3
import Derived.Maps.OwnSet
import Derived.Test.YtekooapbdgippaaGreatDoorRows
import Derived.LaidMore
import Derived.OpenShut
import Derived.Stop.Joined
namespace Go.Proofs.YtekooapbdgippaaGreatDoor.Q
open Go.RowKit Go.Proofs.YtekooapbdgippaaGreatDoorW.PrintWords Go.Proofs.YtekooapbdgippaaGreatDoorW.PrintLast Go.Proofs.YtekooapbdgippaaGreatDoorW.PrintMore
open List renaming getElem_toArray → zA, getElem_cons_zero → zB, getElem_cons_succ → zC, setIfInBounds_toArray → zD, set_cons_zero → zE, set_cons_succ → zF
set_option linter.unusedVariables false
set_option linter.unusedSimpArgs false
set_option maxHeartbeats 8000000
set_option maxRecDepth 100000
section
open Go.WideMaps Go.Maps
attribute [local go_sem] Oper.semAt_some
theorem one_P {w : World} {x : S43} {c : List Value} {g : Nat} (h : k43.K w x c) (hr : RawAt w ⟨g,0,none⟩ c) : Kd.C k43 w (some ⟨g,0,none⟩) 1 [x]:=by
 have:=rows_C (RowsOf.one_ x c h) (by simpa using hr) (by simp)
 simpa using this
theorem awake_gen (B1 B2 G B3 C D U1 U2 U3 : S26) (i6 q6 i8 q8 i13 q13 : Int) (s6 t11 : ByteArray) (m6 m8 m13 : Bool) (tg n9 n11 : Int) (h1 : laidR (⟨⟨#[98,111,120]⟩,0,[],[],0⟩ : S26) ⟨#[97]⟩ (fun l id=>putV l (⟨⟨#[98,111,120]⟩,0,[],[],0⟩ : S26).f1 ⟨id,⟨#[120]⟩,false,0⟩) = (B1,0,0)) (h2 : laidR B1 ⟨#[97]⟩ (fun l id=>putV l B1.f1 ⟨id,⟨#[121]⟩,false,0⟩) = (B2,0,0)) (h3 : laidR B2 ⟨#[97]⟩ (fun l id=>deleteV l B2.f1 id 0) = (G,0,0)) (h4 : turnB B2 1 = (B3,0)) (h5 : laidR B3 ⟨#[97]⟩ (fun l id=>deleteV l B3.f1 id 1) = (C,1,0)) (h6 : getB C ⟨#[97]⟩ = (⟨i6,s6,m6,q6⟩,13)) (h7 : dropB C ⟨#[97]⟩ 1 = (D,0)) (h8 : getB D ⟨#[97]⟩ = (⟨i8,⟨#[121]⟩,m8,q8⟩,0)) (h9 : beginB B3 ⟨#[107]⟩ = (U1,n9,0)) (h10 : layB U1 n9 ⟨1,⟨#[119,104,111,108,101]⟩⟩ = (U2,tg,0)) (h11 : wholeB U2 n9 [⟨1,tg⟩] 2 = (U3,n11,t11,0)) (h12 : getB U3 ⟨#[107]⟩ = (⟨i13,⟨#[119,104,111,108,101]⟩,m13,q13⟩,0)) (hg : G.f2.length = 0 ∧ G.f3.length = 0) (w : World) :
  Calls Tryz.prog 14 #[] w fun e w'=>e = .returned (.bool true) ∧ Below w.heap.size w w':=by
 have H0:=zh (fun (W : World)=>newB_ok ⟨#[98,111,120]⟩ W (by kernel_rfl))
 have H1 : Hid (∀ W,Calls Tryz.prog 19 #[.agg #[.string ⟨#[98,111,120]⟩,.int .i64 0,.slice none 0 0,.slice none 0 0,.int .u64 0],.string ⟨#[97]⟩,.string ⟨#[120]⟩,.int .i64 0] W (BkPost B1 [.int .u64 0,.int .i64 0] W)):=fun W=>by
  have x:=putB.walk (⟨⟨#[98,111,120]⟩,0,[],[],0⟩ : S26) none none 0 0 ⟨#[97]⟩ ⟨#[120]⟩ 0 W (C_mt _ _ _) (Nat.le_refl _) (C_mt _ _ _) (Nat.le_refl _)
  rw [h1] at x
  exact x
 have H2 : Hid (∀ (AB1 DB1 : Option Addr) (cB1 dB1 : Nat) (W : World),Kd.C k56 W AB1 B1.f2.length B1.f2 → B1.f2.length ≤ cB1 → Kd.C k101 W DB1 B1.f3.length B1.f3 → B1.f3.length ≤ dB1 → Calls Tryz.prog 19 #[.agg #[.string B1.f0,.int .i64 B1.f1,.slice AB1 B1.f2.length cB1,.slice DB1 B1.f3.length dB1,.int .u64 B1.f4],.string ⟨#[97]⟩,.string ⟨#[121]⟩,.int .i64 0] W (BkPost B2 [.int .u64 0,.int .i64 0] W)):=fun A D c d W e2 g2 e3 g3=>by
  have x:=putB.walk B1 A D c d ⟨#[97]⟩ ⟨#[121]⟩ 0 W e2 g2 e3 g3
  rw [h2] at x
  exact x
 have H3 : Hid (∀ (AB2 DB2 : Option Addr) (cB2 dB2 : Nat) (W : World),Kd.C k56 W AB2 B2.f2.length B2.f2 → B2.f2.length ≤ cB2 → Kd.C k101 W DB2 B2.f3.length B2.f3 → B2.f3.length ≤ dB2 → Calls Tryz.prog 39 #[.agg #[.string B2.f0,.int .i64 B2.f1,.slice AB2 B2.f2.length cB2,.slice DB2 B2.f3.length dB2,.int .u64 B2.f4],.string ⟨#[97]⟩,.int .i64 0] W (BkPost G [.int .u64 0,.int .i64 0] W)):=fun A D c d W e2 g2 e3 g3=>by
  have x:=delB.walk B2 A D c d ⟨#[97]⟩ 0 W e2 g2 e3 g3
  rw [h3] at x
  exact x
 have H4 : Hid (∀ (AB2 DB2 : Option Addr) (cB2 dB2 : Nat) (W : World),Kd.C k56 W AB2 B2.f2.length B2.f2 → B2.f2.length ≤ cB2 → Kd.C k101 W DB2 B2.f3.length B2.f3 → B2.f3.length ≤ dB2 → Calls Tryz.prog 27 #[.agg #[.string B2.f0,.int .i64 B2.f1,.slice AB2 B2.f2.length cB2,.slice DB2 B2.f3.length dB2,.int .u64 B2.f4],.int .i64 1] W (BkPost B3 [.int .i64 0] W)):=fun A D c d W e2 g2 e3 g3=>by
  have x:=turnB.walk B2 A D c d 1 W e2 g2 e3 g3
  rw [h4] at x
  exact x
 have H5 : Hid (∀ (AB3 DB3 : Option Addr) (cB3 dB3 : Nat) (W : World),Kd.C k56 W AB3 B3.f2.length B3.f2 → B3.f2.length ≤ cB3 → Kd.C k101 W DB3 B3.f3.length B3.f3 → B3.f3.length ≤ dB3 → Calls Tryz.prog 39 #[.agg #[.string B3.f0,.int .i64 B3.f1,.slice AB3 B3.f2.length cB3,.slice DB3 B3.f3.length dB3,.int .u64 B3.f4],.string ⟨#[97]⟩,.int .i64 1] W (BkPost C [.int .u64 1,.int .i64 0] W)):=fun A D c d W e2 g2 e3 g3=>by
  have x:=delB.walk B3 A D c d ⟨#[97]⟩ 1 W e2 g2 e3 g3
  rw [h5] at x
  exact x
 have H6 : Hid (∀ (AC DC : Option Addr) (cC dC : Nat) (W : World),Kd.C k56 W AC C.f2.length C.f2 → C.f2.length ≤ cC → Kd.C k101 W DC C.f3.length C.f3 → C.f3.length ≤ dC → Calls Tryz.prog 18 #[.agg #[.string C.f0,.int .i64 C.f1,.slice AC C.f2.length cC,.slice DC C.f3.length dC,.int .u64 C.f4],.string ⟨#[97]⟩] W (OnePost ⟨i6,s6,m6,q6⟩ 13 W)):=fun A D c d W e2 g2 e3 g3=>by
  have x:=getB.walk C A D c d ⟨#[97]⟩ W e2 g2 e3 g3
  rw [h6] at x
  exact x
 have H7 : Hid (∀ (AC DC : Option Addr) (cC dC : Nat) (W : World),Kd.C k56 W AC C.f2.length C.f2 → C.f2.length ≤ cC → Kd.C k101 W DC C.f3.length C.f3 → C.f3.length ≤ dC → Calls Tryz.prog 40 #[.agg #[.string C.f0,.int .i64 C.f1,.slice AC C.f2.length cC,.slice DC C.f3.length dC,.int .u64 C.f4],.string ⟨#[97]⟩,.int .u64 1] W (BkPost D [.int .i64 0] W)):=fun A D' c d W e2 g2 e3 g3=>by
  have x:=dropB.walk C A D' c d ⟨#[97]⟩ 1 W e2 g2 e3 g3
  rw [h7] at x
  exact x
 have H8 : Hid (∀ (AD DD : Option Addr) (cD dD : Nat) (W : World),Kd.C k56 W AD D.f2.length D.f2 → D.f2.length ≤ cD → Kd.C k101 W DD D.f3.length D.f3 → D.f3.length ≤ dD → Calls Tryz.prog 18 #[.agg #[.string D.f0,.int .i64 D.f1,.slice AD D.f2.length cD,.slice DD D.f3.length dD,.int .u64 D.f4],.string ⟨#[97]⟩] W (OnePost ⟨i8,⟨#[121]⟩,m8,q8⟩ 0 W)):=fun A D' c d W e2 g2 e3 g3=>by
  have x:=getB.walk D A D' c d ⟨#[97]⟩ W e2 g2 e3 g3
  rw [h8] at x
  exact x
 have H9 : Hid (∀ (AB3 DB3 : Option Addr) (cB3 dB3 : Nat) (W : World),Kd.C k56 W AB3 B3.f2.length B3.f2 → B3.f2.length ≤ cB3 → Kd.C k101 W DB3 B3.f3.length B3.f3 → B3.f3.length ≤ dB3 → Calls Tryz.prog 12 #[.agg #[.string B3.f0,.int .i64 B3.f1,.slice AB3 B3.f2.length cB3,.slice DB3 B3.f3.length dB3,.int .u64 B3.f4],.string ⟨#[107]⟩] W (BkPost U1 [.int .u64 n9,.int .i64 0] W)):=fun A D c d W e2 g2 e3 g3=>by
  have x:=beginB.walk B3 A D c d ⟨#[107]⟩ W e2 g2 e3 g3
  rw [h9] at x
  exact x
 have H10 : Hid (∀ (AU1 DU1 : Option Addr) (cU1 dU1 : Nat) (W : World),Kd.C k56 W AU1 U1.f2.length U1.f2 → U1.f2.length ≤ cU1 → Kd.C k101 W DU1 U1.f3.length U1.f3 → U1.f3.length ≤ dU1 → Calls Tryz.prog 15 #[.agg #[.string U1.f0,.int .i64 U1.f1,.slice AU1 U1.f2.length cU1,.slice DU1 U1.f3.length dU1,.int .u64 U1.f4],.int .u64 n9,.agg #[.int .i64 1,.string ⟨#[119,104,111,108,101]⟩]] W (BkPost U2 [.int .u32 tg,.int .i64 0] W)):=fun A D c d W e2 g2 e3 g3=>by
  have x:=layB.walk U1 A D c d n9 ⟨1,⟨#[119,104,111,108,101]⟩⟩ W e2 g2 e3 g3
  rw [h10] at x
  exact x
 have H11 : Hid (∀ (AU2 DU2 : Option Addr) (cU2 dU2 : Nat) (W : World),Kd.C k56 W AU2 U2.f2.length U2.f2 → U2.f2.length ≤ cU2 → Kd.C k101 W DU2 U2.f3.length U2.f3 → U2.f3.length ≤ dU2 → ∀ gl : Nat,W.heap[gl]? = some (.cells #[.int .i64 1,.int .u32 tg] 43 (0,0)) → Calls Tryz.prog 17 #[.agg #[.string U2.f0,.int .i64 U2.f1,.slice AU2 U2.f2.length cU2,.slice DU2 U2.f3.length dU2,.int .u64 U2.f4],.int .u64 n9,.slice (some ⟨gl,0,none⟩) 1 1,.int .i64 2] W (BkPost U3 [.int .u64 n11,.string t11,.int .i64 0] W)):=fun A D c d W e2 g2 e3 g3 gl kl=>by
  have x:=wholeB.walk U2 A D c d n9 [⟨1,tg⟩] (some ⟨gl,0,none⟩) 1 2 W e2 g2 e3 g3 (by show 1 < 100;decide) (one_P (k43_mk W (⟨1,tg⟩ : S43)) (blkRaw (cs:=[.int .i64 1,.int .u32 tg]) kl))
  rw [h11] at x
  exact x
 have H12 : Hid (∀ (AU3 DU3 : Option Addr) (cU3 dU3 : Nat) (W : World),Kd.C k56 W AU3 U3.f2.length U3.f2 → U3.f2.length ≤ cU3 → Kd.C k101 W DU3 U3.f3.length U3.f3 → U3.f3.length ≤ dU3 → Calls Tryz.prog 18 #[.agg #[.string U3.f0,.int .i64 U3.f1,.slice AU3 U3.f2.length cU3,.slice DU3 U3.f3.length dU3,.int .u64 U3.f4],.string ⟨#[107]⟩] W (OnePost ⟨i13,⟨#[119,104,111,108,101]⟩,m13,q13⟩ 0 W)):=fun A D c d W e2 g2 e3 g3=>by
  have x:=getB.walk U3 A D c d ⟨#[107]⟩ W e2 g2 e3 g3
  rw [h12] at x
  exact x
 have HE : Hid (∀ (AG DG : Option Addr) (cG dG : Nat) (W : World),Kd.C k56 W AG G.f2.length G.f2 → G.f2.length ≤ cG → Kd.C k101 W DG G.f3.length G.f3 → G.f3.length ≤ dG → Calls Tryz.prog 41 #[.agg #[.string G.f0,.int .i64 G.f1,.slice AG G.f2.length cG,.slice DG G.f3.length dG,.int .u64 G.f4]] W (fun e w'=>e = .returned (.bool true) ∧ Below W.heap.size W w')):=fun A D c d W e2 g2 e3 g3=>by
  have x:=bucket_Empty.calls G.f0 G.f1 A c G.f2 D d G.f3 G.f4 true W e2 g2 e3 g3 (by unfold bucket_Empty.f;rw [hg.1,hg.2];rfl)
  exact x
 have HB:=zh (Below.refl w.heap.size w)
 clear h1 h2 h3 h4 h5 h6 h7 h8 h9 h10 h11 h12 hg
 go_enter Tryz.func14,Tryz.ntmps14
 go_wp2_with (first
  | ((with_reducible refine gate_dst (N:=1) rfl ?_);go_must (refine zx HB (N:=1) (cs:=#[.string ⟨#[]⟩,.int .i64 0,.slice none 0 0,.slice none 0 0,.int .u64 0]) (t:=26) ?hr ?_;(case hr=>first | (go_simp;done) | (go_simp;rfl));intro gB wb0 KgB LgB HB hbelgB hqgB;have HD:=zh hbelgB;have WD:=zh (show _ ≤ gB by rw [hqgB];exact Nat.le_refl _);clear hbelgB hqgB))
  | ((with_reducible refine gate_dst (N:=7) rfl ?_);go_must (refine zx HB (N:=7) (cs:=#[.string ⟨#[]⟩,.int .i64 0,.slice none 0 0,.slice none 0 0,.int .u64 0]) (t:=26) ?hr ?_;(case hr=>first | (go_simp;done) | (go_simp;rfl));intro gG wb3 KgG LgG HB hbelgG hqgG;have NgBgG:=zh (show gB < gG by rw [hqgG];exact blk_lt KgB.out);have HD:=zh hbelgG;have WD:=zh (show _ ≤ gG by rw [hqgG];exact Nat.le_refl _);have KgB:=zk KgB hbelgG;clear hbelgG hqgG))
  | ((with_reducible refine gate_dst (N:=11) rfl ?_);go_must (refine zx HB (N:=11) (cs:=#[.string ⟨#[]⟩,.int .i64 0,.slice none 0 0,.slice none 0 0,.int .u64 0]) (t:=26) ?hr ?_;(case hr=>first | (go_simp;done) | (go_simp;rfl));intro gC wb5 KgC LgC HB hbelgC hqgC;have NgBgC:=zh (show gB < gC by rw [hqgC];exact blk_lt KgB.out);have NgGgC:=zh (show gG < gC by rw [hqgC];exact blk_lt KgG.out);have HD:=zh hbelgC;have WD:=zh (show _ ≤ gC by rw [hqgC];exact Nat.le_refl _);have KgB:=zk KgB hbelgC;have KgG:=zk KgG hbelgC;clear hbelgC hqgC))
  | ((with_reducible refine gate_dst (N:=14) rfl ?_);go_must (refine zx HB (N:=14) (cs:=#[.int .u64 0,.string ⟨#[]⟩,.bool false,.int .i64 0]) (t:=47) ?hr ?_;(case hr=>first | (go_simp;done) | (go_simp;rfl));intro gv wb6 Kgv Lgv HB hbelgv hqgv;have NgBgv:=zh (show gB < gv by rw [hqgv];exact blk_lt KgB.out);have NgGgv:=zh (show gG < gv by rw [hqgv];exact blk_lt KgG.out);have NgCgv:=zh (show gC < gv by rw [hqgv];exact blk_lt KgC.out);have HD:=zh hbelgv;have WD:=zh (show _ ≤ gv by rw [hqgv];exact Nat.le_refl _);have KgB:=zk KgB hbelgv;have KgG:=zk KgG hbelgv;have KgC:=zk KgC hbelgv;clear hbelgv hqgv))
  | ((with_reducible refine gate_dst (N:=16) rfl ?_);go_must (refine zx HB (N:=16) (cs:=#[.string ⟨#[]⟩,.int .i64 0,.slice none 0 0,.slice none 0 0,.int .u64 0]) (t:=26) ?hr ?_;(case hr=>first | (go_simp;done) | (go_simp;rfl));intro gD wb7 KgD LgD HB hbelgD hqgD;have NgBgD:=zh (show gB < gD by rw [hqgD];exact blk_lt KgB.out);have NgGgD:=zh (show gG < gD by rw [hqgD];exact blk_lt KgG.out);have NgCgD:=zh (show gC < gD by rw [hqgD];exact blk_lt KgC.out);have HD:=zh hbelgD;have WD:=zh (show _ ≤ gD by rw [hqgD];exact Nat.le_refl _);have KgB:=zk KgB hbelgD;have KgG:=zk KgG hbelgD;have KgC:=zk KgC hbelgD;clear hbelgD hqgD))
  | ((with_reducible refine gate_dst (N:=18) rfl ?_);go_must (refine zx HB (N:=18) (cs:=#[.int .u64 0,.string ⟨#[]⟩,.bool false,.int .i64 0]) (t:=47) ?hr ?_;(case hr=>first | (go_simp;done) | (go_simp;rfl));intro gV wb8 KgV LgV HB hbelgV hqgV;have NgBgV:=zh (show gB < gV by rw [hqgV];exact blk_lt KgB.out);have NgGgV:=zh (show gG < gV by rw [hqgV];exact blk_lt KgG.out);have NgDgV:=zh (show gD < gV by rw [hqgV];exact blk_lt KgD.out);have HD:=zh hbelgV;have WD:=zh (show _ ≤ gV by rw [hqgV];exact Nat.le_refl _);have KgB:=zk KgB hbelgV;have KgG:=zk KgG hbelgV;have KgD:=zk KgD hbelgV;clear hbelgV hqgV))
  | ((with_reducible refine gate_dst (N:=20) rfl ?_);go_must (refine zx HB (N:=20) (cs:=#[.string ⟨#[]⟩,.int .i64 0,.slice none 0 0,.slice none 0 0,.int .u64 0]) (t:=26) ?hr ?_;(case hr=>first | (go_simp;done) | (go_simp;rfl));intro gU wb9 KgU LgU HB hbelgU hqgU;have NgBgU:=zh (show gB < gU by rw [hqgU];exact blk_lt KgB.out);have NgGgU:=zh (show gG < gU by rw [hqgU];exact blk_lt KgG.out);have NgVgU:=zh (show gV < gU by rw [hqgU];exact blk_lt KgV.out);have HD:=zh hbelgU;have WD:=zh (show _ ≤ gU by rw [hqgU];exact Nat.le_refl _);have KgB:=zk KgB hbelgU;have KgG:=zk KgG hbelgU;have KgV:=zk KgV hbelgU;clear hbelgU hqgU))
  | ((with_reducible refine gate_dst (N:=28) rfl ?_);go_must (refine zx HB (N:=28) (cs:=#[.int .u64 0,.string ⟨#[]⟩,.bool false,.int .i64 0]) (t:=47) ?hr ?_;(case hr=>first | (go_simp;done) | (go_simp;rfl));intro gW wb12 KgW LgW HB hbelgW hqgW;have NgGgW:=zh (show gG < gW by rw [hqgW];exact blk_lt KgG.out);have NgVgW:=zh (show gV < gW by rw [hqgW];exact blk_lt KgV.out);have NgUgW:=zh (show gU < gW by rw [hqgW];exact blk_lt KgU.out);have HD:=zh hbelgW;have WD:=zh (show _ ≤ gW by rw [hqgW];exact Nat.le_refl _);have KgG:=zk KgG hbelgW;have KgV:=zk KgV hbelgW;have KgU:=zk KgU hbelgW;clear hbelgW hqgW))
  | ((with_reducible refine gate_dst (N:=98) rfl ?_);go_must (refine lit_event ?hg (N:=98) ?hd (cs:=#[.int .i64 1,.int .u32 tg]) (t:=43) 1 ?hr ?_;(case hd=>rfl);(case hg=>rfl);(case hr=>first | (go_simp;done) | (go_simp;rfl));intro gl hql wl hbl hbell;have Kl:=zh hbl;have HB:=keepB HB hbell;have KgG:=zk KgG hbell;have KgV:=zk KgV hbell;have KgU:=zk KgU hbell;have EG:=zc EG hbell;have UG:=zc UG hbell;have EU2:=zc EU2 hbell;have UU2:=zc UU2 hbell;obtain ⟨a0,a1,a2,a3,a4⟩:=zz5 KgU.out;clear hbl hbell hql))
  | (go_at_call 26;go_must (first
    | (refine (H0.out _).mono ?_;rintro e w' ⟨rfl,hb⟩;have HB:=keepB HB hb;clear hb)))
  | (go_at_call 19;go_must (first
    | (clear MK1;refine (H1.out _).mono ?_;rintro e w' ⟨v,rfl,⟨AB1,cB1,DB1,dB1,rfl,x2,x3,y2,y3⟩,hb⟩;have HB:=keepB HB hb;have KgB:=zk KgB hb;have XB1:=zh x2;have YB1:=zh x3;have EB1:=zh y2;have UB1:=zh y3;clear x2 x3 y2 y3;clear a0 a1 a2 a3 a4;clear hb)
    | (clear MK2;refine (H2.out AB1 DB1 cB1 dB1 _ EB1.out XB1.out UB1.out YB1.out).mono ?_;rintro e w' ⟨v,rfl,⟨AB2,cB2,DB2,dB2,rfl,x2,x3,y2,y3⟩,hb⟩;have HB:=keepB HB hb;have KgB:=zk KgB hb;have EB1:=zc EB1 hb;have UB1:=zc UB1 hb;have XB2:=zh x2;have YB2:=zh x3;have EB2:=zh y2;have UB2:=zh y3;clear x2 x3 y2 y3;clear a0 a1 a2 a3 a4;clear hb)))
  | (go_at_call 39;go_must (first
    | (clear MK3;refine (H3.out AB2 DB2 cB2 dB2 _ EB2.out XB2.out UB2.out YB2.out).mono ?_;rintro e w' ⟨v,rfl,⟨AG,cG,DG,dG,rfl,x2,x3,y2,y3⟩,hb⟩;have HB:=keepB HB hb;have KgB:=zk KgB hb;have EB2:=zc EB2 hb;have UB2:=zc UB2 hb;have XG:=zh x2;have YG:=zh x3;have EG:=zh y2;have UG:=zh y3;clear x2 x3 y2 y3;clear a0 a1 a2 a3 a4;clear hb)
    | (clear MK5;refine (H5.out AB3 DB3 cB3 dB3 _ EB3.out XB3.out UB3.out YB3.out).mono ?_;rintro e w' ⟨v,rfl,⟨AC,cC,DC,dC,rfl,x2,x3,y2,y3⟩,hb⟩;have HB:=keepB HB hb;have KgB:=zk KgB hb;have KgG:=zk KgG hb;have EB3:=zc EB3 hb;have UB3:=zc UB3 hb;have EG:=zc EG hb;have UG:=zc UG hb;have XC:=zh x2;have YC:=zh x3;have EC:=zh y2;have UC:=zh y3;clear x2 x3 y2 y3;clear a0 a1 a2 a3 a4;clear hb)))
  | (go_at_call 27;go_must (first
    | (clear MK4;refine (H4.out AB2 DB2 cB2 dB2 _ EB2.out XB2.out UB2.out YB2.out).mono ?_;rintro e w' ⟨v,rfl,⟨AB3,cB3,DB3,dB3,rfl,x2,x3,y2,y3⟩,hb⟩;have HB:=keepB HB hb;have KgB:=zk KgB hb;have KgG:=zk KgG hb;have EB2:=zc EB2 hb;have UB2:=zc UB2 hb;have EG:=zc EG hb;have UG:=zc UG hb;have XB3:=zh x2;have YB3:=zh x3;have EB3:=zh y2;have UB3:=zh y3;clear x2 x3 y2 y3;clear a0 a1 a2 a3 a4;clear hb)))
  | (go_at_call 18;go_must (first
    | (clear MK6;refine (H6.out AC DC cC dC _ EC.out XC.out UC.out YC.out).mono ?_;rintro e w' ⟨rfl,hb⟩;have HB:=keepB HB hb;have KgB:=zk KgB hb;have KgG:=zk KgG hb;have KgC:=zk KgC hb;have EB3:=zc EB3 hb;have UB3:=zc UB3 hb;have EG:=zc EG hb;have UG:=zc UG hb;have EC:=zc EC hb;have UC:=zc UC hb;clear a0 a1 a2 a3 a4;clear hb)
    | (clear MK8;refine (H8.out AD DD cD dD _ ED.out XD.out UD.out YD.out).mono ?_;rintro e w' ⟨rfl,hb⟩;have HB:=keepB HB hb;have KgB:=zk KgB hb;have KgG:=zk KgG hb;have KgD:=zk KgD hb;have EB3:=zc EB3 hb;have UB3:=zc UB3 hb;have EG:=zc EG hb;have UG:=zc UG hb;have ED:=zc ED hb;have UD:=zc UD hb;clear a0 a1 a2 a3 a4;clear hb)
    | (clear MK12;refine (H12.out AU3 DU3 cU3 dU3 _ EU3.out XU3.out UU3.out YU3.out).mono ?_;rintro e w' ⟨rfl,hb⟩;have HB:=keepB HB hb;have KgG:=zk KgG hb;have KgV:=zk KgV hb;have KgU:=zk KgU hb;have EG:=zc EG hb;have UG:=zc UG hb;have EU3:=zc EU3 hb;have UU3:=zc UU3 hb;clear a0 a1 a2 a3 a4;clear hb)))
  | (go_at_call 40;go_must (first
    | (clear MK7;refine (H7.out AC DC cC dC _ EC.out XC.out UC.out YC.out).mono ?_;rintro e w' ⟨v,rfl,⟨AD,cD,DD,dD,rfl,x2,x3,y2,y3⟩,hb⟩;have HB:=keepB HB hb;have KgB:=zk KgB hb;have KgG:=zk KgG hb;have KgC:=zk KgC hb;have EB3:=zc EB3 hb;have UB3:=zc UB3 hb;have EG:=zc EG hb;have UG:=zc UG hb;have EC:=zc EC hb;have UC:=zc UC hb;have XD:=zh x2;have YD:=zh x3;have ED:=zh y2;have UD:=zh y3;clear x2 x3 y2 y3;clear a0 a1 a2 a3 a4;clear hb)))
  | (go_at_call 12;go_must (first
    | (clear MK9;refine (H9.out AB3 DB3 cB3 dB3 _ EB3.out XB3.out UB3.out YB3.out).mono ?_;rintro e w' ⟨v,rfl,⟨AU1,cU1,DU1,dU1,rfl,x2,x3,y2,y3⟩,hb⟩;have HB:=keepB HB hb;have KgB:=zk KgB hb;have KgG:=zk KgG hb;have KgV:=zk KgV hb;have EB3:=zc EB3 hb;have UB3:=zc UB3 hb;have EG:=zc EG hb;have UG:=zc UG hb;have XU1:=zh x2;have YU1:=zh x3;have EU1:=zh y2;have UU1:=zh y3;clear x2 x3 y2 y3;clear a0 a1 a2 a3 a4;clear hb)))
  | (go_at_call 15;go_must (first
    | (clear MK10;refine (H10.out AU1 DU1 cU1 dU1 _ EU1.out XU1.out UU1.out YU1.out).mono ?_;rintro e w' ⟨v,rfl,⟨AU2,cU2,DU2,dU2,rfl,x2,x3,y2,y3⟩,hb⟩;have HB:=keepB HB hb;have KgG:=zk KgG hb;have KgV:=zk KgV hb;have KgU:=zk KgU hb;have EG:=zc EG hb;have UG:=zc UG hb;have EU1:=zc EU1 hb;have UU1:=zc UU1 hb;have XU2:=zh x2;have YU2:=zh x3;have EU2:=zh y2;have UU2:=zh y3;clear x2 x3 y2 y3;clear a0 a1 a2 a3 a4;clear hb)))
  | (go_at_call 17;go_must (first
    | (clear MK11;refine (H11.out AU2 DU2 cU2 dU2 _ EU2.out XU2.out UU2.out YU2.out gl Kl.out).mono ?_;rintro e w' ⟨v,rfl,⟨AU3,cU3,DU3,dU3,rfl,x2,x3,y2,y3⟩,hb⟩;have HB:=keepB HB hb;have KgG:=zk KgG hb;have KgV:=zk KgV hb;have KgU:=zk KgU hb;have EG:=zc EG hb;have UG:=zc UG hb;have EU2:=zc EU2 hb;have UU2:=zc UU2 hb;have XU3:=zh x2;have YU3:=zh x3;have EU3:=zh y2;have UU3:=zh y3;clear x2 x3 y2 y3;clear a0 a1 a2 a3 a4;clear hb)))
  | (go_at_call 41;go_must (refine (HE.out AG DG cG dG _ EG.out XG.out UG.out YG.out).mono ?_;rintro e w' ⟨rfl,hb⟩;have HB:=keepB HB hb;have KgV:=zk KgV hb;have KgW:=zk KgW hb;obtain ⟨b0,b1,b2,b3⟩:=zz4 KgV.out;obtain ⟨d0,d1,d2,d3⟩:=zz4 KgW.out;clear hb))
  | ((with_reducible refine gate_store (t:=26) (p:=1) (v:=.tmp 32) rfl ?_);go_must (refine zs 26 (.tmp 1) (.tmp 32) gB 0 26 [.string ⟨#[98,111,120]⟩,.int .i64 0,.slice none 0 0,.slice none 0 0,.int .u64 0] KgB isz_bucket ?_;intro ws0 hk ho;clear HD WD;have KgB : Hid (ws0.heap[gB]? = some (.cells #[.string ⟨#[98,111,120]⟩,.int .i64 0,.slice none 0 0,.slice none 0 0,.int .u64 0] 26 (0,0))):=hk;have HB:=zo ho HB LgB;obtain ⟨a0,a1,a2,a3,a4⟩:=zz5 KgB.out;have MK1:=zh True.intro;clear hk ho))
  | ((with_reducible refine gate_store (t:=26) (p:=1) (v:=.tmp 37) rfl ?_);go_must (refine zs 26 (.tmp 1) (.tmp 37) gB 0 26 [.string B1.f0,.int .i64 B1.f1,.slice AB1 B1.f2.length cB1,.slice DB1 B1.f3.length dB1,.int .u64 B1.f4] KgB isz_bucket ?_;intro ws1 hk ho;have EB1:=zh (keepE EB1.out KgB.out (bk_like _ _ _ _ _ _ _ _ _) ho.out);have UB1:=zh (keepU UB1.out KgB.out (bk_like _ _ _ _ _ _ _ _ _) ho.out);have KgB : Hid (ws1.heap[gB]? = some (.cells #[.string B1.f0,.int .i64 B1.f1,.slice AB1 B1.f2.length cB1,.slice DB1 B1.f3.length dB1,.int .u64 B1.f4] 26 (0,0))):=hk;have HB:=zo ho HB LgB;obtain ⟨a0,a1,a2,a3,a4⟩:=zz5 KgB.out;have MK2:=zh True.intro;clear hk ho))
  | ((with_reducible refine gate_store (t:=26) (p:=1) (v:=.tmp 43) rfl ?_);go_must (refine zs 26 (.tmp 1) (.tmp 43) gB 0 26 [.string B2.f0,.int .i64 B2.f1,.slice AB2 B2.f2.length cB2,.slice DB2 B2.f3.length dB2,.int .u64 B2.f4] KgB isz_bucket ?_;intro ws2 hk ho;have EB2:=zh (keepE EB2.out KgB.out (bk_like _ _ _ _ _ _ _ _ _) ho.out);have UB2:=zh (keepU UB2.out KgB.out (bk_like _ _ _ _ _ _ _ _ _) ho.out);have KgB : Hid (ws2.heap[gB]? = some (.cells #[.string B2.f0,.int .i64 B2.f1,.slice AB2 B2.f2.length cB2,.slice DB2 B2.f3.length dB2,.int .u64 B2.f4] 26 (0,0))):=hk;have HB:=zo ho HB LgB;obtain ⟨a0,a1,a2,a3,a4⟩:=zz5 KgB.out;have MK3:=zh True.intro;clear hk ho))
  | ((with_reducible refine gate_store (t:=26) (p:=7) (v:=.tmp 49) rfl ?_);go_must (refine zs 26 (.tmp 7) (.tmp 49) gG 0 26 [.string G.f0,.int .i64 G.f1,.slice AG G.f2.length cG,.slice DG G.f3.length dG,.int .u64 G.f4] KgG isz_bucket ?_;intro ws3 hk ho;have EB2:=zc EB2 (ho.out.below HD.out HD.out.size WD.out);have UB2:=zc UB2 (ho.out.below HD.out HD.out.size WD.out);have EG:=zc EG (ho.out.below HD.out HD.out.size WD.out);have UG:=zc UG (ho.out.below HD.out HD.out.size WD.out);clear HD WD;have KgG : Hid (ws3.heap[gG]? = some (.cells #[.string G.f0,.int .i64 G.f1,.slice AG G.f2.length cG,.slice DG G.f3.length dG,.int .u64 G.f4] 26 (0,0))):=hk;have HB:=zo ho HB LgG;have KgB:=zl ho KgB (by have:=NgBgG.out;omega);obtain ⟨a0,a1,a2,a3,a4⟩:=zz5 KgB.out;have MK4:=zh True.intro;clear hk ho))
  | ((with_reducible refine gate_store (t:=26) (p:=1) (v:=.tmp 55) rfl ?_);go_must (refine zs 26 (.tmp 1) (.tmp 55) gB 0 26 [.string B3.f0,.int .i64 B3.f1,.slice AB3 B3.f2.length cB3,.slice DB3 B3.f3.length dB3,.int .u64 B3.f4] KgB isz_bucket ?_;intro ws4 hk ho;have EB3:=zh (keepE EB3.out KgB.out (bk_like _ _ _ _ _ _ _ _ _) ho.out);have UB3:=zh (keepU UB3.out KgB.out (bk_like _ _ _ _ _ _ _ _ _) ho.out);have EG:=zh (keepE EG.out KgB.out (bk_like _ _ _ _ _ _ _ _ _) ho.out);have UG:=zh (keepU UG.out KgB.out (bk_like _ _ _ _ _ _ _ _ _) ho.out);have KgB : Hid (ws4.heap[gB]? = some (.cells #[.string B3.f0,.int .i64 B3.f1,.slice AB3 B3.f2.length cB3,.slice DB3 B3.f3.length dB3,.int .u64 B3.f4] 26 (0,0))):=hk;have HB:=zo ho HB LgB;have KgG:=zl ho KgG (by have:=NgBgG.out;omega);obtain ⟨a0,a1,a2,a3,a4⟩:=zz5 KgB.out;have MK5:=zh True.intro;clear hk ho))
  | ((with_reducible refine gate_store (t:=26) (p:=11) (v:=.tmp 60) rfl ?_);go_must (refine zs 26 (.tmp 11) (.tmp 60) gC 0 26 [.string C.f0,.int .i64 C.f1,.slice AC C.f2.length cC,.slice DC C.f3.length dC,.int .u64 C.f4] KgC isz_bucket ?_;intro ws5 hk ho;have EB3:=zc EB3 (ho.out.below HD.out HD.out.size WD.out);have UB3:=zc UB3 (ho.out.below HD.out HD.out.size WD.out);have EG:=zc EG (ho.out.below HD.out HD.out.size WD.out);have UG:=zc UG (ho.out.below HD.out HD.out.size WD.out);have EC:=zc EC (ho.out.below HD.out HD.out.size WD.out);have UC:=zc UC (ho.out.below HD.out HD.out.size WD.out);clear HD WD;have KgC : Hid (ws5.heap[gC]? = some (.cells #[.string C.f0,.int .i64 C.f1,.slice AC C.f2.length cC,.slice DC C.f3.length dC,.int .u64 C.f4] 26 (0,0))):=hk;have HB:=zo ho HB LgC;have KgB:=zl ho KgB (by have:=NgBgC.out;omega);have KgG:=zl ho KgG (by have:=NgGgC.out;omega);obtain ⟨a0,a1,a2,a3,a4⟩:=zz5 KgC.out;have MK6:=zh True.intro;clear hk ho))
  | ((with_reducible refine gate_store (t:=47) (p:=14) (v:=.tmp 66) rfl ?_);go_must (refine zs 47 (.tmp 14) (.tmp 66) gv 0 47 [.int .u64 i6,.string s6,.bool m6,.int .i64 q6] Kgv (by kernel_rfl) ?_;intro ws6 hk ho;have EB3:=zc EB3 (ho.out.below HD.out HD.out.size WD.out);have UB3:=zc UB3 (ho.out.below HD.out HD.out.size WD.out);have EG:=zc EG (ho.out.below HD.out HD.out.size WD.out);have UG:=zc UG (ho.out.below HD.out HD.out.size WD.out);have EC:=zc EC (ho.out.below HD.out HD.out.size WD.out);have UC:=zc UC (ho.out.below HD.out HD.out.size WD.out);clear HD WD;have Kgv : Hid (ws6.heap[gv]? = some (.cells #[.int .u64 i6,.string s6,.bool m6,.int .i64 q6] 47 (0,0))):=hk;have HB:=zo ho HB Lgv;have KgB:=zl ho KgB (by have:=NgBgv.out;omega);have KgG:=zl ho KgG (by have:=NgGgv.out;omega);have KgC:=zl ho KgC (by have:=NgCgv.out;omega);obtain ⟨a0,a1,a2,a3,a4⟩:=zz5 KgC.out;have MK7:=zh True.intro;clear hk ho))
  | ((with_reducible refine gate_store (t:=26) (p:=16) (v:=.tmp 72) rfl ?_);go_must (refine zs 26 (.tmp 16) (.tmp 72) gD 0 26 [.string D.f0,.int .i64 D.f1,.slice AD D.f2.length cD,.slice DD D.f3.length dD,.int .u64 D.f4] KgD isz_bucket ?_;intro ws7 hk ho;have EB3:=zc EB3 (ho.out.below HD.out HD.out.size WD.out);have UB3:=zc UB3 (ho.out.below HD.out HD.out.size WD.out);have EG:=zc EG (ho.out.below HD.out HD.out.size WD.out);have UG:=zc UG (ho.out.below HD.out HD.out.size WD.out);have ED:=zc ED (ho.out.below HD.out HD.out.size WD.out);have UD:=zc UD (ho.out.below HD.out HD.out.size WD.out);clear HD WD;have KgD : Hid (ws7.heap[gD]? = some (.cells #[.string D.f0,.int .i64 D.f1,.slice AD D.f2.length cD,.slice DD D.f3.length dD,.int .u64 D.f4] 26 (0,0))):=hk;have HB:=zo ho HB LgD;have KgB:=zl ho KgB (by have:=NgBgD.out;omega);have KgG:=zl ho KgG (by have:=NgGgD.out;omega);obtain ⟨a0,a1,a2,a3,a4⟩:=zz5 KgD.out;have MK8:=zh True.intro;clear hk ho))
  | ((with_reducible refine gate_store (t:=47) (p:=18) (v:=.tmp 77) rfl ?_);go_must (refine zs 47 (.tmp 18) (.tmp 77) gV 0 47 [.int .u64 i8,.string ⟨#[121]⟩,.bool m8,.int .i64 q8] KgV (by kernel_rfl) ?_;intro ws8 hk ho;have EB3:=zc EB3 (ho.out.below HD.out HD.out.size WD.out);have UB3:=zc UB3 (ho.out.below HD.out HD.out.size WD.out);have EG:=zc EG (ho.out.below HD.out HD.out.size WD.out);have UG:=zc UG (ho.out.below HD.out HD.out.size WD.out);clear HD WD;have KgV : Hid (ws8.heap[gV]? = some (.cells #[.int .u64 i8,.string ⟨#[121]⟩,.bool m8,.int .i64 q8] 47 (0,0))):=hk;have HB:=zo ho HB LgV;have KgB:=zl ho KgB (by have:=NgBgV.out;omega);have KgG:=zl ho KgG (by have:=NgGgV.out;omega);obtain ⟨a0,a1,a2,a3,a4⟩:=zz5 KgB.out;have MK9:=zh True.intro;clear hk ho))
  | ((with_reducible refine gate_store (t:=26) (p:=20) (v:=.tmp 82) rfl ?_);go_must (refine zs 26 (.tmp 20) (.tmp 82) gU 0 26 [.string U1.f0,.int .i64 U1.f1,.slice AU1 U1.f2.length cU1,.slice DU1 U1.f3.length dU1,.int .u64 U1.f4] KgU isz_bucket ?_;intro ws9 hk ho;have EG:=zc EG (ho.out.below HD.out HD.out.size WD.out);have UG:=zc UG (ho.out.below HD.out HD.out.size WD.out);have EU1:=zc EU1 (ho.out.below HD.out HD.out.size WD.out);have UU1:=zc UU1 (ho.out.below HD.out HD.out.size WD.out);clear HD WD;have KgU : Hid (ws9.heap[gU]? = some (.cells #[.string U1.f0,.int .i64 U1.f1,.slice AU1 U1.f2.length cU1,.slice DU1 U1.f3.length dU1,.int .u64 U1.f4] 26 (0,0))):=hk;have HB:=zo ho HB LgU;have KgG:=zl ho KgG (by have:=NgGgU.out;omega);have KgV:=zl ho KgV (by have:=NgVgU.out;omega);obtain ⟨a0,a1,a2,a3,a4⟩:=zz5 KgU.out;have MK10:=zh True.intro;clear hk ho))
  | ((with_reducible refine gate_store (t:=26) (p:=20) (v:=.tmp 90) rfl ?_);go_must (refine zs 26 (.tmp 20) (.tmp 90) gU 0 26 [.string U2.f0,.int .i64 U2.f1,.slice AU2 U2.f2.length cU2,.slice DU2 U2.f3.length dU2,.int .u64 U2.f4] KgU isz_bucket ?_;intro ws10 hk ho;have EG:=zh (keepE EG.out KgU.out (bk_like _ _ _ _ _ _ _ _ _) ho.out);have UG:=zh (keepU UG.out KgU.out (bk_like _ _ _ _ _ _ _ _ _) ho.out);have EU2:=zh (keepE EU2.out KgU.out (bk_like _ _ _ _ _ _ _ _ _) ho.out);have UU2:=zh (keepU UU2.out KgU.out (bk_like _ _ _ _ _ _ _ _ _) ho.out);have KgU : Hid (ws10.heap[gU]? = some (.cells #[.string U2.f0,.int .i64 U2.f1,.slice AU2 U2.f2.length cU2,.slice DU2 U2.f3.length dU2,.int .u64 U2.f4] 26 (0,0))):=hk;have HB:=zo ho HB LgU;have KgG:=zl ho KgG (by have:=NgGgU.out;omega);have KgV:=zl ho KgV (by have:=NgVgU.out;omega);obtain ⟨a0,a1,a2,a3,a4⟩:=zz5 KgU.out;have MK11:=zh True.intro;clear hk ho))
  | ((with_reducible refine gate_store (t:=26) (p:=20) (v:=.tmp 100) rfl ?_);go_must (refine zs 26 (.tmp 20) (.tmp 100) gU 0 26 [.string U3.f0,.int .i64 U3.f1,.slice AU3 U3.f2.length cU3,.slice DU3 U3.f3.length dU3,.int .u64 U3.f4] KgU isz_bucket ?_;intro ws11 hk ho;have EG:=zh (keepE EG.out KgU.out (bk_like _ _ _ _ _ _ _ _ _) ho.out);have UG:=zh (keepU UG.out KgU.out (bk_like _ _ _ _ _ _ _ _ _) ho.out);have EU3:=zh (keepE EU3.out KgU.out (bk_like _ _ _ _ _ _ _ _ _) ho.out);have UU3:=zh (keepU UU3.out KgU.out (bk_like _ _ _ _ _ _ _ _ _) ho.out);have KgU : Hid (ws11.heap[gU]? = some (.cells #[.string U3.f0,.int .i64 U3.f1,.slice AU3 U3.f2.length cU3,.slice DU3 U3.f3.length dU3,.int .u64 U3.f4] 26 (0,0))):=hk;have HB:=zo ho HB LgU;have KgG:=zl ho KgG (by have:=NgGgU.out;omega);have KgV:=zl ho KgV (by have:=NgVgU.out;omega);obtain ⟨a0,a1,a2,a3,a4⟩:=zz5 KgU.out;have MK12:=zh True.intro;clear hk ho))
  | ((with_reducible refine gate_store (t:=47) (p:=28) (v:=.tmp 107) rfl ?_);go_must (refine zs 47 (.tmp 28) (.tmp 107) gW 0 47 [.int .u64 i13,.string ⟨#[119,104,111,108,101]⟩,.bool m13,.int .i64 q13] KgW (by kernel_rfl) ?_;intro ws12 hk ho;have EG:=zc EG (ho.out.below HD.out HD.out.size WD.out);have UG:=zc UG (ho.out.below HD.out HD.out.size WD.out);clear HD WD;have KgW : Hid (ws12.heap[gW]? = some (.cells #[.int .u64 i13,.string ⟨#[119,104,111,108,101]⟩,.bool m13,.int .i64 q13] 47 (0,0))):=hk;have HB:=zo ho HB LgW;have KgG:=zl ho KgG (by have:=NgGgW.out;omega);have KgV:=zl ho KgV (by have:=NgVgW.out;omega);have MK13:=zh True.intro;obtain ⟨a0,a1,a2,a3,a4⟩:=zz5 KgG.out;obtain ⟨b0,b1,b2,b3⟩:=zz4 KgV.out;obtain ⟨d0,d1,d2,d3⟩:=zz4 KgW.out;clear hk ho)))
 refine bodyPost_ret (v:=.bool true) (by simp [results,Tryz.results14,go_sem]) rfl ?_
 exact ⟨rfl,HB.out⟩
end
section
open Go.WideMaps Go.Maps
def aB1 : S26:=(laidR (⟨⟨#[98,111,120]⟩,0,[],[],0⟩ : S26) ⟨#[97]⟩ (fun l id=>putV l (⟨⟨#[98,111,120]⟩,0,[],[],0⟩ : S26).f1 ⟨id,⟨#[120]⟩,false,0⟩)).1
def aB2 : S26:=(laidR aB1 ⟨#[97]⟩ (fun l id=>putV l aB1.f1 ⟨id,⟨#[121]⟩,false,0⟩)).1
def aG : S26:=(laidR aB2 ⟨#[97]⟩ (fun l id=>deleteV l aB2.f1 id 0)).1
def aB3 : S26:=(turnB aB2 1).1
def aC : S26:=(laidR aB3 ⟨#[97]⟩ (fun l id=>deleteV l aB3.f1 id 1)).1
def aD : S26:=(dropB aC ⟨#[97]⟩ 1).1
def aU1 : S26:=(beginB aB3 ⟨#[107]⟩).1
def aU2 : S26:=(layB aU1 (beginB aB3 ⟨#[107]⟩).2.1 ⟨1,⟨#[119,104,111,108,101]⟩⟩).1
def aU3 : S26:=(wholeB aU2 (beginB aB3 ⟨#[107]⟩).2.1 [⟨1,(layB aU1 (beginB aB3 ⟨#[107]⟩).2.1 ⟨1,⟨#[119,104,111,108,101]⟩⟩).2.1⟩] 2).1
theorem awake.walk (w : World) : Calls Tryz.prog 14 #[] w fun e w'=>e = .returned (.bool true) ∧ Below w.heap.size w w' :=
 awake_gen aB1 aB2 aG aB3 aC aD aU1 aU2 aU3 (getB aC ⟨#[97]⟩).1.f0 (getB aC ⟨#[97]⟩).1.f3 (getB aD ⟨#[97]⟩).1.f0 (getB aD ⟨#[97]⟩).1.f3 (getB aU3 ⟨#[107]⟩).1.f0 (getB aU3 ⟨#[107]⟩).1.f3 (getB aC ⟨#[97]⟩).1.f1 (wholeB aU2 (beginB aB3 ⟨#[107]⟩).2.1 [⟨1,(layB aU1 (beginB aB3 ⟨#[107]⟩).2.1 ⟨1,⟨#[119,104,111,108,101]⟩⟩).2.1⟩] 2).2.2.1 (getB aC ⟨#[97]⟩).1.f2 (getB aD ⟨#[97]⟩).1.f2 (getB aU3 ⟨#[107]⟩).1.f2 ((layB aU1 (beginB aB3 ⟨#[107]⟩).2.1 ⟨1,⟨#[119,104,111,108,101]⟩⟩).2.1) ((beginB aB3 ⟨#[107]⟩).2.1) (wholeB aU2 (beginB aB3 ⟨#[107]⟩).2.1 [⟨1,(layB aU1 (beginB aB3 ⟨#[107]⟩).2.1 ⟨1,⟨#[119,104,111,108,101]⟩⟩).2.1⟩] 2).2.1
  (by kernel_rfl) (by kernel_rfl) (by kernel_rfl) (by kernel_rfl) (by kernel_rfl) (by kernel_rfl) (by kernel_rfl) (by kernel_rfl) (by kernel_rfl) (by kernel_rfl) (by kernel_rfl) (by kernel_rfl) ⟨by kernel_rfl,by kernel_rfl⟩ w
end
section
open Go.WideMaps Go.Maps
attribute [local go_sem] Oper.semAt_some
def cutS (n : Nat) (s : ByteArray) : ByteArray:=if n < s.size then s.extract 0 n else s
theorem few_cut (s : ByteArray) : cellarerlaw01_Few.f s = some (cutS 80 s):=by
 unfold cellarerlaw01_Few.f cutS
 by_cases h : 80 < s.size
 ·rw [if_pos (by omega),if_pos (by decide),if_pos (by omega),if_pos h]
 ·rw [if_neg (by omega),if_neg h]
theorem cut_00 (kd id n q : Int) (key data : ByteArray) (A : Option Addr) (m c : Nat) (w : World) (hm : m ≤ c) (hd : data.size ≤ 2001) (hp : m ≤ 40) :
  Calls Tryz.prog 22 #[.agg #[.int .u8 kd,.string key,.string data,.int .u64 id,.int .i64 n,.int .i64 q,.slice A m c]] w fun e w'=>e = .returned (.agg #[.int .u8 kd,.string (cutS 80 key),.string data,.int .u64 id,.int .i64 n,.int .i64 q,.slice A m c]) ∧ Below w.heap.size w w':=by
 have HF:=zh (fun (W : World)=>cellarerlaw01_Few.calls key _ W (few_cut key))
 have d0 : decide ((2001 : Int) < (data.size : Int)) = false:=decide_eq_false (by omega)
 have d1 : decide ((data.size : Int) > 2001) = false:=decide_eq_false (by omega)
 have d2 : ¬ 2001 < data.size:=by omega
 have p0 : decide ((40 : Int) < (m : Int)) = false:=decide_eq_false (by omega)
 have p1 : decide ((m : Int) > 40) = false:=decide_eq_false (by omega)
 have p2 : ¬ 40 < m:=by omega
 have HB:=zh (Below.refl w.heap.size w)
 have l1 : True:=trivial
 have l2 : True:=trivial
 have l3 : True:=trivial
 go_enter Tryz.func22,Tryz.ntmps22
 go_wp2_with (first
  | ((with_reducible refine gate_dst (N:=1) rfl ?_);go_must (refine zx HB (N:=1) (cs:=#[.int .u8 kd,.string key,.string data,.int .u64 id,.int .i64 n,.int .i64 q,.slice A m c]) (t:=59) ?hr ?_;(case hr=>first | (go_simp;done) | (go_simp;rfl));intro gb w1 Kgb Lgb HB hbelgb hqgb;clear hbelgb hqgb))
  | ((with_reducible refine gate_dst (N:=2) rfl ?_);go_must (refine zx HB (N:=2) (cs:=#[.int .u8 0,.string ⟨#[]⟩,.string ⟨#[]⟩,.int .u64 0,.int .i64 0,.int .i64 0,.slice none 0 0]) (t:=59) ?hr ?_;(case hr=>first | (go_simp;done) | (go_simp;rfl));intro go w2 Kgo Lgo HB hbelgo hqgo;have M2:=zh (show gb < go by rw [hqgo];exact blk_lt Kgb.out);have Kgb:=zk Kgb hbelgo;obtain ⟨a0,a1,a2,a3,a4,a5,a6⟩:=zz7 Kgb.out;clear hbelgo hqgo))
  | (go_at_call 11;go_must (refine (HF.out _).mono ?_;rintro e w3 ⟨rfl,hb⟩;have hb:=outD hb;have HB:=keepB HB hb;have Kgb:=zk Kgb hb;have Kgo:=zk Kgo hb;clear hb a0 a1 a2 a3 a4 a5 a6))
  | ((with_reducible refine gate_store (t:=9) (p:=6) (v:=.tmp 5) rfl ?_);go_must (refine zq 9 (.tmp 6) (.tmp 5) gb 1 59 (.string (cutS 80 key)) Kgb (by kernel_rfl) ?_;intro w4 hk ho;have Kgb : Hid (w4.heap[gb]? = some (.cells #[.int .u8 kd,.string (cutS 80 key),.string data,.int .u64 id,.int .i64 n,.int .i64 q,.slice A m c] 59 (0,0))):=hk;have HB:=zo ho HB Lgb;have Kgo:=zl ho Kgo (by have:=M2.out;omega);obtain ⟨b0,b1,b2,b3,b4,b5,b6⟩:=zz7 Kgb.out;clear hk ho))
  | ((with_reducible refine gate_store (t:=59) (p:=2) (v:=.tmp 23) rfl ?_);go_must (refine zs 59 (.tmp 2) (.tmp 23) go 0 59 [.int .u8 kd,.string (cutS 80 key),.string data,.int .u64 id,.int .i64 n,.int .i64 q,.slice A m c] Kgo (by kernel_rfl) ?_;intro w7 hk ho;have HB:=zo ho HB Lgo;obtain ⟨z0,z1,z2,z3,z4,z5,z6⟩:=zz7 hk.out;clear hk ho)))
 refine bodyPost_ret (v:=.agg #[.int .u8 kd,.string (cutS 80 key),.string data,.int .u64 id,.int .i64 n,.int .i64 q,.slice A m c]) (by simp [results,Tryz.results22,go_sem,z0,z1,z2,z3,z4,z5,z6]) rfl ?_
 exact ⟨rfl,HB.out⟩
theorem cut_10 (kd id n q : Int) (key data : ByteArray) (A : Option Addr) (m c : Nat) (w : World) (hm : m ≤ c) (hd : 2001 < data.size) (hp : m ≤ 40) :
  Calls Tryz.prog 22 #[.agg #[.int .u8 kd,.string key,.string data,.int .u64 id,.int .i64 n,.int .i64 q,.slice A m c]] w fun e w'=>e = .returned (.agg #[.int .u8 kd,.string (cutS 80 key),.string (data.extract 0 2001),.int .u64 id,.int .i64 n,.int .i64 q,.slice A m c]) ∧ Below w.heap.size w w':=by
 have HF:=zh (fun (W : World)=>cellarerlaw01_Few.calls key _ W (few_cut key))
 have d0 : decide ((2001 : Int) < (data.size : Int)) = true:=decide_eq_true (by omega)
 have d1 : decide ((data.size : Int) > 2001) = true:=decide_eq_true (by omega)
 have d2 : 2001 < data.size:=by omega
 have p0 : decide ((40 : Int) < (m : Int)) = false:=decide_eq_false (by omega)
 have p1 : decide ((m : Int) > 40) = false:=decide_eq_false (by omega)
 have p2 : ¬ 40 < m:=by omega
 have HB:=zh (Below.refl w.heap.size w)
 have l1 : 2001 ≤ data.size:=by omega
 have l2 : True:=trivial
 have l3 : True:=trivial
 go_enter Tryz.func22,Tryz.ntmps22
 go_wp2_with (first
  | ((with_reducible refine gate_dst (N:=1) rfl ?_);go_must (refine zx HB (N:=1) (cs:=#[.int .u8 kd,.string key,.string data,.int .u64 id,.int .i64 n,.int .i64 q,.slice A m c]) (t:=59) ?hr ?_;(case hr=>first | (go_simp;done) | (go_simp;rfl));intro gb w1 Kgb Lgb HB hbelgb hqgb;clear hbelgb hqgb))
  | ((with_reducible refine gate_dst (N:=2) rfl ?_);go_must (refine zx HB (N:=2) (cs:=#[.int .u8 0,.string ⟨#[]⟩,.string ⟨#[]⟩,.int .u64 0,.int .i64 0,.int .i64 0,.slice none 0 0]) (t:=59) ?hr ?_;(case hr=>first | (go_simp;done) | (go_simp;rfl));intro go w2 Kgo Lgo HB hbelgo hqgo;have M2:=zh (show gb < go by rw [hqgo];exact blk_lt Kgb.out);have Kgb:=zk Kgb hbelgo;obtain ⟨a0,a1,a2,a3,a4,a5,a6⟩:=zz7 Kgb.out;clear hbelgo hqgo))
  | (go_at_call 11;go_must (refine (HF.out _).mono ?_;rintro e w3 ⟨rfl,hb⟩;have hb:=outD hb;have HB:=keepB HB hb;have Kgb:=zk Kgb hb;have Kgo:=zk Kgo hb;clear hb a0 a1 a2 a3 a4 a5 a6))
  | ((with_reducible refine gate_store (t:=9) (p:=6) (v:=.tmp 5) rfl ?_);go_must (refine zq 9 (.tmp 6) (.tmp 5) gb 1 59 (.string (cutS 80 key)) Kgb (by kernel_rfl) ?_;intro w4 hk ho;have Kgb : Hid (w4.heap[gb]? = some (.cells #[.int .u8 kd,.string (cutS 80 key),.string data,.int .u64 id,.int .i64 n,.int .i64 q,.slice A m c] 59 (0,0))):=hk;have HB:=zo ho HB Lgb;have Kgo:=zl ho Kgo (by have:=M2.out;omega);obtain ⟨b0,b1,b2,b3,b4,b5,b6⟩:=zz7 Kgb.out;clear hk ho))
  | ((with_reducible refine gate_store (t:=9) (p:=14) (v:=.tmp 13) rfl ?_);go_must (refine zq 9 (.tmp 14) (.tmp 13) gb 2 59 (.string (data.extract 0 2001)) Kgb (by kernel_rfl) ?_;intro w5 hk ho;have Kgb : Hid (w5.heap[gb]? = some (.cells #[.int .u8 kd,.string (cutS 80 key),.string (data.extract 0 2001),.int .u64 id,.int .i64 n,.int .i64 q,.slice A m c] 59 (0,0))):=hk;have HB:=zo ho HB Lgb;have Kgo:=zl ho Kgo (by have:=M2.out;omega);clear b0 b1 b2 b3 b4 b5 b6;obtain ⟨b0,b1,b2,b3,b4,b5,b6⟩:=zz7 Kgb.out;clear hk ho))
  | ((with_reducible refine gate_store (t:=59) (p:=2) (v:=.tmp 23) rfl ?_);go_must (refine zs 59 (.tmp 2) (.tmp 23) go 0 59 [.int .u8 kd,.string (cutS 80 key),.string (data.extract 0 2001),.int .u64 id,.int .i64 n,.int .i64 q,.slice A m c] Kgo (by kernel_rfl) ?_;intro w7 hk ho;have HB:=zo ho HB Lgo;obtain ⟨z0,z1,z2,z3,z4,z5,z6⟩:=zz7 hk.out;clear hk ho)))
 refine bodyPost_ret (v:=.agg #[.int .u8 kd,.string (cutS 80 key),.string (data.extract 0 2001),.int .u64 id,.int .i64 n,.int .i64 q,.slice A m c]) (by simp [results,Tryz.results22,go_sem,z0,z1,z2,z3,z4,z5,z6]) rfl ?_
 exact ⟨rfl,HB.out⟩
theorem cut_01 (kd id n q : Int) (key data : ByteArray) (A : Option Addr) (m c : Nat) (w : World) (hm : m ≤ c) (hd : data.size ≤ 2001) (hp : 40 < m) :
  Calls Tryz.prog 22 #[.agg #[.int .u8 kd,.string key,.string data,.int .u64 id,.int .i64 n,.int .i64 q,.slice A m c]] w fun e w'=>e = .returned (.agg #[.int .u8 kd,.string (cutS 80 key),.string data,.int .u64 id,.int .i64 n,.int .i64 q,.slice A 40 c]) ∧ Below w.heap.size w w':=by
 have HF:=zh (fun (W : World)=>cellarerlaw01_Few.calls key _ W (few_cut key))
 have d0 : decide ((2001 : Int) < (data.size : Int)) = false:=decide_eq_false (by omega)
 have d1 : decide ((data.size : Int) > 2001) = false:=decide_eq_false (by omega)
 have d2 : ¬ 2001 < data.size:=by omega
 have p0 : decide ((40 : Int) < (m : Int)) = true:=decide_eq_true (by omega)
 have p1 : decide ((m : Int) > 40) = true:=decide_eq_true (by omega)
 have p2 : 40 < m:=by omega
 have HB:=zh (Below.refl w.heap.size w)
 have l1 : True:=trivial
 have l2 : 40 ≤ c:=by omega
 have l3 : 40 ≤ m:=by omega
 go_enter Tryz.func22,Tryz.ntmps22
 go_wp2_with (first
  | ((with_reducible refine gate_dst (N:=1) rfl ?_);go_must (refine zx HB (N:=1) (cs:=#[.int .u8 kd,.string key,.string data,.int .u64 id,.int .i64 n,.int .i64 q,.slice A m c]) (t:=59) ?hr ?_;(case hr=>first | (go_simp;done) | (go_simp;rfl));intro gb w1 Kgb Lgb HB hbelgb hqgb;clear hbelgb hqgb))
  | ((with_reducible refine gate_dst (N:=2) rfl ?_);go_must (refine zx HB (N:=2) (cs:=#[.int .u8 0,.string ⟨#[]⟩,.string ⟨#[]⟩,.int .u64 0,.int .i64 0,.int .i64 0,.slice none 0 0]) (t:=59) ?hr ?_;(case hr=>first | (go_simp;done) | (go_simp;rfl));intro go w2 Kgo Lgo HB hbelgo hqgo;have M2:=zh (show gb < go by rw [hqgo];exact blk_lt Kgb.out);have Kgb:=zk Kgb hbelgo;obtain ⟨a0,a1,a2,a3,a4,a5,a6⟩:=zz7 Kgb.out;clear hbelgo hqgo))
  | (go_at_call 11;go_must (refine (HF.out _).mono ?_;rintro e w3 ⟨rfl,hb⟩;have hb:=outD hb;have HB:=keepB HB hb;have Kgb:=zk Kgb hb;have Kgo:=zk Kgo hb;clear hb a0 a1 a2 a3 a4 a5 a6))
  | ((with_reducible refine gate_store (t:=9) (p:=6) (v:=.tmp 5) rfl ?_);go_must (refine zq 9 (.tmp 6) (.tmp 5) gb 1 59 (.string (cutS 80 key)) Kgb (by kernel_rfl) ?_;intro w4 hk ho;have Kgb : Hid (w4.heap[gb]? = some (.cells #[.int .u8 kd,.string (cutS 80 key),.string data,.int .u64 id,.int .i64 n,.int .i64 q,.slice A m c] 59 (0,0))):=hk;have HB:=zo ho HB Lgb;have Kgo:=zl ho Kgo (by have:=M2.out;omega);obtain ⟨b0,b1,b2,b3,b4,b5,b6⟩:=zz7 Kgb.out;clear hk ho))
  | ((with_reducible refine gate_store (t:=35) (p:=22) (v:=.tmp 21) rfl ?_);go_must (refine zq 35 (.tmp 22) (.tmp 21) gb 6 59 (.slice A 40 c) Kgb (by kernel_rfl) ?_;intro w6 hk ho;have Kgb : Hid (w6.heap[gb]? = some (.cells #[.int .u8 kd,.string (cutS 80 key),.string data,.int .u64 id,.int .i64 n,.int .i64 q,.slice A 40 c] 59 (0,0))):=hk;have HB:=zo ho HB Lgb;have Kgo:=zl ho Kgo (by have:=M2.out;omega);clear b0 b1 b2 b3 b4 b5 b6;obtain ⟨b0,b1,b2,b3,b4,b5,b6⟩:=zz7 Kgb.out;clear hk ho))
  | ((with_reducible refine gate_store (t:=59) (p:=2) (v:=.tmp 23) rfl ?_);go_must (refine zs 59 (.tmp 2) (.tmp 23) go 0 59 [.int .u8 kd,.string (cutS 80 key),.string data,.int .u64 id,.int .i64 n,.int .i64 q,.slice A 40 c] Kgo (by kernel_rfl) ?_;intro w7 hk ho;have HB:=zo ho HB Lgo;obtain ⟨z0,z1,z2,z3,z4,z5,z6⟩:=zz7 hk.out;clear hk ho)))
 refine bodyPost_ret (v:=.agg #[.int .u8 kd,.string (cutS 80 key),.string data,.int .u64 id,.int .i64 n,.int .i64 q,.slice A 40 c]) (by simp [results,Tryz.results22,go_sem,z0,z1,z2,z3,z4,z5,z6]) rfl ?_
 exact ⟨rfl,HB.out⟩
theorem cut_11 (kd id n q : Int) (key data : ByteArray) (A : Option Addr) (m c : Nat) (w : World) (hm : m ≤ c) (hd : 2001 < data.size) (hp : 40 < m) :
  Calls Tryz.prog 22 #[.agg #[.int .u8 kd,.string key,.string data,.int .u64 id,.int .i64 n,.int .i64 q,.slice A m c]] w fun e w'=>e = .returned (.agg #[.int .u8 kd,.string (cutS 80 key),.string (data.extract 0 2001),.int .u64 id,.int .i64 n,.int .i64 q,.slice A 40 c]) ∧ Below w.heap.size w w':=by
 have HF:=zh (fun (W : World)=>cellarerlaw01_Few.calls key _ W (few_cut key))
 have d0 : decide ((2001 : Int) < (data.size : Int)) = true:=decide_eq_true (by omega)
 have d1 : decide ((data.size : Int) > 2001) = true:=decide_eq_true (by omega)
 have d2 : 2001 < data.size:=by omega
 have p0 : decide ((40 : Int) < (m : Int)) = true:=decide_eq_true (by omega)
 have p1 : decide ((m : Int) > 40) = true:=decide_eq_true (by omega)
 have p2 : 40 < m:=by omega
 have HB:=zh (Below.refl w.heap.size w)
 have l1 : 2001 ≤ data.size:=by omega
 have l2 : 40 ≤ c:=by omega
 have l3 : 40 ≤ m:=by omega
 go_enter Tryz.func22,Tryz.ntmps22
 go_wp2_with (first
  | ((with_reducible refine gate_dst (N:=1) rfl ?_);go_must (refine zx HB (N:=1) (cs:=#[.int .u8 kd,.string key,.string data,.int .u64 id,.int .i64 n,.int .i64 q,.slice A m c]) (t:=59) ?hr ?_;(case hr=>first | (go_simp;done) | (go_simp;rfl));intro gb w1 Kgb Lgb HB hbelgb hqgb;clear hbelgb hqgb))
  | ((with_reducible refine gate_dst (N:=2) rfl ?_);go_must (refine zx HB (N:=2) (cs:=#[.int .u8 0,.string ⟨#[]⟩,.string ⟨#[]⟩,.int .u64 0,.int .i64 0,.int .i64 0,.slice none 0 0]) (t:=59) ?hr ?_;(case hr=>first | (go_simp;done) | (go_simp;rfl));intro go w2 Kgo Lgo HB hbelgo hqgo;have M2:=zh (show gb < go by rw [hqgo];exact blk_lt Kgb.out);have Kgb:=zk Kgb hbelgo;obtain ⟨a0,a1,a2,a3,a4,a5,a6⟩:=zz7 Kgb.out;clear hbelgo hqgo))
  | (go_at_call 11;go_must (refine (HF.out _).mono ?_;rintro e w3 ⟨rfl,hb⟩;have hb:=outD hb;have HB:=keepB HB hb;have Kgb:=zk Kgb hb;have Kgo:=zk Kgo hb;clear hb a0 a1 a2 a3 a4 a5 a6))
  | ((with_reducible refine gate_store (t:=9) (p:=6) (v:=.tmp 5) rfl ?_);go_must (refine zq 9 (.tmp 6) (.tmp 5) gb 1 59 (.string (cutS 80 key)) Kgb (by kernel_rfl) ?_;intro w4 hk ho;have Kgb : Hid (w4.heap[gb]? = some (.cells #[.int .u8 kd,.string (cutS 80 key),.string data,.int .u64 id,.int .i64 n,.int .i64 q,.slice A m c] 59 (0,0))):=hk;have HB:=zo ho HB Lgb;have Kgo:=zl ho Kgo (by have:=M2.out;omega);obtain ⟨b0,b1,b2,b3,b4,b5,b6⟩:=zz7 Kgb.out;clear hk ho))
  | ((with_reducible refine gate_store (t:=9) (p:=14) (v:=.tmp 13) rfl ?_);go_must (refine zq 9 (.tmp 14) (.tmp 13) gb 2 59 (.string (data.extract 0 2001)) Kgb (by kernel_rfl) ?_;intro w5 hk ho;have Kgb : Hid (w5.heap[gb]? = some (.cells #[.int .u8 kd,.string (cutS 80 key),.string (data.extract 0 2001),.int .u64 id,.int .i64 n,.int .i64 q,.slice A m c] 59 (0,0))):=hk;have HB:=zo ho HB Lgb;have Kgo:=zl ho Kgo (by have:=M2.out;omega);clear b0 b1 b2 b3 b4 b5 b6;obtain ⟨b0,b1,b2,b3,b4,b5,b6⟩:=zz7 Kgb.out;clear hk ho))
  | ((with_reducible refine gate_store (t:=35) (p:=22) (v:=.tmp 21) rfl ?_);go_must (refine zq 35 (.tmp 22) (.tmp 21) gb 6 59 (.slice A 40 c) Kgb (by kernel_rfl) ?_;intro w6 hk ho;have Kgb : Hid (w6.heap[gb]? = some (.cells #[.int .u8 kd,.string (cutS 80 key),.string (data.extract 0 2001),.int .u64 id,.int .i64 n,.int .i64 q,.slice A 40 c] 59 (0,0))):=hk;have HB:=zo ho HB Lgb;have Kgo:=zl ho Kgo (by have:=M2.out;omega);clear b0 b1 b2 b3 b4 b5 b6;obtain ⟨b0,b1,b2,b3,b4,b5,b6⟩:=zz7 Kgb.out;clear hk ho))
  | ((with_reducible refine gate_store (t:=59) (p:=2) (v:=.tmp 23) rfl ?_);go_must (refine zs 59 (.tmp 2) (.tmp 23) go 0 59 [.int .u8 kd,.string (cutS 80 key),.string (data.extract 0 2001),.int .u64 id,.int .i64 n,.int .i64 q,.slice A 40 c] Kgo (by kernel_rfl) ?_;intro w7 hk ho;have HB:=zo ho HB Lgo;obtain ⟨z0,z1,z2,z3,z4,z5,z6⟩:=zz7 hk.out;clear hk ho)))
 refine bodyPost_ret (v:=.agg #[.int .u8 kd,.string (cutS 80 key),.string (data.extract 0 2001),.int .u64 id,.int .i64 n,.int .i64 q,.slice A 40 c]) (by simp [results,Tryz.results22,go_sem,z0,z1,z2,z3,z4,z5,z6]) rfl ?_
 exact ⟨rfl,HB.out⟩
theorem cut.walk (kd id n q : Int) (key data : ByteArray) (A : Option Addr) (ps : List S43) (c : Nat) (w : World) (hm : ps.length ≤ c) :
  Calls Tryz.prog 22 #[.agg #[.int .u8 kd,.string key,.string data,.int .u64 id,.int .i64 n,.int .i64 q,.slice A ps.length c]] w fun e w'=>e = .returned (.agg #[.int .u8 kd,.string (cutS 80 key),.string (cutS 2001 data),.int .u64 id,.int .i64 n,.int .i64 q,.slice A (ps.take 40).length c]) ∧ Below w.heap.size w w':=by
 by_cases hd : 2001 < data.size
 ·have e1 : cutS 2001 data = data.extract 0 2001:=by unfold cutS;rw [if_pos hd]
  by_cases hp : 40 < ps.length
  ·have e2 : (ps.take 40).length = 40:=by rw [List.length_take];omega
   rw [e1,e2];exact cut_11 kd id n q key data A ps.length c w hm hd hp
  ·have e2 : (ps.take 40).length = ps.length:=by rw [List.length_take];omega
   rw [e1,e2];exact cut_10 kd id n q key data A ps.length c w hm hd (by omega)
 ·have e1 : cutS 2001 data = data:=by unfold cutS;rw [if_neg hd]
  by_cases hp : 40 < ps.length
  ·have e2 : (ps.take 40).length = 40:=by rw [List.length_take];omega
   rw [e1,e2];exact cut_01 kd id n q key data A ps.length c w hm (by omega) hp
  ·have e2 : (ps.take 40).length = ps.length:=by rw [List.length_take];omega
   rw [e1,e2];exact cut_00 kd id n q key data A ps.length c w hm (by omega) (by omega)
end
section
open Go.WideMaps Go.Maps
def DidLike (cs : Array Value) : Prop:=∃ (s : ByteArray) (i : Int) (A2 : Option Addr) (n2 c2 : Nat) (A3 : Option Addr) (n3 c3 : Nat) (l d : Int) (x : ByteArray) (e : Int),cs = #[.string s,.int .i64 i,.slice A2 n2 c2,.slice A3 n3 c3,.int .u64 l,.int .u64 d,.string x,.int .i64 e]
section
variable {w w1 : World} {g : Nat} {cs : Array Value} {t : TypeId} {fr : Nat × Nat} {A : Option Addr} {n : Nat}
theorem didV {l : List S47} (h : Kd.C k47 w A n l) (hg : w.heap[g]? = some (.cells cs t fr)) (hw : DidLike cs) (ho : Only g w w1) : Kd.C k47 w1 A n l :=
 C_sep h hg ho (fun x c o hk hc=>by
  obtain rfl:=k47_open hk
  obtain ⟨_,_,_,_,_,_,_,_,_,_,_,_,rfl⟩:=hw
  have h2:=hc 2 _ rfl
  rcases o with _ | _ | _ | _ | _ | _ | o <;> simp at h2) (fun x c hk=>by obtain rfl:=k47_open hk;exact k47_mk w1 x)
theorem didPt {l : List S40} (h : Kd.C k40 w A n l) (hg : w.heap[g]? = some (.cells cs t fr)) (hw : DidLike cs) (ho : Only g w w1) : Kd.C k40 w1 A n l :=
 C_sep h hg ho (fun x c o hk hc=>by
  obtain rfl:=k40_open hk
  obtain ⟨_,_,_,_,_,_,_,_,_,_,_,_,rfl⟩:=hw
  have h0:=hc 0 _ rfl
  have h1:=hc 1 _ rfl
  rcases o with _ | _ | _ | _ | _ | _ | _ | _ | o <;> simp at h0 h1) (fun x c hk=>by obtain rfl:=k40_open hk;exact k40_mk w1 x)
theorem didE {l : List S56} (h : Kd.C k56 w A n l) (hg : w.heap[g]? = some (.cells cs t fr)) (hw : DidLike cs) (ho : Only g w w1) : Kd.C k56 w1 A n l :=
 C_sep h hg ho (fun x c o hk hc=>by
  obtain ⟨A1,c1,rfl,_,_⟩:=k56_open hk
  obtain ⟨_,_,_,_,_,_,_,_,_,_,_,_,rfl⟩:=hw
  have h0:=hc 0 _ rfl
  have h1:=hc 1 _ rfl
  rcases o with _ | _ | _ | _ | _ | _ | _ | _ | o <;> simp at h0 h1) (fun x c hk=>by obtain ⟨A1,c1,rfl,h1,h2⟩:=k56_open hk;exact k56_mk w1 x h1 (didV h2 hg hw ho))
theorem didU {l : List S101} (h : Kd.C k101 w A n l) (hg : w.heap[g]? = some (.cells cs t fr)) (hw : DidLike cs) (ho : Only g w w1) : Kd.C k101 w1 A n l :=
 C_sep h hg ho (fun x c o hk hc=>by
  obtain ⟨A1,c1,rfl,_,_⟩:=k101_open hk
  obtain ⟨_,_,_,_,_,_,_,_,_,_,_,_,rfl⟩:=hw
  have h1:=hc 1 _ rfl
  have h2:=hc 2 _ rfl
  rcases o with _ | _ | _ | _ | _ | _ | _ | o <;> simp at h1 h2) (fun x c hk=>by obtain ⟨A1,c1,rfl,h1,h2⟩:=k101_open hk;exact k101_mk w1 x h1 (didPt h2 hg hw ho))
end
end
section
open Go.WideMaps Go.Maps
attribute [local go_sem] Oper.semAt_some
def DoPost (x : S26) (id : Int) (tg : ByteArray) (er : Int) (w : World) (e : Ending) (w' : World) : Prop :=
 ∃ A5 c5 A6 c6,e = .returned (.agg #[.string x.f0,.int .i64 x.f1,.slice A5 x.f2.length c5,.slice A6 x.f3.length c6,.int .u64 x.f4,.int .u64 id,.string tg,.int .i64 er]) ∧ x.f2.length ≤ c5 ∧ x.f3.length ≤ c6 ∧ Kd.C k56 w' A5 x.f2.length x.f2 ∧ Kd.C k101 w' A6 x.f3.length x.f3 ∧ Below w.heap.size w w'
theorem did_like (s : ByteArray) (i : Int) (A2 : Option Addr) (n2 c2 : Nat) (A3 : Option Addr) (n3 c3 : Nat) (l d : Int) (x : ByteArray) (e : Int) : DidLike #[.string s,.int .i64 i,.slice A2 n2 c2,.slice A3 n3 c3,.int .u64 l,.int .u64 d,.string x,.int .i64 e]:=⟨s,i,A2,n2,c2,A3,n3,c3,l,d,x,e,rfl⟩
theorem do_put0 (b : S26) (A2 A3 : Option Addr) (c2 c3 : Nat) (kd id n q : Int) (key data : ByteArray) (A : Option Addr) (ps : List S43) (c : Nat) (w : World) (h2 : Kd.C k56 w A2 b.f2.length b.f2) (g2 : b.f2.length ≤ c2) (h3 : Kd.C k101 w A3 b.f3.length b.f3) (g3 : b.f3.length ≤ c3) (hk : Int.tmod kd 9 = 0) :
  Calls Tryz.prog 23 #[.agg #[.string b.f0,.int .i64 b.f1,.slice A2 b.f2.length c2,.slice A3 b.f3.length c3,.int .u64 b.f4],.agg #[.int .u8 kd,.string key,.string data,.int .u64 id,.int .i64 n,.int .i64 q,.slice A ps.length c]] w (DoPost (laidR b key (fun l id=>putV l b.f1 ⟨id,data,false,q⟩)).1 (laidR b key (fun l id=>putV l b.f1 ⟨id,data,false,q⟩)).2.1 ⟨#[]⟩ (laidR b key (fun l id=>putV l b.f1 ⟨id,data,false,q⟩)).2.2 w):=by
 have HC:=zh (fun (W : World) (h : Below w.heap.size w W)=>putB.walk b A2 A3 c2 c3 key data q W (Kd.C_below h2 h) g2 (Kd.C_below h3 h) g3)
 generalize laidR b key (fun l id=>putV l b.f1 ⟨id,data,false,q⟩) = r at *
 obtain ⟨kb,li,er⟩:=r
 have HB:=zh (Below.refl w.heap.size w)
 have kf : ∀ j : Int,(Int.tmod kd 9 == j) = ((0 : Int) == j):=fun j=>by rw [hk]
 have e0 : (Int.tmod kd 9 == 0) = true:=kf 0
 have e1 : (Int.tmod kd 9 == 1) = false:=kf 1
 have e2 : (Int.tmod kd 9 == 2) = false:=kf 2
 have e3 : (Int.tmod kd 9 == 3) = false:=kf 3
 have e4 : (Int.tmod kd 9 == 4) = false:=kf 4
 have e5 : (Int.tmod kd 9 == 5) = false:=kf 5
 have e6 : (Int.tmod kd 9 == 6) = false:=kf 6
 have e7 : (Int.tmod kd 9 == 7) = false:=kf 7
 clear h2 h3 g2 g3 kf hk
 go_enter Tryz.func23,Tryz.ntmps23
 go_wp2_with (first
  | ((with_reducible refine gate_dst (N:=2) rfl ?_);go_must (refine zx HB (N:=2) (cs:=#[.string b.f0,.int .i64 b.f1,.slice A2 b.f2.length c2,.slice A3 b.f3.length c3,.int .u64 b.f4]) (t:=26) ?hr ?_;(case hr=>first | (go_simp;done) | (go_simp;rfl));intro gb w1 Kgb Lgb HB hbelgb hqgb;clear hbelgb hqgb))
  | ((with_reducible refine gate_dst (N:=3) rfl ?_);go_must (refine zx HB (N:=3) (cs:=#[.int .u8 kd,.string key,.string data,.int .u64 id,.int .i64 n,.int .i64 q,.slice A ps.length c]) (t:=59) ?hr ?_;(case hr=>first | (go_simp;done) | (go_simp;rfl));intro ga w2 Kga Lga HB hbelga hqga;have M1:=zh (show gb < ga by rw [hqga];exact blk_lt Kgb.out);have Kgb:=zk Kgb hbelga;clear hbelga hqga))
  | ((with_reducible refine gate_dst (N:=4) rfl ?_);go_must (refine zx HB (N:=4) (cs:=#[.string ⟨#[]⟩,.int .i64 0,.slice none 0 0,.slice none 0 0,.int .u64 0,.int .u64 0,.string ⟨#[]⟩,.int .i64 0]) (t:=62) ?hr ?_;(case hr=>first | (go_simp;done) | (go_simp;rfl));intro go w3 Kgo Lgo HB hbelgo hqgo;have M2:=zh (show ga < go by rw [hqgo];exact blk_lt Kga.out);have Kgb:=zk Kgb hbelgo;have Kga:=zk Kga hbelgo;clear hbelgo hqgo))
  | ((with_reducible refine gate_dst (N:=5) rfl ?_);go_must (refine zx HB (N:=5) (cs:=#[.string ⟨#[]⟩,.int .i64 0,.slice none 0 0,.slice none 0 0,.int .u64 0,.int .u64 0,.string ⟨#[]⟩,.int .i64 0]) (t:=62) ?hr ?_;(case hr=>first | (go_simp;done) | (go_simp;rfl));intro gd w4 Kgd Lgd HB hbelgd hqgd;have M3:=zh (show go < gd by rw [hqgd];exact blk_lt Kgo.out);have Kgb:=zk Kgb hbelgd;have Kga:=zk Kga hbelgd;have Kgo:=zk Kgo hbelgd;clear hbelgd hqgd))
  | ((with_reducible refine gate_store (t:=62) (p:=5) (v:=.tmp 9) rfl ?_);go_must (refine zs 62 (.tmp 5) (.tmp 9) gd 0 62 [.string ⟨#[]⟩,.int .i64 0,.slice none 0 0,.slice none 0 0,.int .u64 0,.int .u64 0,.string ⟨#[]⟩,.int .i64 0] Kgd (by kernel_rfl) ?_;intro w5 hk ho;have Kgd : Hid (w5.heap[gd]? = some (.cells #[.string ⟨#[]⟩,.int .i64 0,.slice none 0 0,.slice none 0 0,.int .u64 0,.int .u64 0,.string ⟨#[]⟩,.int .i64 0] 62 (0,0))):=hk;have HB:=zo ho HB Lgd;have Kgb:=zl ho Kgb (by have:=M1.out;have:=M2.out;have:=M3.out;omega);have Kga:=zl ho Kga (by have:=M1.out;have:=M2.out;have:=M3.out;omega);have Kgo:=zl ho Kgo (by have:=M1.out;have:=M2.out;have:=M3.out;omega);obtain ⟨a0,a1,a2,a3,a4⟩:=zz5 Kgb.out;obtain ⟨b0,b1,b2,b3,b4,b5,b6⟩:=zz7 Kga.out;clear hk ho))
  | (go_at_call 19;go_must (refine (HC.out _ HB.out).mono ?_;rintro e w6 ⟨v,rfl,⟨A5,c5,A6,c6,rfl,y1,y2,y3,y4⟩,hb⟩;have Y3:=zh y3;have Y4:=zh y4;have HB:=keepB HB hb;have Kgo:=zk Kgo hb;have Kgd:=zk Kgd hb;clear hb y3 y4 a0 a1 a2 a3 a4 b0 b1 b2 b3 b4 b5 b6))
  | ((with_reducible refine gate_store (t:=26) (p:=45) (v:=.tmp 42) rfl ?_);go_must (refine zs 26 (.tmp 45) (.tmp 42) gd 0 62 [.string kb.f0,.int .i64 kb.f1,.slice A5 kb.f2.length c5,.slice A6 kb.f3.length c6,.int .u64 kb.f4] Kgd isz_bucket ?_;intro x0 hk ho;have Y3:=zh (didE Y3.out Kgd.out (did_like _ _ _ _ _ _ _ _ _ _ _ _) ho.out);have Y4:=zh (didU Y4.out Kgd.out (did_like _ _ _ _ _ _ _ _ _ _ _ _) ho.out);have Kgd : Hid (x0.heap[gd]? = some (.cells #[.string kb.f0,.int .i64 kb.f1,.slice A5 kb.f2.length c5,.slice A6 kb.f3.length c6,.int .u64 kb.f4,.int .u64 0,.string ⟨#[]⟩,.int .i64 0] 62 (0,0))):=hk;have HB:=zo ho HB Lgd;have Kgo:=zl ho Kgo (by have:=M3.out;omega);clear hk ho))
  | ((with_reducible refine gate_store (t:=24) (p:=46) (v:=.tmp 43) rfl ?_);go_must (refine zq 24 (.tmp 46) (.tmp 43) gd 5 62 (.int .u64 li) Kgd (by kernel_rfl) ?_;intro x1 hk ho;have Y3:=zh (didE Y3.out Kgd.out (did_like _ _ _ _ _ _ _ _ _ _ _ _) ho.out);have Y4:=zh (didU Y4.out Kgd.out (did_like _ _ _ _ _ _ _ _ _ _ _ _) ho.out);have Kgd : Hid (x1.heap[gd]? = some (.cells #[.string kb.f0,.int .i64 kb.f1,.slice A5 kb.f2.length c5,.slice A6 kb.f3.length c6,.int .u64 kb.f4,.int .u64 li,.string ⟨#[]⟩,.int .i64 0] 62 (0,0))):=hk;have HB:=zo ho HB Lgd;have Kgo:=zl ho Kgo (by have:=M3.out;omega);clear hk ho))
  | ((with_reducible refine gate_store (t:=30) (p:=47) (v:=.tmp 44) rfl ?_);go_must (refine zq 30 (.tmp 47) (.tmp 44) gd 7 62 (.int .i64 er) Kgd (by kernel_rfl) ?_;intro x2 hk ho;have Y3:=zh (didE Y3.out Kgd.out (did_like _ _ _ _ _ _ _ _ _ _ _ _) ho.out);have Y4:=zh (didU Y4.out Kgd.out (did_like _ _ _ _ _ _ _ _ _ _ _ _) ho.out);have Kgd : Hid (x2.heap[gd]? = some (.cells #[.string kb.f0,.int .i64 kb.f1,.slice A5 kb.f2.length c5,.slice A6 kb.f3.length c6,.int .u64 kb.f4,.int .u64 li,.string ⟨#[]⟩,.int .i64 er] 62 (0,0))):=hk;have HB:=zo ho HB Lgd;have Kgo:=zl ho Kgo (by have:=M3.out;omega);obtain ⟨d0,d1,d2,d3,d4,d5,d6,d7⟩:=zz8 Kgd.out;clear hk ho))
  | ((with_reducible refine gate_store (t:=62) (p:=4) (v:=.tmp 133) rfl ?_);go_must (refine zs 62 (.tmp 4) (.tmp 133) go 0 62 [.string kb.f0,.int .i64 kb.f1,.slice A5 kb.f2.length c5,.slice A6 kb.f3.length c6,.int .u64 kb.f4,.int .u64 li,.string ⟨#[]⟩,.int .i64 er] Kgo (by kernel_rfl) ?_;intro x9 hk ho;have Y3:=zh (didE Y3.out Kgo.out (did_like _ _ _ _ _ _ _ _ _ _ _ _) ho.out);have Y4:=zh (didU Y4.out Kgo.out (did_like _ _ _ _ _ _ _ _ _ _ _ _) ho.out);have HB:=zo ho HB Lgo;obtain ⟨z0,z1,z2,z3,z4,z5,z6,z7⟩:=zz8 hk.out;clear hk ho)))
 refine bodyPost_ret (v:=.agg #[.string kb.f0,.int .i64 kb.f1,.slice A5 kb.f2.length c5,.slice A6 kb.f3.length c6,.int .u64 kb.f4,.int .u64 li,.string ⟨#[]⟩,.int .i64 er]) (by simp [results,Tryz.results23,go_sem,z0,z1,z2,z3,z4,z5,z6,z7]) rfl ?_
 exact ⟨A5,c5,A6,c6,rfl,y1,y2,Y3.out,Y4.out,HB.out⟩
theorem do_put1 (b : S26) (A2 A3 : Option Addr) (c2 c3 : Nat) (kd id n q : Int) (key data : ByteArray) (A : Option Addr) (ps : List S43) (c : Nat) (w : World) (h2 : Kd.C k56 w A2 b.f2.length b.f2) (g2 : b.f2.length ≤ c2) (h3 : Kd.C k101 w A3 b.f3.length b.f3) (g3 : b.f3.length ≤ c3) (hk : Int.tmod kd 9 = 1) :
  Calls Tryz.prog 23 #[.agg #[.string b.f0,.int .i64 b.f1,.slice A2 b.f2.length c2,.slice A3 b.f3.length c3,.int .u64 b.f4],.agg #[.int .u8 kd,.string key,.string data,.int .u64 id,.int .i64 n,.int .i64 q,.slice A ps.length c]] w (DoPost (laidR b key (fun l id=>putV l b.f1 ⟨id,data,false,q⟩)).1 (laidR b key (fun l id=>putV l b.f1 ⟨id,data,false,q⟩)).2.1 ⟨#[]⟩ (laidR b key (fun l id=>putV l b.f1 ⟨id,data,false,q⟩)).2.2 w):=by
 have HC:=zh (fun (W : World) (h : Below w.heap.size w W)=>putB.walk b A2 A3 c2 c3 key data q W (Kd.C_below h2 h) g2 (Kd.C_below h3 h) g3)
 generalize laidR b key (fun l id=>putV l b.f1 ⟨id,data,false,q⟩) = r at *
 obtain ⟨kb,li,er⟩:=r
 have HB:=zh (Below.refl w.heap.size w)
 have kf : ∀ j : Int,(Int.tmod kd 9 == j) = ((1 : Int) == j):=fun j=>by rw [hk]
 have e0 : (Int.tmod kd 9 == 0) = false:=kf 0
 have e1 : (Int.tmod kd 9 == 1) = true:=kf 1
 have e2 : (Int.tmod kd 9 == 2) = false:=kf 2
 have e3 : (Int.tmod kd 9 == 3) = false:=kf 3
 have e4 : (Int.tmod kd 9 == 4) = false:=kf 4
 have e5 : (Int.tmod kd 9 == 5) = false:=kf 5
 have e6 : (Int.tmod kd 9 == 6) = false:=kf 6
 have e7 : (Int.tmod kd 9 == 7) = false:=kf 7
 clear h2 h3 g2 g3 kf hk
 go_enter Tryz.func23,Tryz.ntmps23
 go_wp2_with (first
  | ((with_reducible refine gate_dst (N:=2) rfl ?_);go_must (refine zx HB (N:=2) (cs:=#[.string b.f0,.int .i64 b.f1,.slice A2 b.f2.length c2,.slice A3 b.f3.length c3,.int .u64 b.f4]) (t:=26) ?hr ?_;(case hr=>first | (go_simp;done) | (go_simp;rfl));intro gb w1 Kgb Lgb HB hbelgb hqgb;clear hbelgb hqgb))
  | ((with_reducible refine gate_dst (N:=3) rfl ?_);go_must (refine zx HB (N:=3) (cs:=#[.int .u8 kd,.string key,.string data,.int .u64 id,.int .i64 n,.int .i64 q,.slice A ps.length c]) (t:=59) ?hr ?_;(case hr=>first | (go_simp;done) | (go_simp;rfl));intro ga w2 Kga Lga HB hbelga hqga;have M1:=zh (show gb < ga by rw [hqga];exact blk_lt Kgb.out);have Kgb:=zk Kgb hbelga;clear hbelga hqga))
  | ((with_reducible refine gate_dst (N:=4) rfl ?_);go_must (refine zx HB (N:=4) (cs:=#[.string ⟨#[]⟩,.int .i64 0,.slice none 0 0,.slice none 0 0,.int .u64 0,.int .u64 0,.string ⟨#[]⟩,.int .i64 0]) (t:=62) ?hr ?_;(case hr=>first | (go_simp;done) | (go_simp;rfl));intro go w3 Kgo Lgo HB hbelgo hqgo;have M2:=zh (show ga < go by rw [hqgo];exact blk_lt Kga.out);have Kgb:=zk Kgb hbelgo;have Kga:=zk Kga hbelgo;clear hbelgo hqgo))
  | ((with_reducible refine gate_dst (N:=5) rfl ?_);go_must (refine zx HB (N:=5) (cs:=#[.string ⟨#[]⟩,.int .i64 0,.slice none 0 0,.slice none 0 0,.int .u64 0,.int .u64 0,.string ⟨#[]⟩,.int .i64 0]) (t:=62) ?hr ?_;(case hr=>first | (go_simp;done) | (go_simp;rfl));intro gd w4 Kgd Lgd HB hbelgd hqgd;have M3:=zh (show go < gd by rw [hqgd];exact blk_lt Kgo.out);have Kgb:=zk Kgb hbelgd;have Kga:=zk Kga hbelgd;have Kgo:=zk Kgo hbelgd;clear hbelgd hqgd))
  | ((with_reducible refine gate_store (t:=62) (p:=5) (v:=.tmp 9) rfl ?_);go_must (refine zs 62 (.tmp 5) (.tmp 9) gd 0 62 [.string ⟨#[]⟩,.int .i64 0,.slice none 0 0,.slice none 0 0,.int .u64 0,.int .u64 0,.string ⟨#[]⟩,.int .i64 0] Kgd (by kernel_rfl) ?_;intro w5 hk ho;have Kgd : Hid (w5.heap[gd]? = some (.cells #[.string ⟨#[]⟩,.int .i64 0,.slice none 0 0,.slice none 0 0,.int .u64 0,.int .u64 0,.string ⟨#[]⟩,.int .i64 0] 62 (0,0))):=hk;have HB:=zo ho HB Lgd;have Kgb:=zl ho Kgb (by have:=M1.out;have:=M2.out;have:=M3.out;omega);have Kga:=zl ho Kga (by have:=M1.out;have:=M2.out;have:=M3.out;omega);have Kgo:=zl ho Kgo (by have:=M1.out;have:=M2.out;have:=M3.out;omega);obtain ⟨a0,a1,a2,a3,a4⟩:=zz5 Kgb.out;obtain ⟨b0,b1,b2,b3,b4,b5,b6⟩:=zz7 Kga.out;clear hk ho))
  | (go_at_call 19;go_must (refine (HC.out _ HB.out).mono ?_;rintro e w6 ⟨v,rfl,⟨A5,c5,A6,c6,rfl,y1,y2,y3,y4⟩,hb⟩;have Y3:=zh y3;have Y4:=zh y4;have HB:=keepB HB hb;have Kgo:=zk Kgo hb;have Kgd:=zk Kgd hb;clear hb y3 y4 a0 a1 a2 a3 a4 b0 b1 b2 b3 b4 b5 b6))
  | ((with_reducible refine gate_store (t:=26) (p:=45) (v:=.tmp 42) rfl ?_);go_must (refine zs 26 (.tmp 45) (.tmp 42) gd 0 62 [.string kb.f0,.int .i64 kb.f1,.slice A5 kb.f2.length c5,.slice A6 kb.f3.length c6,.int .u64 kb.f4] Kgd isz_bucket ?_;intro x0 hk ho;have Y3:=zh (didE Y3.out Kgd.out (did_like _ _ _ _ _ _ _ _ _ _ _ _) ho.out);have Y4:=zh (didU Y4.out Kgd.out (did_like _ _ _ _ _ _ _ _ _ _ _ _) ho.out);have Kgd : Hid (x0.heap[gd]? = some (.cells #[.string kb.f0,.int .i64 kb.f1,.slice A5 kb.f2.length c5,.slice A6 kb.f3.length c6,.int .u64 kb.f4,.int .u64 0,.string ⟨#[]⟩,.int .i64 0] 62 (0,0))):=hk;have HB:=zo ho HB Lgd;have Kgo:=zl ho Kgo (by have:=M3.out;omega);clear hk ho))
  | ((with_reducible refine gate_store (t:=24) (p:=46) (v:=.tmp 43) rfl ?_);go_must (refine zq 24 (.tmp 46) (.tmp 43) gd 5 62 (.int .u64 li) Kgd (by kernel_rfl) ?_;intro x1 hk ho;have Y3:=zh (didE Y3.out Kgd.out (did_like _ _ _ _ _ _ _ _ _ _ _ _) ho.out);have Y4:=zh (didU Y4.out Kgd.out (did_like _ _ _ _ _ _ _ _ _ _ _ _) ho.out);have Kgd : Hid (x1.heap[gd]? = some (.cells #[.string kb.f0,.int .i64 kb.f1,.slice A5 kb.f2.length c5,.slice A6 kb.f3.length c6,.int .u64 kb.f4,.int .u64 li,.string ⟨#[]⟩,.int .i64 0] 62 (0,0))):=hk;have HB:=zo ho HB Lgd;have Kgo:=zl ho Kgo (by have:=M3.out;omega);clear hk ho))
  | ((with_reducible refine gate_store (t:=30) (p:=47) (v:=.tmp 44) rfl ?_);go_must (refine zq 30 (.tmp 47) (.tmp 44) gd 7 62 (.int .i64 er) Kgd (by kernel_rfl) ?_;intro x2 hk ho;have Y3:=zh (didE Y3.out Kgd.out (did_like _ _ _ _ _ _ _ _ _ _ _ _) ho.out);have Y4:=zh (didU Y4.out Kgd.out (did_like _ _ _ _ _ _ _ _ _ _ _ _) ho.out);have Kgd : Hid (x2.heap[gd]? = some (.cells #[.string kb.f0,.int .i64 kb.f1,.slice A5 kb.f2.length c5,.slice A6 kb.f3.length c6,.int .u64 kb.f4,.int .u64 li,.string ⟨#[]⟩,.int .i64 er] 62 (0,0))):=hk;have HB:=zo ho HB Lgd;have Kgo:=zl ho Kgo (by have:=M3.out;omega);obtain ⟨d0,d1,d2,d3,d4,d5,d6,d7⟩:=zz8 Kgd.out;clear hk ho))
  | ((with_reducible refine gate_store (t:=62) (p:=4) (v:=.tmp 133) rfl ?_);go_must (refine zs 62 (.tmp 4) (.tmp 133) go 0 62 [.string kb.f0,.int .i64 kb.f1,.slice A5 kb.f2.length c5,.slice A6 kb.f3.length c6,.int .u64 kb.f4,.int .u64 li,.string ⟨#[]⟩,.int .i64 er] Kgo (by kernel_rfl) ?_;intro x9 hk ho;have Y3:=zh (didE Y3.out Kgo.out (did_like _ _ _ _ _ _ _ _ _ _ _ _) ho.out);have Y4:=zh (didU Y4.out Kgo.out (did_like _ _ _ _ _ _ _ _ _ _ _ _) ho.out);have HB:=zo ho HB Lgo;obtain ⟨z0,z1,z2,z3,z4,z5,z6,z7⟩:=zz8 hk.out;clear hk ho)))
 refine bodyPost_ret (v:=.agg #[.string kb.f0,.int .i64 kb.f1,.slice A5 kb.f2.length c5,.slice A6 kb.f3.length c6,.int .u64 kb.f4,.int .u64 li,.string ⟨#[]⟩,.int .i64 er]) (by simp [results,Tryz.results23,go_sem,z0,z1,z2,z3,z4,z5,z6,z7]) rfl ?_
 exact ⟨A5,c5,A6,c6,rfl,y1,y2,Y3.out,Y4.out,HB.out⟩
end
section
open Go.WideMaps Go.Maps
attribute [local go_sem] Oper.semAt_some
theorem do_del (b : S26) (A2 A3 : Option Addr) (c2 c3 : Nat) (kd id n q : Int) (key data : ByteArray) (A : Option Addr) (ps : List S43) (c : Nat) (w : World) (h2 : Kd.C k56 w A2 b.f2.length b.f2) (g2 : b.f2.length ≤ c2) (h3 : Kd.C k101 w A3 b.f3.length b.f3) (g3 : b.f3.length ≤ c3) (hk : Int.tmod kd 9 = 2) :
  Calls Tryz.prog 23 #[.agg #[.string b.f0,.int .i64 b.f1,.slice A2 b.f2.length c2,.slice A3 b.f3.length c3,.int .u64 b.f4],.agg #[.int .u8 kd,.string key,.string data,.int .u64 id,.int .i64 n,.int .i64 q,.slice A ps.length c]] w (DoPost (laidR b key (fun l id=>deleteV l b.f1 id q)).1 (laidR b key (fun l id=>deleteV l b.f1 id q)).2.1 ⟨#[]⟩ (laidR b key (fun l id=>deleteV l b.f1 id q)).2.2 w):=by
 have HC:=zh (fun (W : World) (h : Below w.heap.size w W)=>delB.walk b A2 A3 c2 c3 key q W (Kd.C_below h2 h) g2 (Kd.C_below h3 h) g3)
 generalize laidR b key (fun l id=>deleteV l b.f1 id q) = r at *
 obtain ⟨kb,li,er⟩:=r
 have HB:=zh (Below.refl w.heap.size w)
 have kf : ∀ j : Int,(Int.tmod kd 9 == j) = ((2 : Int) == j):=fun j=>by rw [hk]
 have e0 : (Int.tmod kd 9 == 0) = false:=kf 0
 have e1 : (Int.tmod kd 9 == 1) = false:=kf 1
 have e2 : (Int.tmod kd 9 == 2) = true:=kf 2
 have e3 : (Int.tmod kd 9 == 3) = false:=kf 3
 have e4 : (Int.tmod kd 9 == 4) = false:=kf 4
 have e5 : (Int.tmod kd 9 == 5) = false:=kf 5
 have e6 : (Int.tmod kd 9 == 6) = false:=kf 6
 have e7 : (Int.tmod kd 9 == 7) = false:=kf 7
 clear h2 h3 g2 g3 kf hk
 go_enter Tryz.func23,Tryz.ntmps23
 go_wp2_with (first
  | ((with_reducible refine gate_dst (N:=2) rfl ?_);go_must (refine zx HB (N:=2) (cs:=#[.string b.f0,.int .i64 b.f1,.slice A2 b.f2.length c2,.slice A3 b.f3.length c3,.int .u64 b.f4]) (t:=26) ?hr ?_;(case hr=>first | (go_simp;done) | (go_simp;rfl));intro gb w1 Kgb Lgb HB hbelgb hqgb;clear hbelgb hqgb))
  | ((with_reducible refine gate_dst (N:=3) rfl ?_);go_must (refine zx HB (N:=3) (cs:=#[.int .u8 kd,.string key,.string data,.int .u64 id,.int .i64 n,.int .i64 q,.slice A ps.length c]) (t:=59) ?hr ?_;(case hr=>first | (go_simp;done) | (go_simp;rfl));intro ga w2 Kga Lga HB hbelga hqga;have M1:=zh (show gb < ga by rw [hqga];exact blk_lt Kgb.out);have Kgb:=zk Kgb hbelga;clear hbelga hqga))
  | ((with_reducible refine gate_dst (N:=4) rfl ?_);go_must (refine zx HB (N:=4) (cs:=#[.string ⟨#[]⟩,.int .i64 0,.slice none 0 0,.slice none 0 0,.int .u64 0,.int .u64 0,.string ⟨#[]⟩,.int .i64 0]) (t:=62) ?hr ?_;(case hr=>first | (go_simp;done) | (go_simp;rfl));intro go w3 Kgo Lgo HB hbelgo hqgo;have M2:=zh (show ga < go by rw [hqgo];exact blk_lt Kga.out);have Kgb:=zk Kgb hbelgo;have Kga:=zk Kga hbelgo;clear hbelgo hqgo))
  | ((with_reducible refine gate_dst (N:=5) rfl ?_);go_must (refine zx HB (N:=5) (cs:=#[.string ⟨#[]⟩,.int .i64 0,.slice none 0 0,.slice none 0 0,.int .u64 0,.int .u64 0,.string ⟨#[]⟩,.int .i64 0]) (t:=62) ?hr ?_;(case hr=>first | (go_simp;done) | (go_simp;rfl));intro gd w4 Kgd Lgd HB hbelgd hqgd;have M3:=zh (show go < gd by rw [hqgd];exact blk_lt Kgo.out);have Kgb:=zk Kgb hbelgd;have Kga:=zk Kga hbelgd;have Kgo:=zk Kgo hbelgd;clear hbelgd hqgd))
  | ((with_reducible refine gate_store (t:=62) (p:=5) (v:=.tmp 9) rfl ?_);go_must (refine zs 62 (.tmp 5) (.tmp 9) gd 0 62 [.string ⟨#[]⟩,.int .i64 0,.slice none 0 0,.slice none 0 0,.int .u64 0,.int .u64 0,.string ⟨#[]⟩,.int .i64 0] Kgd (by kernel_rfl) ?_;intro w5 hk ho;have Kgd : Hid (w5.heap[gd]? = some (.cells #[.string ⟨#[]⟩,.int .i64 0,.slice none 0 0,.slice none 0 0,.int .u64 0,.int .u64 0,.string ⟨#[]⟩,.int .i64 0] 62 (0,0))):=hk;have HB:=zo ho HB Lgd;have Kgb:=zl ho Kgb (by have:=M1.out;have:=M2.out;have:=M3.out;omega);have Kga:=zl ho Kga (by have:=M1.out;have:=M2.out;have:=M3.out;omega);have Kgo:=zl ho Kgo (by have:=M1.out;have:=M2.out;have:=M3.out;omega);obtain ⟨a0,a1,a2,a3,a4⟩:=zz5 Kgb.out;obtain ⟨b0,b1,b2,b3,b4,b5,b6⟩:=zz7 Kga.out;clear hk ho))
  | (go_at_call 39;go_must (refine (HC.out _ HB.out).mono ?_;rintro e w6 ⟨v,rfl,⟨A5,c5,A6,c6,rfl,y1,y2,y3,y4⟩,hb⟩;have Y3:=zh y3;have Y4:=zh y4;have HB:=keepB HB hb;have Kgo:=zk Kgo hb;have Kgd:=zk Kgd hb;clear hb y3 y4 a0 a1 a2 a3 a4 b0 b1 b2 b3 b4 b5 b6))
  | ((with_reducible refine gate_store (t:=26) (p:=60) (v:=.tmp 57) rfl ?_);go_must (refine zs 26 (.tmp 60) (.tmp 57) gd 0 62 [.string kb.f0,.int .i64 kb.f1,.slice A5 kb.f2.length c5,.slice A6 kb.f3.length c6,.int .u64 kb.f4] Kgd isz_bucket ?_;intro x0 hk ho;have Y3:=zh (didE Y3.out Kgd.out (did_like _ _ _ _ _ _ _ _ _ _ _ _) ho.out);have Y4:=zh (didU Y4.out Kgd.out (did_like _ _ _ _ _ _ _ _ _ _ _ _) ho.out);have Kgd : Hid (x0.heap[gd]? = some (.cells #[.string kb.f0,.int .i64 kb.f1,.slice A5 kb.f2.length c5,.slice A6 kb.f3.length c6,.int .u64 kb.f4,.int .u64 0,.string ⟨#[]⟩,.int .i64 0] 62 (0,0))):=hk;have HB:=zo ho HB Lgd;have Kgo:=zl ho Kgo (by have:=M3.out;omega);clear hk ho))
  | ((with_reducible refine gate_store (t:=24) (p:=61) (v:=.tmp 58) rfl ?_);go_must (refine zq 24 (.tmp 61) (.tmp 58) gd 5 62 (.int .u64 li) Kgd (by kernel_rfl) ?_;intro x1 hk ho;have Y3:=zh (didE Y3.out Kgd.out (did_like _ _ _ _ _ _ _ _ _ _ _ _) ho.out);have Y4:=zh (didU Y4.out Kgd.out (did_like _ _ _ _ _ _ _ _ _ _ _ _) ho.out);have Kgd : Hid (x1.heap[gd]? = some (.cells #[.string kb.f0,.int .i64 kb.f1,.slice A5 kb.f2.length c5,.slice A6 kb.f3.length c6,.int .u64 kb.f4,.int .u64 li,.string ⟨#[]⟩,.int .i64 0] 62 (0,0))):=hk;have HB:=zo ho HB Lgd;have Kgo:=zl ho Kgo (by have:=M3.out;omega);clear hk ho))
  | ((with_reducible refine gate_store (t:=30) (p:=62) (v:=.tmp 59) rfl ?_);go_must (refine zq 30 (.tmp 62) (.tmp 59) gd 7 62 (.int .i64 er) Kgd (by kernel_rfl) ?_;intro x2 hk ho;have Y3:=zh (didE Y3.out Kgd.out (did_like _ _ _ _ _ _ _ _ _ _ _ _) ho.out);have Y4:=zh (didU Y4.out Kgd.out (did_like _ _ _ _ _ _ _ _ _ _ _ _) ho.out);have Kgd : Hid (x2.heap[gd]? = some (.cells #[.string kb.f0,.int .i64 kb.f1,.slice A5 kb.f2.length c5,.slice A6 kb.f3.length c6,.int .u64 kb.f4,.int .u64 li,.string ⟨#[]⟩,.int .i64 er] 62 (0,0))):=hk;have HB:=zo ho HB Lgd;have Kgo:=zl ho Kgo (by have:=M3.out;omega);obtain ⟨d0,d1,d2,d3,d4,d5,d6,d7⟩:=zz8 Kgd.out;clear hk ho))
  | ((with_reducible refine gate_store (t:=62) (p:=4) (v:=.tmp 133) rfl ?_);go_must (refine zs 62 (.tmp 4) (.tmp 133) go 0 62 [.string kb.f0,.int .i64 kb.f1,.slice A5 kb.f2.length c5,.slice A6 kb.f3.length c6,.int .u64 kb.f4,.int .u64 li,.string ⟨#[]⟩,.int .i64 er] Kgo (by kernel_rfl) ?_;intro x9 hk ho;have Y3:=zh (didE Y3.out Kgo.out (did_like _ _ _ _ _ _ _ _ _ _ _ _) ho.out);have Y4:=zh (didU Y4.out Kgo.out (did_like _ _ _ _ _ _ _ _ _ _ _ _) ho.out);have HB:=zo ho HB Lgo;obtain ⟨z0,z1,z2,z3,z4,z5,z6,z7⟩:=zz8 hk.out;clear hk ho)))
 refine bodyPost_ret (v:=.agg #[.string kb.f0,.int .i64 kb.f1,.slice A5 kb.f2.length c5,.slice A6 kb.f3.length c6,.int .u64 kb.f4,.int .u64 li,.string ⟨#[]⟩,.int .i64 er]) (by simp [results,Tryz.results23,go_sem,z0,z1,z2,z3,z4,z5,z6,z7]) rfl ?_
 exact ⟨A5,c5,A6,c6,rfl,y1,y2,Y3.out,Y4.out,HB.out⟩
theorem do_drop (b : S26) (A2 A3 : Option Addr) (c2 c3 : Nat) (kd id n q : Int) (key data : ByteArray) (A : Option Addr) (ps : List S43) (c : Nat) (w : World) (h2 : Kd.C k56 w A2 b.f2.length b.f2) (g2 : b.f2.length ≤ c2) (h3 : Kd.C k101 w A3 b.f3.length b.f3) (g3 : b.f3.length ≤ c3) (hk : Int.tmod kd 9 = 3) :
  Calls Tryz.prog 23 #[.agg #[.string b.f0,.int .i64 b.f1,.slice A2 b.f2.length c2,.slice A3 b.f3.length c3,.int .u64 b.f4],.agg #[.int .u8 kd,.string key,.string data,.int .u64 id,.int .i64 n,.int .i64 q,.slice A ps.length c]] w (DoPost (dropB b key id).1 0 ⟨#[]⟩ (dropB b key id).2 w):=by
 have HC:=zh (fun (W : World) (h : Below w.heap.size w W)=>dropB.walk b A2 A3 c2 c3 key id W (Kd.C_below h2 h) g2 (Kd.C_below h3 h) g3)
 generalize dropB b key id = r at *
 obtain ⟨kb,er⟩:=r
 have HB:=zh (Below.refl w.heap.size w)
 have kf : ∀ j : Int,(Int.tmod kd 9 == j) = ((3 : Int) == j):=fun j=>by rw [hk]
 have e0 : (Int.tmod kd 9 == 0) = false:=kf 0
 have e1 : (Int.tmod kd 9 == 1) = false:=kf 1
 have e2 : (Int.tmod kd 9 == 2) = false:=kf 2
 have e3 : (Int.tmod kd 9 == 3) = true:=kf 3
 have e4 : (Int.tmod kd 9 == 4) = false:=kf 4
 have e5 : (Int.tmod kd 9 == 5) = false:=kf 5
 have e6 : (Int.tmod kd 9 == 6) = false:=kf 6
 have e7 : (Int.tmod kd 9 == 7) = false:=kf 7
 clear h2 h3 g2 g3 kf hk
 go_enter Tryz.func23,Tryz.ntmps23
 go_wp2_with (first
  | ((with_reducible refine gate_dst (N:=2) rfl ?_);go_must (refine zx HB (N:=2) (cs:=#[.string b.f0,.int .i64 b.f1,.slice A2 b.f2.length c2,.slice A3 b.f3.length c3,.int .u64 b.f4]) (t:=26) ?hr ?_;(case hr=>first | (go_simp;done) | (go_simp;rfl));intro gb w1 Kgb Lgb HB hbelgb hqgb;clear hbelgb hqgb))
  | ((with_reducible refine gate_dst (N:=3) rfl ?_);go_must (refine zx HB (N:=3) (cs:=#[.int .u8 kd,.string key,.string data,.int .u64 id,.int .i64 n,.int .i64 q,.slice A ps.length c]) (t:=59) ?hr ?_;(case hr=>first | (go_simp;done) | (go_simp;rfl));intro ga w2 Kga Lga HB hbelga hqga;have M1:=zh (show gb < ga by rw [hqga];exact blk_lt Kgb.out);have Kgb:=zk Kgb hbelga;clear hbelga hqga))
  | ((with_reducible refine gate_dst (N:=4) rfl ?_);go_must (refine zx HB (N:=4) (cs:=#[.string ⟨#[]⟩,.int .i64 0,.slice none 0 0,.slice none 0 0,.int .u64 0,.int .u64 0,.string ⟨#[]⟩,.int .i64 0]) (t:=62) ?hr ?_;(case hr=>first | (go_simp;done) | (go_simp;rfl));intro go w3 Kgo Lgo HB hbelgo hqgo;have M2:=zh (show ga < go by rw [hqgo];exact blk_lt Kga.out);have Kgb:=zk Kgb hbelgo;have Kga:=zk Kga hbelgo;clear hbelgo hqgo))
  | ((with_reducible refine gate_dst (N:=5) rfl ?_);go_must (refine zx HB (N:=5) (cs:=#[.string ⟨#[]⟩,.int .i64 0,.slice none 0 0,.slice none 0 0,.int .u64 0,.int .u64 0,.string ⟨#[]⟩,.int .i64 0]) (t:=62) ?hr ?_;(case hr=>first | (go_simp;done) | (go_simp;rfl));intro gd w4 Kgd Lgd HB hbelgd hqgd;have M3:=zh (show go < gd by rw [hqgd];exact blk_lt Kgo.out);have Kgb:=zk Kgb hbelgd;have Kga:=zk Kga hbelgd;have Kgo:=zk Kgo hbelgd;clear hbelgd hqgd))
  | ((with_reducible refine gate_store (t:=62) (p:=5) (v:=.tmp 9) rfl ?_);go_must (refine zs 62 (.tmp 5) (.tmp 9) gd 0 62 [.string ⟨#[]⟩,.int .i64 0,.slice none 0 0,.slice none 0 0,.int .u64 0,.int .u64 0,.string ⟨#[]⟩,.int .i64 0] Kgd (by kernel_rfl) ?_;intro w5 hk ho;have Kgd : Hid (w5.heap[gd]? = some (.cells #[.string ⟨#[]⟩,.int .i64 0,.slice none 0 0,.slice none 0 0,.int .u64 0,.int .u64 0,.string ⟨#[]⟩,.int .i64 0] 62 (0,0))):=hk;have HB:=zo ho HB Lgd;have Kgb:=zl ho Kgb (by have:=M1.out;have:=M2.out;have:=M3.out;omega);have Kga:=zl ho Kga (by have:=M1.out;have:=M2.out;have:=M3.out;omega);have Kgo:=zl ho Kgo (by have:=M1.out;have:=M2.out;have:=M3.out;omega);obtain ⟨a0,a1,a2,a3,a4⟩:=zz5 Kgb.out;obtain ⟨b0,b1,b2,b3,b4,b5,b6⟩:=zz7 Kga.out;clear hk ho))
  | (go_at_call 40;go_must (refine (HC.out _ HB.out).mono ?_;rintro e w6 ⟨v,rfl,⟨A5,c5,A6,c6,rfl,y1,y2,y3,y4⟩,hb⟩;have Y3:=zh y3;have Y4:=zh y4;have HB:=keepB HB hb;have Kgo:=zk Kgo hb;have Kgd:=zk Kgd hb;clear hb y3 y4 a0 a1 a2 a3 a4 b0 b1 b2 b3 b4 b5 b6))
  | ((with_reducible refine gate_store (t:=26) (p:=74) (v:=.tmp 72) rfl ?_);go_must (refine zs 26 (.tmp 74) (.tmp 72) gd 0 62 [.string kb.f0,.int .i64 kb.f1,.slice A5 kb.f2.length c5,.slice A6 kb.f3.length c6,.int .u64 kb.f4] Kgd isz_bucket ?_;intro x0 hk ho;have Y3:=zh (didE Y3.out Kgd.out (did_like _ _ _ _ _ _ _ _ _ _ _ _) ho.out);have Y4:=zh (didU Y4.out Kgd.out (did_like _ _ _ _ _ _ _ _ _ _ _ _) ho.out);have Kgd : Hid (x0.heap[gd]? = some (.cells #[.string kb.f0,.int .i64 kb.f1,.slice A5 kb.f2.length c5,.slice A6 kb.f3.length c6,.int .u64 kb.f4,.int .u64 0,.string ⟨#[]⟩,.int .i64 0] 62 (0,0))):=hk;have HB:=zo ho HB Lgd;have Kgo:=zl ho Kgo (by have:=M3.out;omega);clear hk ho))
  | ((with_reducible refine gate_store (t:=30) (p:=75) (v:=.tmp 73) rfl ?_);go_must (refine zq 30 (.tmp 75) (.tmp 73) gd 7 62 (.int .i64 er) Kgd (by kernel_rfl) ?_;intro x1 hk ho;have Y3:=zh (didE Y3.out Kgd.out (did_like _ _ _ _ _ _ _ _ _ _ _ _) ho.out);have Y4:=zh (didU Y4.out Kgd.out (did_like _ _ _ _ _ _ _ _ _ _ _ _) ho.out);have Kgd : Hid (x1.heap[gd]? = some (.cells #[.string kb.f0,.int .i64 kb.f1,.slice A5 kb.f2.length c5,.slice A6 kb.f3.length c6,.int .u64 kb.f4,.int .u64 0,.string ⟨#[]⟩,.int .i64 er] 62 (0,0))):=hk;have HB:=zo ho HB Lgd;have Kgo:=zl ho Kgo (by have:=M3.out;omega);obtain ⟨d0,d1,d2,d3,d4,d5,d6,d7⟩:=zz8 Kgd.out;clear hk ho))
  | ((with_reducible refine gate_store (t:=62) (p:=4) (v:=.tmp 133) rfl ?_);go_must (refine zs 62 (.tmp 4) (.tmp 133) go 0 62 [.string kb.f0,.int .i64 kb.f1,.slice A5 kb.f2.length c5,.slice A6 kb.f3.length c6,.int .u64 kb.f4,.int .u64 0,.string ⟨#[]⟩,.int .i64 er] Kgo (by kernel_rfl) ?_;intro x9 hk ho;have Y3:=zh (didE Y3.out Kgo.out (did_like _ _ _ _ _ _ _ _ _ _ _ _) ho.out);have Y4:=zh (didU Y4.out Kgo.out (did_like _ _ _ _ _ _ _ _ _ _ _ _) ho.out);have HB:=zo ho HB Lgo;obtain ⟨z0,z1,z2,z3,z4,z5,z6,z7⟩:=zz8 hk.out;clear hk ho)))
 refine bodyPost_ret (v:=.agg #[.string kb.f0,.int .i64 kb.f1,.slice A5 kb.f2.length c5,.slice A6 kb.f3.length c6,.int .u64 kb.f4,.int .u64 0,.string ⟨#[]⟩,.int .i64 er]) (by simp [results,Tryz.results23,go_sem,z0,z1,z2,z3,z4,z5,z6,z7]) rfl ?_
 exact ⟨A5,c5,A6,c6,rfl,y1,y2,Y3.out,Y4.out,HB.out⟩
end
section
open Go.WideMaps Go.Maps
attribute [local go_sem] Oper.semAt_some
end
section
open Go.WideMaps Go.Maps
attribute [local go_sem] Oper.semAt_some
structure Did where
 b : S26
 id : Int
 tg : ByteArray
 er : Int
structure Act where
 kd : Int
 key : ByteArray
 data : ByteArray
 id : Int
 n : Int
 q : Int
 ps : List S43
def d3 (r : S26 × Int × Int) : Did:=⟨r.1,r.2.1,⟨#[]⟩,r.2.2⟩
def d2 (r : S26 × Int) : Did:=⟨r.1,0,⟨#[]⟩,r.2⟩
def doR (b : S26) (a : Act) : Did :=
 if Int.tmod a.kd 9 = 0 then d3 (laidR b a.key (fun l id=>putV l b.f1 ⟨id,a.data,false,a.q⟩))
 else if Int.tmod a.kd 9 = 1 then d3 (laidR b a.key (fun l id=>putV l b.f1 ⟨id,a.data,false,a.q⟩))
 else if Int.tmod a.kd 9 = 2 then d3 (laidR b a.key (fun l id=>deleteV l b.f1 id a.q))
 else if Int.tmod a.kd 9 = 3 then d2 (dropB b a.key a.id)
 else if Int.tmod a.kd 9 = 4 then d2 (turnB b a.n)
 else if Int.tmod a.kd 9 = 5 then d3 (beginB b a.key)
 else if Int.tmod a.kd 9 = 6 then ⟨(layB b a.id ⟨a.n,a.data⟩).1,IntKind.u64.wrap (layB b a.id ⟨a.n,a.data⟩).2.1,⟨#[]⟩,(layB b a.id ⟨a.n,a.data⟩).2.2⟩
 else if Int.tmod a.kd 9 = 7 then d2 (abortB b a.id)
 else ⟨(wholeB b a.id a.ps a.q).1,(wholeB b a.id a.ps a.q).2.1,(wholeB b a.id a.ps a.q).2.2.1,(wholeB b a.id a.ps a.q).2.2.2⟩
end
section
open Go.WideMaps Go.Maps
theorem putV_ok {l : List S47} {st : Int} {x : S47} (h : (putV l st x).2 = 0) :
  chainB l = true ∧ 0 ≤ st ∧ st ≤ 2 ∧ mayV x = true ∧ (0 < l.length → (l.headD z47).f3 ≤ x.f3) ∧ (st = 1 → x.f0 ≠ 0) ∧ (putV l st x).1 = (if st = 1 then x :: l else ⟨0,x.f1,x.f2,x.f3⟩ :: delV 0 l) ∧ (putV l st x).1.length ≤ 20:=by
 unfold putV at h ⊢
 by_cases h1 : chainB l = false ∨ ¬ (0 ≤ st ∧ st ≤ 2) ∨ mayV x = false ∨ (0 < l.length ∧ x.f3 < (l.headD z47).f3)
 ·rw [if_pos h1] at h;cases h
 ·rw [if_neg h1] at h ⊢
  by_cases h2 : (layV st l x).2 ≠ 0
  ·rw [if_pos h2] at h;exact absurd h h2
  ·rw [if_neg h2] at h ⊢
   by_cases h3 : 20 < (layV st l x).1.length
   ·rw [if_pos h3] at h;cases h
   ·rw [if_neg h3]
    have q1 : chainB l = true:=bool_no (fun c=>h1 (Or.inl c))
    have q2 : 0 ≤ st ∧ st ≤ 2:=Decidable.byContradiction (fun c=>h1 (Or.inr (Or.inl c)))
    have q3 : mayV x = true:=bool_no (fun c=>h1 (Or.inr (Or.inr (Or.inl c))))
    refine ⟨q1,q2.1,q2.2,q3,fun hl=>?_,fun hs=>?_,?_,Nat.le_of_not_lt h3⟩
    ·exact Int.not_lt.1 (fun c=>h1 (Or.inr (Or.inr (Or.inr ⟨hl,c⟩))))
    ·intro c
     apply h2
     unfold layV
     rw [if_pos hs,if_pos (by rw [c];rfl)]
     exact (by decide : (1 : Int) ≠ 0)
    ·unfold layV at h2 ⊢
     by_cases hs : st = 1
     ·rw [if_pos hs] at h2
      rw [if_pos hs,if_pos hs]
      by_cases h0 : (x.f0 == 0) = true
      ·rw [if_pos h0] at h2;exact absurd (by decide) h2
      ·rw [if_neg h0] at h2
       rw [if_neg h0]
       by_cases h9 : l.any (geB x.f0) = true
       ·rw [if_pos h9] at h2;exact absurd (by decide) h2
       ·rw [if_neg h9]
     ·rw [if_neg hs,if_neg hs]
theorem dropV_ok {l : List S47} {id : Int} (h : (dropV l id).2 = 0) : chainB l = true ∧ hasId l id = true ∧ (dropV l id).1 = delV id l:=by
 unfold dropV at h ⊢
 by_cases h1 : chainB l = false
 ·rw [if_pos h1] at h;cases h
 ·rw [if_neg h1] at h ⊢
  by_cases h2 : hasId l id = false
  ·rw [if_pos h2] at h;cases h
  ·rw [if_neg h2];exact ⟨bool_no h1,bool_no h2,rfl⟩
theorem delV_mem {id : Int} {l : List S47} {v : S47} (h : v ∈ delV id l) : v ∈ l:=(List.mem_filter.1 h).1
/-- what an act of the first four kinds makes of its key's versions -/
def actC (st : Int) (a : Act) (l : List S47) (id : Int) : List S47 × Int :=
 if Int.tmod a.kd 9 = 2 then deleteV l st id a.q else if Int.tmod a.kd 9 = 3 then dropV l a.id else putV l st ⟨id,a.data,false,a.q⟩
theorem actC_mem {st : Int} {a : Act} {l : List S47} {id : Int} (h : (actC st a l id).2 = 0) : ∀ v ∈ (actC st a l id).1,v ∈ l ∨ v.f0 = 0 ∨ (st = 1 ∧ Int.tmod a.kd 9 ≠ 3 ∧ v.f0 = id):=by
 have hput : ∀ x : S47,(st = 1 → x.f0 = id) → (putV l st x).2 = 0 → ∀ v ∈ (putV l st x).1,v ∈ l ∨ v.f0 = 0 ∨ (st = 1 ∧ v.f0 = id):=by
  intro x hx hp v hv
  obtain ⟨_,_,_,_,_,_,e,_⟩:=putV_ok hp
  rw [e] at hv
  by_cases hs : st = 1
  ·rw [if_pos hs] at hv
   rcases List.mem_cons.1 hv with rfl | hv
   ·exact Or.inr (Or.inr ⟨hs,hx hs⟩)
   ·exact Or.inl hv
  ·rw [if_neg hs] at hv
   rcases List.mem_cons.1 hv with rfl | hv
   ·exact Or.inr (Or.inl rfl)
   ·exact Or.inl (delV_mem hv)
 intro v hv
 unfold actC at h hv
 by_cases h2 : Int.tmod a.kd 9 = 2
 ·rw [if_pos h2] at h hv
  unfold deleteV at h hv
  by_cases hs : st = 0
  ·rw [if_pos hs] at h hv
   rw [(dropV_ok h).2.2] at hv
   exact Or.inl (delV_mem hv)
  ·rw [if_neg hs] at h hv
   rcases hput _ (fun e=>if_neg (by omega)) h v hv with x | x | x
   ·exact Or.inl x
   ·exact Or.inr (Or.inl x)
   ·exact Or.inr (Or.inr ⟨x.1,by omega,x.2⟩)
 ·rw [if_neg h2] at h hv
  by_cases h3 : Int.tmod a.kd 9 = 3
  ·rw [if_pos h3] at h hv
   rw [(dropV_ok h).2.2] at hv
   exact Or.inl (delV_mem hv)
  ·rw [if_neg h3] at h hv
   rcases hput _ (fun _=>rfl) h v hv with x | x | x
   ·exact Or.inl x
   ·exact Or.inr (Or.inl x)
   ·exact Or.inr (Or.inr ⟨x.1,h3,x.2⟩)
/-- an act's versions are the same but for their numbers, whatever number is given out -/
theorem actC_same {st : Int} {a : Act} {l : List S47} {i j : Int} (h1 : (actC st a l i).2 = 0) (h2 : (actC st a l j).2 = 0) :
  (actC st a l i).1.length = (actC st a l j).1.length ∧ ((actC st a l i).1.getD 0 z47).f1 = ((actC st a l j).1.getD 0 z47).f1 ∧
  ((actC st a l i).1.getD 0 z47).f2 = ((actC st a l j).1.getD 0 z47).f2 ∧ ((actC st a l i).1.getD 0 z47).f3 = ((actC st a l j).1.getD 0 z47).f3:=by
 have hput : ∀ x y : S47,x.f1 = y.f1 → x.f2 = y.f2 → x.f3 = y.f3 → (putV l st x).2 = 0 → (putV l st y).2 = 0 →
   (putV l st x).1.length = (putV l st y).1.length ∧ ((putV l st x).1.getD 0 z47).f1 = ((putV l st y).1.getD 0 z47).f1 ∧
   ((putV l st x).1.getD 0 z47).f2 = ((putV l st y).1.getD 0 z47).f2 ∧ ((putV l st x).1.getD 0 z47).f3 = ((putV l st y).1.getD 0 z47).f3:=by
  intro x y e1 e2 e3 p1 p2
  obtain ⟨_,_,_,_,_,_,q1,_⟩:=putV_ok p1
  obtain ⟨_,_,_,_,_,_,q2,_⟩:=putV_ok p2
  rw [q1,q2]
  by_cases hs : st = 1
  ·rw [if_pos hs,if_pos hs];exact ⟨rfl,e1,e2,e3⟩
  ·rw [if_neg hs,if_neg hs];exact ⟨rfl,e1,e2,e3⟩
 unfold actC at h1 h2 ⊢
 by_cases k2 : Int.tmod a.kd 9 = 2
 ·rw [if_pos k2] at h1 h2 ⊢
  rw [if_pos k2]
  unfold deleteV at h1 h2 ⊢
  by_cases hs : st = 0
  ·rw [if_pos hs,if_pos hs];exact ⟨rfl,rfl,rfl,rfl⟩
  ·rw [if_neg hs] at h1 h2 ⊢
   rw [if_neg hs]
   exact hput _ _ rfl rfl rfl h1 h2
 ·rw [if_neg k2] at h1 h2 ⊢
  rw [if_neg k2]
  by_cases k3 : Int.tmod a.kd 9 = 3
  ·rw [if_pos k3,if_pos k3];exact ⟨rfl,rfl,rfl,rfl⟩
  ·rw [if_neg k3] at h1 h2 ⊢
   rw [if_neg k3]
   exact hput _ _ rfl rfl rfl h1 h2
/-- the bucket that an act of the first four kinds makes, where it goes -/
def actB (b : S26) (a : Act) : S26:=⟨b.f0,b.f1,putL b.f2 a.key (actC b.f1 a (getE b.f2 a.key) (idR b)).1,b.f3,if Int.tmod a.kd 9 = 3 then b.f4 else lastR b⟩
theorem do4_ok {b : S26} {a : Act} (h0 : 0 ≤ Int.tmod a.kd 9) (h4 : Int.tmod a.kd 9 < 4) (h : (doR b a).er = 0) :
  bucketB b = true ∧ keyB a.key = true ∧ (actC b.f1 a (getE b.f2 a.key) (idR b)).2 = 0 ∧ chainB (actC b.f1 a (getE b.f2 a.key) (idR b)).1 = true ∧
  (putL b.f2 a.key (actC b.f1 a (getE b.f2 a.key) (idR b)).1).length ≤ 60 ∧ octB (putL b.f2 a.key (actC b.f1 a (getE b.f2 a.key) (idR b)).1) b.f3 ≤ 20000 ∧
  (Int.tmod a.kd 9 < 3 → b.f1 = 1 → b.f4 < 281474976710655) ∧ doR b a = ⟨actB b a,if Int.tmod a.kd 9 = 3 then 0 else idR b,⟨#[]⟩,0⟩:=by
 by_cases k3 : Int.tmod a.kd 9 = 3
 ·have e : doR b a = d2 (dropB b a.key a.id):=by
   unfold doR
   rw [if_neg (by omega),if_neg (by omega),if_neg (by omega),if_pos k3]
  rw [e] at h ⊢
  have ea : actC b.f1 a (getE b.f2 a.key) (idR b) = dropV (getE b.f2 a.key) a.id:=by
   unfold actC
   rw [if_neg (by omega),if_pos k3]
  unfold actB
  rw [ea,if_pos k3,if_pos k3]
  obtain ⟨q1,q2,q3,q4,q5,q6,q7⟩:=dropB_ok h
  exact ⟨q1,q2,q3,q4,q5,q6,fun x=>by omega,by rw [q7];rfl⟩
 ·have e : doR b a = d3 (laidR b a.key (actC b.f1 a)):=by
   have ea : (actC b.f1 a) = if Int.tmod a.kd 9 = 2 then (fun l id=>deleteV l b.f1 id a.q) else (fun l id=>putV l b.f1 ⟨id,a.data,false,a.q⟩):=by
    funext l id
    unfold actC
    by_cases k2 : Int.tmod a.kd 9 = 2
    ·rw [if_pos k2,if_pos k2]
    ·rw [if_neg k2,if_neg k3,if_neg k2]
   rw [ea]
   unfold doR
   by_cases k0 : Int.tmod a.kd 9 = 0
   ·rw [if_pos k0,if_neg (by omega)]
   ·rw [if_neg k0]
    by_cases k1 : Int.tmod a.kd 9 = 1
    ·rw [if_pos k1,if_neg (by omega)]
    ·rw [if_neg k1,if_pos (by omega),if_pos (by omega)]
  rw [e] at h ⊢
  unfold actB
  rw [if_neg k3,if_neg k3]
  obtain ⟨q1,q2,q3,q4,q5,q6,q7,q8⟩:=laid_ok (f:=actC b.f1 a) h
  exact ⟨q1,q2,q3,q4,q5,q6,fun _=>q7,by rw [q8];rfl⟩
theorem chain_get {l : List S56} (h : indexB l = true) (key : ByteArray) : chainB (getE l key) = true:=by
 rcases getE_or key l with ⟨x,hx,_,e⟩ | ⟨_,e⟩
 ·rw [e];exact (index_mem h x hx).2.2
 ·rw [e];rfl
theorem bucket_ix {b : S26} (h : bucketB b = true) : SE b.f2 ∧ indexB b.f2 = true:=⟨((index_iff _).1 (bucket_at h).2.1).2.1,(bucket_at h).2.1⟩
theorem near_get {b : S26} (h : bucketB b = true) (key : ByteArray) : ∀ v ∈ getE b.f2 key,v.f0 ≤ b.f4 ∧ (b.f1 = 0 → v.f0 = 0):=by
 intro v hv
 rcases getE_or key b.f2 with ⟨x,hx,_,e⟩ | ⟨_,e⟩
 ·rw [e] at hv
  have h1:=List.all_eq_true.1 (bucket_at h).2.2.2.2.1 x hx
  unfold nearB at h1
  rw [Bool.not_eq_true',List.any_eq_false] at h1
  have h2:=h1 v hv
  unfold farB at h2
  simp only [Bool.or_eq_true,decide_eq_true_eq,Bool.and_eq_true,beq_iff_eq,Bool.not_eq_true',beq_eq_false_iff_ne,ne_eq,not_or,not_and,Decidable.not_not] at h2
  exact ⟨by omega,fun c=>h2.2 c⟩
 ·rw [e] at hv;cases hv
theorem put_bucket {b : S26} (hb : bucketB b = true) {key : ByteArray} {c : List S47} {L : Int} (hk : keyB key = true) (hc : chainB c = true) (hl : (putL b.f2 key c).length ≤ 60) (ho : octB (putL b.f2 key c) b.f3 ≤ 20000) (h1 : b.f4 ≤ L) (h2 : L ≤ 281474976710655) (hv : ∀ v ∈ c,v.f0 ≤ L ∧ (b.f1 = 0 → v.f0 = 0)) :
  bucketB (⟨b.f0,b.f1,putL b.f2 key c,b.f3,L⟩ : S26) = true:=by
 obtain ⟨q1,q2,q3,q4,q5,q6⟩:=bucket_at hb
 obtain ⟨i1,i2,i3⟩:=(index_iff _).1 q2
 unfold bucketB
 simp only [Bool.and_eq_true,decide_eq_true_eq,Bool.not_eq_true']
 refine ⟨?_,(index_iff _).2 ⟨hl,putL_SE key c i2,fun x hx=>?_⟩,q3,ho,List.all_eq_true.2 (fun x hx=>?_),?_⟩
 ·unfold headB at q1 ⊢
  simp only [Bool.and_eq_true,decide_eq_true_eq] at q1 ⊢
  exact ⟨q1.1,q1.2.1,q1.2.2.1,h2⟩
 ·rcases (putL_mem i2).1 hx with ⟨x1,_⟩ | ⟨x1,rfl⟩
  ·exact i3 x x1
  ·exact ⟨hk,x1,hc⟩
 ·unfold nearB
  rw [Bool.not_eq_true',List.any_eq_false]
  intro v hvx
  have hn : v.f0 ≤ L ∧ (b.f1 = 0 → v.f0 = 0):=by
   rcases (putL_mem i2).1 hx with ⟨x1,_⟩ | ⟨x1,rfl⟩
   ·have e:=getE_mem i2 x1
    rw [← e] at hvx
    have:=near_get hb _ v hvx
    exact ⟨by omega,this.2⟩
   ·exact hv v hvx
  unfold farB
  simp only [Bool.or_eq_true,decide_eq_true_eq,Bool.and_eq_true,beq_iff_eq,Bool.not_eq_true',beq_eq_false_iff_ne,ne_eq,not_or,not_and,Decidable.not_not]
  exact ⟨by omega,hn.2⟩
 ·rw [List.any_eq_false] at q6 ⊢
  intro u hu
  have:=q6 u hu
  unfold updB at this ⊢
  rw [decide_eq_true_eq] at this ⊢
  omega
theorem last_le {b : S26} (hb : bucketB b = true) (h4 : 0 ≤ b.f4) (hl : b.f1 = 1 → b.f4 < 281474976710655) : b.f4 ≤ lastR b ∧ lastR b ≤ 281474976710655 ∧ (b.f1 = 1 → lastR b = b.f4 + 1) ∧ (b.f1 ≠ 1 → lastR b = b.f4) ∧ (b.f1 = 1 → idR b = b.f4 + 1) ∧ (b.f1 ≠ 1 → idR b = 0):=by
 have hm : b.f4 ≤ 281474976710655:=by
  have:=(bucket_at hb).1
  unfold headB at this
  simp only [Bool.and_eq_true,decide_eq_true_eq] at this
  exact this.2.2.2
 unfold lastR idR
 by_cases h : b.f1 = 1
 ·rw [if_pos h,if_pos h,wrap_le h4 hm]
  have:=hl h
  exact ⟨by omega,by omega,fun _=>rfl,fun c=>absurd h c,fun _=>rfl,fun c=>absurd h c⟩
 ·rw [if_neg h,if_neg h]
  exact ⟨Int.le_refl _,hm,fun c=>absurd c h,fun _=>rfl,fun c=>absurd c h,fun _=>rfl⟩
theorem act_bucket {b : S26} {a : Act} (h4 : 0 ≤ b.f4) (k0 : 0 ≤ Int.tmod a.kd 9) (k4 : Int.tmod a.kd 9 < 4) (h : (doR b a).er = 0) : bucketB (actB b a) = true ∧ b.f4 ≤ (actB b a).f4:=by
 obtain ⟨q1,q2,q3,q4,q5,q6,q7,q8⟩:=do4_ok k0 k4 h
 have hm:=actC_mem q3
 unfold actB
 by_cases k3 : Int.tmod a.kd 9 = 3
 ·rw [if_pos k3]
  have hh:=(bucket_at q1).1
  unfold headB at hh
  simp only [Bool.and_eq_true,decide_eq_true_eq] at hh
  refine ⟨put_bucket q1 q2 q4 q5 q6 (Int.le_refl _) hh.2.2.2 (fun v hv=>?_),Int.le_refl _⟩
  rcases hm v hv with x | x | x
  ·exact near_get q1 _ v x
  ·exact ⟨by omega,fun _=>x⟩
  ·exact absurd k3 x.2.1
 ·rw [if_neg k3]
  obtain ⟨l1,l2,l3,l4,l5,l6⟩:=last_le q1 h4 (q7 (by omega))
  refine ⟨put_bucket q1 q2 q4 q5 q6 l1 l2 (fun v hv=>?_),l1⟩
  rcases hm v hv with x | x | x
  ·have:=near_get q1 _ v x
   exact ⟨by omega,this.2⟩
  ·exact ⟨by omega,fun _=>x⟩
  ·rw [x.2.2,l5 x.1,l3 x.1]
   exact ⟨Int.le_refl _,fun c=>by omega⟩
theorem getB_of {b : S26} {key : ByteArray} (hb : bucketB b = true) (hk : keyB key = true) : getB b key = if (getE b.f2 key).length = 0 then (z47,4) else ((getE b.f2 key).getD 0 z47,if ((getE b.f2 key).getD 0 z47).f2 = true then 13 else 0):=by
 unfold getB
 have ho : openR b key = 0:=by
  unfold openR
  rw [if_neg (by rw [hb,hk];simp)]
 have hc:=chain_get (bucket_ix hb).2 key
 rw [if_pos ho]
 unfold atV
 rw [if_neg (by rw [hc];simp)]
 by_cases hl : (getE b.f2 key).length = 0
 ·rw [if_pos hl,if_pos (Or.inr (by omega))]
 ·rw [if_neg hl,if_neg (by omega)];rfl
/-- BucketTurns in plain words -/
theorem turns_plain {b : S26} {x y : Act} (h4 : 0 ≤ b.f4) (hne : x.key ≠ y.key) (x0 : 0 ≤ Int.tmod x.kd 9) (x4 : Int.tmod x.kd 9 < 4) (y0 : 0 ≤ Int.tmod y.kd 9) (y4 : Int.tmod y.kd 9 < 4)
  (e1 : (doR b x).er = 0) (e2 : (doR b y).er = 0) (e3 : (doR (doR b x).b y).er = 0) (e4 : (doR (doR b y).b x).er = 0) :
  (getB (doR (doR b x).b y).b x.key).2 = (getB (doR (doR b y).b x).b x.key).2 ∧ (getB (doR (doR b x).b y).b x.key).1.f1 = (getB (doR (doR b y).b x).b x.key).1.f1 ∧
  (getB (doR (doR b x).b y).b x.key).1.f2 = (getB (doR (doR b y).b x).b x.key).1.f2 ∧ (getB (doR (doR b x).b y).b x.key).1.f3 = (getB (doR (doR b y).b x).b x.key).1.f3 ∧
  (b.f1 ≠ 1 → (doR (doR b x).b y).b.f4 = (doR (doR b y).b x).b.f4) ∧ (doR (doR b x).b y).b.f2.length = (doR (doR b y).b x).b.f2.length:=by
 obtain ⟨p1,p2,p3,p4,p5,p6,p7,p8⟩:=do4_ok x0 x4 e1
 obtain ⟨q1,q2,q3,q4,q5,q6,q7,q8⟩:=do4_ok y0 y4 e2
 have bx:=act_bucket h4 x0 x4 e1
 have by_:=act_bucket h4 y0 y4 e2
 have s0:=(bucket_ix p1).1
 rw [p8] at e3 ⊢
 rw [q8] at e4 ⊢
 simp only at e3 e4 ⊢
 obtain ⟨r1,r2,r3,r4,r5,r6,r7,r8⟩:=do4_ok y0 y4 e3
 obtain ⟨t1,t2,t3,t4,t5,t6,t7,t8⟩:=do4_ok x0 x4 e4
 have bxy:=act_bucket (Int.le_trans h4 bx.2) y0 y4 e3
 have byx:=act_bucket (Int.le_trans h4 by_.2) x0 x4 e4
 rw [r8,t8]
 simp only
 rw [getB_of bxy.1 p2,getB_of byx.1 p2]
 have gy : getE (actB b x).f2 y.key = getE b.f2 y.key:=getE_other s0 _ (fun e=>hne e.symm)
 have gx : getE (actB b y).f2 x.key = getE b.f2 x.key:=getE_other s0 _ hne
 have sx:=(bucket_ix bx.1).1
 have sy:=(bucket_ix by_.1).1
 have g1 : getE (actB (actB b x) y).f2 x.key = (actC b.f1 x (getE b.f2 x.key) (idR b)).1:=(getE_other sx _ hne).trans (getE_put s0 x.key _)
 have g2 : getE (actB (actB b y) x).f2 x.key = (actC b.f1 x (getE b.f2 x.key) (idR (actB b y))).1:=(getE_put sy x.key _).trans (by rw [gx];rfl)
 rw [gy] at r3
 rw [gx] at t3
 obtain ⟨u1,u2,u3,u4⟩:=actC_same (st:=b.f1) (a:=x) (l:=getE b.f2 x.key) (i:=idR b) (j:=idR (actB b y)) p3 t3
 obtain ⟨v1,_,_,_⟩:=actC_same (st:=b.f1) (a:=y) (l:=getE b.f2 y.key) (i:=idR b) (j:=idR (actB b x)) q3 r3
 rw [g1,g2]
 refine ⟨?_,?_,?_,?_,fun hs=>?_,?_⟩
 ·rw [u1]
  by_cases hl : (actC b.f1 x (getE b.f2 x.key) (idR (actB b y))).1.length = 0
  ·rw [if_pos hl,if_pos hl]
  ·rw [if_neg hl,if_neg hl]
   show (if _ then _ else _) = (if _ then _ else _)
   rw [u3]
 ·rw [u1]
  by_cases hl : (actC b.f1 x (getE b.f2 x.key) (idR (actB b y))).1.length = 0
  ·rw [if_pos hl,if_pos hl]
  ·rw [if_neg hl,if_neg hl];exact u2
 ·rw [u1]
  by_cases hl : (actC b.f1 x (getE b.f2 x.key) (idR (actB b y))).1.length = 0
  ·rw [if_pos hl,if_pos hl]
  ·rw [if_neg hl,if_neg hl];exact u3
 ·rw [u1]
  by_cases hl : (actC b.f1 x (getE b.f2 x.key) (idR (actB b y))).1.length = 0
  ·rw [if_pos hl,if_pos hl]
  ·rw [if_neg hl,if_neg hl];exact u4
 ·have hl : ∀ (c : S26) (a : Act),c.f1 = b.f1 → (actB c a).f4 = c.f4 ∧ (actB c a).f1 = b.f1:=fun c a hc=>by
   unfold actB lastR
   rw [hc,if_neg hs]
   exact ⟨by split <;> rfl,rfl⟩
  rw [(hl _ y (hl b x rfl).2).1,(hl b x rfl).1,(hl _ x (hl b y rfl).2).1,(hl b y rfl).1]
 ·have a1 : (actB (actB b x) y).f2 = putL (putL b.f2 x.key (actC b.f1 x (getE b.f2 x.key) (idR b)).1) y.key (actC b.f1 y (getE b.f2 y.key) (idR (actB b x))).1:=by
   show putL (actB b x).f2 y.key (actC b.f1 y (getE (actB b x).f2 y.key) (idR (actB b x))).1 = _
   rw [gy];rfl
  have a2 : (actB (actB b y) x).f2 = putL (putL b.f2 y.key (actC b.f1 y (getE b.f2 y.key) (idR b)).1) x.key (actC b.f1 x (getE b.f2 x.key) (idR (actB b y))).1:=by
   show putL (actB b y).f2 x.key (actC b.f1 x (getE (actB b y).f2 x.key) (idR (actB b y))).1 = _
   rw [gx];rfl
  rw [a1,a2,len_put2 s0 hne,len_put2 s0 (fun e=>hne e.symm),u1,v1]
  have : (fun e : S56=>(!(eqK x.key e)) && !(eqK y.key e)) = (fun e=>(!(eqK y.key e)) && !(eqK x.key e)):=by
   funext e
   exact Bool.and_comm _ _
  rw [this]
  omega
end
section
open Go.WideMaps Go.Maps

end
section
open Go.WideMaps Go.Maps
attribute [local go_sem] Oper.semAt_some
theorem few.walk (b : S26) (A2 A3 : Option Addr) (c2 c3 : Nat) (w : World) (h2 : Kd.C k56 w A2 b.f2.length b.f2) (g2 : b.f2.length ≤ c2) (h3 : Kd.C k101 w A3 b.f3.length b.f3) (g3 : b.f3.length ≤ c3) :
  Calls Tryz.prog 10 #[.agg #[.string b.f0,.int .i64 b.f1,.slice A2 b.f2.length c2,.slice A3 b.f3.length c3,.int .u64 b.f4]] w fun e w'=>∃ A5 c5 A6 c6,e = .returned (.agg #[.string (cutB b).f0,.int .i64 (cutB b).f1,.slice A5 (cutB b).f2.length c5,.slice A6 (cutB b).f3.length c6,.int .u64 (cutB b).f4]) ∧ (cutB b).f2.length ≤ c5 ∧ (cutB b).f3.length ≤ c6 ∧ Kd.C k56 w' A5 (cutB b).f2.length (cutB b).f2 ∧ Kd.C k101 w' A6 (cutB b).f3.length (cutB b).f3 ∧ Below w.heap.size w w':=by
 have HFE:=zh (fun (W : World) (h : Below w.heap.size w W)=>fewE.walk A2 c2 b.f2 W (Kd.C_below h2 h))
 have HFU:=zh (fun (W : World) (h : Below w.heap.size w W)=>fewU.walk A3 c3 b.f3 W (Kd.C_below h3 h))
 have HB:=zh (Below.refl w.heap.size w)
 clear h2 g2 h3 g3
 go_enter Tryz.func10,Tryz.ntmps10
 go_wp2_with (first
  | ((with_reducible refine gate_dst (N:=1) rfl ?_);go_must (refine zx HB (N:=1) (cs:=#[.string b.f0,.int .i64 b.f1,.slice A2 b.f2.length c2,.slice A3 b.f3.length c3,.int .u64 b.f4]) (t:=26) ?hr ?_;(case hr=>first | (go_simp;done) | (go_simp;rfl));intro gb w1 Kgb Lgb HB hbelgb hqgb;clear hbelgb hqgb))
  | ((with_reducible refine gate_dst (N:=2) rfl ?_);go_must (refine zx HB (N:=2) (cs:=#[.string ⟨#[]⟩,.int .i64 0,.slice none 0 0,.slice none 0 0,.int .u64 0]) (t:=26) ?hr ?_;(case hr=>first | (go_simp;done) | (go_simp;rfl));intro go w2 Kgo Lgo HB hbelgo hqgo;have M2:=zh (show gb < go by rw [hqgo];exact blk_lt Kgb.out);have Kgb:=zk Kgb hbelgo;clear hbelgo hqgo)))
 refine wp_region_held_drew (S:=fun W=>Below w.heap.size w W ∧ W.heap[gb]? = some (.cells #[.string b.f0,.int .i64 b.f1,.slice A2 b.f2.length c2,.slice A3 b.f3.length c3,.int .u64 b.f4] 26 (0,0))) (by kernel_rfl) ⟨HB.out.drew,blk_drew Kgb.out⟩ (fun hHeld=>?_)
 have Kgo:=zh (blk_drew Kgo.out)
 clear HB Kgb
 refine zt 0 (v:=?v0Y) ?y0Y ?r0Y
 case y0Y=>(intro w' h;go_simp;try with_reducible rfl)
 try simp only [zA,zB,zC,Act.put,zD,zE,zF]
 refine zt 1 (v:=?v1Y) ?y1Y ?r1Y
 case y1Y=>(intro w' h;have a0:=blk_cell h.2 0;go_simp;try with_reducible rfl)
 try simp only [zA,zB,zC,Act.put,zD,zE,zF]
 refine zt 3 (v:=?v3Y) ?y3Y ?r3Y
 case y3Y=>(intro w' h;go_simp;try with_reducible rfl)
 try simp only [zA,zB,zC,Act.put,zD,zE,zF]
 refine zt 4 (v:=?v4Y) ?y4Y ?r4Y
 case y4Y=>(intro w' h;have a1:=blk_cell h.2 1;go_simp;try with_reducible rfl)
 try simp only [zA,zB,zC,Act.put,zD,zE,zF]
 refine zt 5 (v:=?v5Y) ?y5Y ?r5Y
 case y5Y=>(intro w' h;go_simp;try with_reducible rfl)
 try simp only [zA,zB,zC,Act.put,zD,zE,zF]
 refine zt 6 (v:=?v6Y) ?y6Y ?r6Y
 case y6Y=>(intro w' h;have a2:=blk_cell h.2 2;go_simp;try with_reducible rfl)
 try simp only [zA,zB,zC,Act.put,zD,zE,zF]
 refine zt 8 (v:=?v8Y) ?y8Y ?r8Y
 case y8Y=>(intro w' h;go_simp;try with_reducible rfl)
 try simp only [zA,zB,zC,Act.put,zD,zE,zF]
 refine zt 9 (v:=?v9Y) ?y9Y ?r9Y
 case y9Y=>(intro w' h;have a3:=blk_cell h.2 3;go_simp;try with_reducible rfl)
 try simp only [zA,zB,zC,Act.put,zD,zE,zF]
 refine zt 11 (v:=?v11Y) ?y11Y ?r11Y
 case y11Y=>(intro w' h;go_simp;try with_reducible rfl)
 try simp only [zA,zB,zC,Act.put,zD,zE,zF]
 refine zt 12 (v:=?v12Y) ?y12Y ?r12Y
 case y12Y=>(intro w' h;have a4:=blk_cell h.2 4;go_simp;try with_reducible rfl)
 try simp only [zA,zB,zC,Act.put,zD,zE,zF]
 refine wpAnyH_ready (rs:=[2]) (by kernel_rfl) (by simp) ?_
 refine AllReadyH.cons (o:=_) rfl (fun K hK=>?_) AllReadyH.nil
 rw [if_pos (by rfl)]
 go_simp
 refine (cellarerlaw01_Few.calls b.f0 _ _ (few_key b.f0)).mono ?_
 rintro e8 w8 ⟨rfl,hd⟩
 have hb:=outD hd
 clear hd
 have Kgo:=zk Kgo hb
 refine hK.out _ _ ⟨Below.trans hHeld.1 (hb.mono (Below.size hHeld.1)),blk_below hHeld.2 hb⟩ (fun hHeld=>?_)
 clear hK K hb
 try simp only [zA,zB,zC,Act.put,zD,zE,zF]
 refine wpAnyH_ready (rs:=[7]) (by kernel_rfl) (by simp) ?_
 refine AllReadyH.cons (o:=_) rfl (fun K hK=>?_) AllReadyH.nil
 rw [if_pos (by rfl)]
 go_simp
 refine (HFE.out _ hHeld.1).mono ?_
 rintro e8 w8 ⟨v1,rfl,hv,hb⟩
 obtain ⟨A5,c5,rfl,l5,C5⟩:=Kd.R_reads hv
 have Y3:=zh C5
 clear hv C5
 have Kgo:=zk Kgo hb
 refine hK.out _ _ ⟨Below.trans hHeld.1 (hb.mono (Below.size hHeld.1)),blk_below hHeld.2 hb⟩ (fun hHeld=>?_)
 clear hK K hb
 try simp only [zA,zB,zC,Act.put,zD,zE,zF]
 refine wpAnyH_ready (rs:=[10]) (by kernel_rfl) (by simp) ?_
 refine AllReadyH.cons (o:=_) rfl (fun K hK=>?_) AllReadyH.nil
 rw [if_pos (by rfl)]
 go_simp
 refine (HFU.out _ hHeld.1).mono ?_
 rintro e8 w8 ⟨v2,rfl,hv,hb⟩
 obtain ⟨A6,c6,rfl,l6,C6⟩:=Kd.R_reads hv
 have Y3:=zc Y3 hb
 have Y4:=zh C6
 clear hv C6
 have Kgo:=zk Kgo hb
 refine hK.out _ _ ⟨Below.trans hHeld.1 (hb.mono (Below.size hHeld.1)),blk_below hHeld.2 hb⟩ (fun hHeld=>?_)
 clear hK K hb
 try simp only [zA,zB,zC,Act.put,zD,zE,zF]
 refine zt 13 (v:=?v13Y) ?y13Y ?r13Y
 case y13Y=>(intro w' h;go_simp;try with_reducible rfl)
 try simp only [zA,zB,zC,Act.put,zD,zE,zF]
 refine wpAnyH_ready (rs:=[14]) (by kernel_rfl) (by simp) ?_
 refine AllReadyH.cons (o:=_) rfl (fun K hK=>?_) AllReadyH.nil
 rw [if_pos (by rfl)]
 refine wp_store_row rfl 26 (.tmp 2) (.tmp 16) rfl go 0 _ 26 (.agg #[.string (fewKey b.f0),.int .i64 b.f1,.slice A5 (fewE b.f2).length c5,.slice A6 (fewUs b.f3).length c6,.int .u64 b.f4]) [.string (fewKey b.f0),.int .i64 b.f1,.slice A5 (fewE b.f2).length c5,.slice A6 (fewUs b.f3).length c6,.int .u64 b.f4] rfl rfl Kgo.out rfl isz_bucket (by show 0 + 5 ≤ 5;decide) (by simp [Value.oneCell']) ?_
 intro w9 hk ho
 have Y3:=zh (keepE Y3.out Kgo.out (bk_like _ _ _ _ _ _ _ _ _) ho.out)
 have Y4:=zh (keepU Y4.out Kgo.out (bk_like _ _ _ _ _ _ _ _ _) ho.out)
 refine hK.out _ _ ⟨ho.out.below hHeld.1 (Below.size hHeld.1) Lgo.out,ho.out.blk hHeld.2 (by have:=M2.out;omega)⟩ (fun hHeld=>?_)
 have z0:=zb hk.out 0 (.string (fewKey b.f0))
 have z1:=zb hk.out 1 (.int .i64 b.f1)
 have z2:=zb hk.out 2 (.slice A5 (fewE b.f2).length c5)
 have z3:=zb hk.out 3 (.slice A6 (fewUs b.f3).length c6)
 have z4:=zb hk.out 4 (.int .u64 b.f4)
 clear hK K hk ho
 try simp only [zA,zB,zC,Act.put,zD,zE,zF]
 refine wpAnyH_done (by kernel_rfl) ?_ _
 go_wp2
 refine bodyPost_ret (v:=.agg #[.string (fewKey b.f0),.int .i64 b.f1,.slice A5 (fewE b.f2).length c5,.slice A6 (fewUs b.f3).length c6,.int .u64 b.f4]) (by simp [results,Tryz.results10,go_sem,z0,z1,z2,z3,z4]) rfl ?_
 exact ⟨A5,c5,A6,c6,rfl,l5,l6,Y3.out,Y4.out,hHeld.1⟩
end
section
open Go.WideMaps Go.Maps
def kB : Kd S26:=Kd.iso (Kd.pair Kd.string (Kd.pair (Kd.int .i64) (Kd.pair (Kd.slice 56 k56) (Kd.pair (Kd.slice 101 k101) (Kd.int .u64))))) (fun x : S26=>(x.f0,x.f1,x.f2,x.f3,x.f4))
theorem kB_open {w : World} {x : S26} {cs : List Value} (h : kB.K w x cs) : ∃ A2 c2 A3 c3,cs = [.string x.f0,.int .i64 x.f1,.slice A2 x.f2.length c2,.slice A3 x.f3.length c3,.int .u64 x.f4] ∧ x.f2.length ≤ c2 ∧ k56.C w A2 x.f2.length x.f2 ∧ x.f3.length ≤ c3 ∧ k101.C w A3 x.f3.length x.f3:=by
 obtain ⟨_,_,rfl,rfl,⟨_,_,rfl,rfl,⟨_,_,rfl,⟨A2,c2,rfl,l2,g2⟩,⟨_,_,rfl,⟨A3,c3,rfl,l3,g3⟩,rfl⟩⟩⟩⟩:=h
 exact ⟨A2,c2,A3,c3,rfl,l2,g2,l3,g3⟩
theorem kB_mk (w : World) (x : S26) {A2 : Option Addr} {c2 : Nat} (l2 : x.f2.length ≤ c2) (g2 : k56.C w A2 x.f2.length x.f2) {A3 : Option Addr} {c3 : Nat} (l3 : x.f3.length ≤ c3) (g3 : k101.C w A3 x.f3.length x.f3) : kB.K w x [.string x.f0,.int .i64 x.f1,.slice A2 x.f2.length c2,.slice A3 x.f3.length c3,.int .u64 x.f4]:=⟨[.string x.f0],[.int .i64 x.f1,.slice A2 x.f2.length c2,.slice A3 x.f3.length c3,.int .u64 x.f4],rfl,rfl,⟨[.int .i64 x.f1],[.slice A2 x.f2.length c2,.slice A3 x.f3.length c3,.int .u64 x.f4],rfl,rfl,⟨[.slice A2 x.f2.length c2],[.slice A3 x.f3.length c3,.int .u64 x.f4],rfl,⟨A2,c2,rfl,l2,g2⟩,⟨[.slice A3 x.f3.length c3],[.int .u64 x.f4],rfl,⟨A3,c3,rfl,l3,g3⟩,rfl⟩⟩⟩⟩
def kA : Kd Act:=Kd.iso (Kd.pair (Kd.int .u8) (Kd.pair Kd.string (Kd.pair Kd.string (Kd.pair (Kd.int .u64) (Kd.pair (Kd.int .i64) (Kd.pair (Kd.int .i64) (Kd.slice 43 k43))))))) (fun x : Act=>(x.kd,x.key,x.data,x.id,x.n,x.q,x.ps))
theorem kA_open {w : World} {x : Act} {cs : List Value} (h : kA.K w x cs) : ∃ A6 c6,cs = [.int .u8 x.kd,.string x.key,.string x.data,.int .u64 x.id,.int .i64 x.n,.int .i64 x.q,.slice A6 x.ps.length c6] ∧ x.ps.length ≤ c6 ∧ k43.C w A6 x.ps.length x.ps:=by
 obtain ⟨_,_,rfl,rfl,⟨_,_,rfl,rfl,⟨_,_,rfl,rfl,⟨_,_,rfl,rfl,⟨_,_,rfl,rfl,⟨_,_,rfl,rfl,⟨A6,c6,rfl,l6,g6⟩⟩⟩⟩⟩⟩⟩:=h
 exact ⟨A6,c6,rfl,l6,g6⟩
theorem kA_mk (w : World) (x : Act) {A6 : Option Addr} {c6 : Nat} (l6 : x.ps.length ≤ c6) (g6 : k43.C w A6 x.ps.length x.ps) : kA.K w x [.int .u8 x.kd,.string x.key,.string x.data,.int .u64 x.id,.int .i64 x.n,.int .i64 x.q,.slice A6 x.ps.length c6]:=⟨[.int .u8 x.kd],[.string x.key,.string x.data,.int .u64 x.id,.int .i64 x.n,.int .i64 x.q,.slice A6 x.ps.length c6],rfl,rfl,⟨[.string x.key],[.string x.data,.int .u64 x.id,.int .i64 x.n,.int .i64 x.q,.slice A6 x.ps.length c6],rfl,rfl,⟨[.string x.data],[.int .u64 x.id,.int .i64 x.n,.int .i64 x.q,.slice A6 x.ps.length c6],rfl,rfl,⟨[.int .u64 x.id],[.int .i64 x.n,.int .i64 x.q,.slice A6 x.ps.length c6],rfl,rfl,⟨[.int .i64 x.n],[.int .i64 x.q,.slice A6 x.ps.length c6],rfl,rfl,⟨[.int .i64 x.q],[.slice A6 x.ps.length c6],rfl,rfl,⟨A6,c6,rfl,l6,g6⟩⟩⟩⟩⟩⟩⟩
end
section
open Go.WideMaps Go.Maps
def wfu (n : Int) : Prop:=0 ≤ n ∧ n ≤ 18446744073709551615
def wfi (n : Int) : Prop:=-9223372036854775808 ≤ n ∧ n ≤ 9223372036854775807
theorem wfu_of {n : Int} (h : (Lit.int .u64 n).wf = true) : wfu n:=by
 have h2 : (decide ((IntKind.u64).min ≤ n) && decide (n ≤ (IntKind.u64).max)) = true:=h
 rw [Bool.and_eq_true,decide_eq_true_eq,decide_eq_true_eq,show (IntKind.u64).min = 0 from rfl,show (IntKind.u64).max = 18446744073709551615 from rfl] at h2
 exact h2
theorem wfi_of {n : Int} (h : (Lit.int .i64 n).wf = true) : wfi n:=by
 have h2 : (decide ((IntKind.i64).min ≤ n) && decide (n ≤ (IntKind.i64).max)) = true:=h
 rw [Bool.and_eq_true,decide_eq_true_eq,decide_eq_true_eq,show (IntKind.i64).min = -9223372036854775808 from rfl,show (IntKind.i64).max = 9223372036854775807 from rfl] at h2
 exact h2
def wf8 (n : Int) : Prop:=0 ≤ n ∧ n ≤ 255
theorem wf8_of {n : Int} (h : (Lit.int .u8 n).wf = true) : wf8 n:=by
 have h2 : (decide ((IntKind.u8).min ≤ n) && decide (n ≤ (IntKind.u8).max)) = true:=h
 rw [Bool.and_eq_true,decide_eq_true_eq,decide_eq_true_eq,show (IntKind.u8).min = 0 from rfl,show (IntKind.u8).max = 255 from rfl] at h2
 exact h2
def wf32 (n : Int) : Prop:=0 ≤ n ∧ n ≤ 4294967295
theorem wf32_of {n : Int} (h : (Lit.int .u32 n).wf = true) : wf32 n:=by
 have h2 : (decide ((IntKind.u32).min ≤ n) && decide (n ≤ (IntKind.u32).max)) = true:=h
 rw [Bool.and_eq_true,decide_eq_true_eq,decide_eq_true_eq,show (IntKind.u32).min = 0 from rfl,show (IntKind.u32).max = 4294967295 from rfl] at h2
 exact h2
theorem tstruct5 {H : Type} {enc : TypeId × Value → H} {P : Program} {w : World} {base : Nat} {spare : Nat → Bool} {held : Bool} {t : TypeId} {f0 f1 f2 f3 f4 : Field} {fuel : Nat} {cs : List Value} {x : DataW H × List MemPlace} (ht : P.underlying t = some (.struct #[f0,f1,f2,f3,f4])) (h : DataW.trod enc P w base spare held fuel t cs = some x) :
  ∃ y0 y1 y2 y3 y4 n,cs.length = P.cellsOf t ∧ DataW.trod enc P w base spare held n f0.type ((cs.drop f0.offset).take (P.cellsOf f0.type)) = some y0 ∧ DataW.trod enc P w base spare held n f1.type ((cs.drop f1.offset).take (P.cellsOf f1.type)) = some y1 ∧
   DataW.trod enc P w base spare held n f2.type ((cs.drop f2.offset).take (P.cellsOf f2.type)) = some y2 ∧ DataW.trod enc P w base spare held n f3.type ((cs.drop f3.offset).take (P.cellsOf f3.type)) = some y3 ∧ DataW.trod enc P w base spare held n f4.type ((cs.drop f4.offset).take (P.cellsOf f4.type)) = some y4:=by
 obtain ⟨xs,n,_,_,hl,hlen,hf⟩:=DataW.trod_struct ht h
 match xs,hlen with
 | [y0,y1,y2,y3,y4],_=>exact ⟨y0,y1,y2,y3,y4,n,hl,hf 0 f0 rfl,hf 1 f1 rfl,hf 2 f2 rfl,hf 3 f3 rfl,hf 4 f4 rfl⟩
theorem tstruct4 {H : Type} {enc : TypeId × Value → H} {P : Program} {w : World} {base : Nat} {spare : Nat → Bool} {held : Bool} {t : TypeId} {f0 f1 f2 f3 : Field} {fuel : Nat} {cs : List Value} {x : DataW H × List MemPlace} (ht : P.underlying t = some (.struct #[f0,f1,f2,f3])) (h : DataW.trod enc P w base spare held fuel t cs = some x) :
  ∃ y0 y1 y2 y3 n,cs.length = P.cellsOf t ∧ DataW.trod enc P w base spare held n f0.type ((cs.drop f0.offset).take (P.cellsOf f0.type)) = some y0 ∧ DataW.trod enc P w base spare held n f1.type ((cs.drop f1.offset).take (P.cellsOf f1.type)) = some y1 ∧
   DataW.trod enc P w base spare held n f2.type ((cs.drop f2.offset).take (P.cellsOf f2.type)) = some y2 ∧ DataW.trod enc P w base spare held n f3.type ((cs.drop f3.offset).take (P.cellsOf f3.type)) = some y3:=by
 obtain ⟨xs,n,_,_,hl,hlen,hf⟩:=DataW.trod_struct ht h
 match xs,hlen with
 | [y0,y1,y2,y3],_=>exact ⟨y0,y1,y2,y3,n,hl,hf 0 f0 rfl,hf 1 f1 rfl,hf 2 f2 rfl,hf 3 f3 rfl⟩
theorem tstruct3 {H : Type} {enc : TypeId × Value → H} {P : Program} {w : World} {base : Nat} {spare : Nat → Bool} {held : Bool} {t : TypeId} {f0 f1 f2 : Field} {fuel : Nat} {cs : List Value} {x : DataW H × List MemPlace} (ht : P.underlying t = some (.struct #[f0,f1,f2])) (h : DataW.trod enc P w base spare held fuel t cs = some x) :
  ∃ y0 y1 y2 n,cs.length = P.cellsOf t ∧ DataW.trod enc P w base spare held n f0.type ((cs.drop f0.offset).take (P.cellsOf f0.type)) = some y0 ∧ DataW.trod enc P w base spare held n f1.type ((cs.drop f1.offset).take (P.cellsOf f1.type)) = some y1 ∧
   DataW.trod enc P w base spare held n f2.type ((cs.drop f2.offset).take (P.cellsOf f2.type)) = some y2:=by
 obtain ⟨xs,n,_,_,hl,hlen,hf⟩:=DataW.trod_struct ht h
 match xs,hlen with
 | [y0,y1,y2],_=>exact ⟨y0,y1,y2,n,hl,hf 0 f0 rfl,hf 1 f1 rfl,hf 2 f2 rfl⟩
theorem tstruct2 {H : Type} {enc : TypeId × Value → H} {P : Program} {w : World} {base : Nat} {spare : Nat → Bool} {held : Bool} {t : TypeId} {f0 f1 : Field} {fuel : Nat} {cs : List Value} {x : DataW H × List MemPlace} (ht : P.underlying t = some (.struct #[f0,f1])) (h : DataW.trod enc P w base spare held fuel t cs = some x) :
  ∃ y0 y1 n,cs.length = P.cellsOf t ∧ DataW.trod enc P w base spare held n f0.type ((cs.drop f0.offset).take (P.cellsOf f0.type)) = some y0 ∧ DataW.trod enc P w base spare held n f1.type ((cs.drop f1.offset).take (P.cellsOf f1.type)) = some y1:=by
 obtain ⟨xs,n,_,_,hl,hlen,hf⟩:=DataW.trod_struct ht h
 match xs,hlen with
 | [y0,y1],_=>exact ⟨y0,y1,n,hl,hf 0 f0 rfl,hf 1 f1 rfl⟩
def OpensQ {α : Type} (P : Program) (d : Kd α) (t : TypeId) (Q : α → Prop) : Prop :=
 ∀ (H : Type) (enc : TypeId × Value → H) (W : World) (n : Nat) (cs : List Value) (x : DataW H × List MemPlace),DataW.trod enc P W 0 (fun _=>true) true n t cs = some x → ∃ y : α,d.K W y cs ∧ Q y
theorem opensQ_C {α : Type} {P : Program} {d : Kd α} {t e : TypeId} (ht : P.underlying t = some (.slice e)) (hs : P.cellsOf e = d.sz) {Q : α → Prop} (he : OpensQ P d e Q) (z : α) (H : Type) (enc : TypeId × Value → H) (W : World) (n : Nat) (cs : List Value) (x : DataW H × List MemPlace)
  (h : DataW.trod enc P W 0 (fun _=>true) true n t cs = some x) : ∃ (l : List α) (A : Option Addr) (c : Nat),cs = [.slice A l.length c] ∧ l.length ≤ c ∧ d.C W A l.length l ∧ ∀ x ∈ l,Q x:=by
 rcases DataW.trod_slice ht h with ⟨rfl,_⟩ | ⟨a,len,cap,elems,rest,m,_,rfl,_,_,hl,hm,hlen,hel,_,_⟩
 ·exact ⟨[],none,0,rfl,Nat.le_refl _,⟨rfl,by simp,fun h0=>by simp at h0⟩,fun x hx=>by cases hx⟩
 have each : ∀ i : Nat,∃ p : α,i < len → Q p ∧ ∃ c : List Value,c.length = d.sz ∧ d.K W p c ∧ ∀ j u,c[j]? = some u → W.cell? (a.add (i * d.sz + j)) = some u:=by
  intro i
  by_cases hi : i < len
  ·have h1:=hel i hi
   rw [List.getElem?_eq_getElem (by omega),Option.bind_eq_some_iff] at h1
   obtain ⟨c,hc,ht'⟩:=h1
   obtain ⟨y,hy,hq⟩:=he H enc W m c _ ht'
   refine ⟨y,fun _=>⟨hq,c,d.K_len hy,hy,fun j u hu=>?_⟩⟩
   obtain ⟨_,hcl,hcell⟩:=World.cells?_some hc
   have:=hcell j (by have:=(List.getElem?_eq_some_iff.1 hu).1;omega)
   rw [hs,add_add] at this
   rw [this,hu]
  ·exact ⟨z,fun h=>absurd h hi⟩
 obtain ⟨f,hf⟩:=Classical.skolem.1 each
 refine ⟨(List.range len).map f,some a,cap,by simp,by simpa using hl,⟨by simp,by simp [maxLen] at hm ⊢;omega,fun _=>⟨a,rfl,fun j p hj=>?_⟩⟩,fun x hx=>by
  obtain ⟨j,hj,rfl⟩:=List.mem_map.1 hx
  exact (hf j (List.mem_range.1 hj)).1⟩
 rw [List.getElem?_map] at hj
 have hjl : j < len:=by
  rcases Nat.lt_or_ge j len with h | h
  ·exact h
  ·rw [List.getElem?_eq_none (by simpa using h)] at hj;cases hj
 rw [List.getElem?_range hjl] at hj
 injection hj with hj
 subst hj
 exact (hf j hjl).2
theorem tstruct7 {H : Type} {enc : TypeId × Value → H} {P : Program} {w : World} {base : Nat} {spare : Nat → Bool} {held : Bool} {t : TypeId} {f0 f1 f2 f3 f4 f5 f6 : Field} {fuel : Nat} {cs : List Value} {x : DataW H × List MemPlace} (ht : P.underlying t = some (.struct #[f0,f1,f2,f3,f4,f5,f6])) (h : DataW.trod enc P w base spare held fuel t cs = some x) :
  ∃ y0 y1 y2 y3 y4 y5 y6 n,cs.length = P.cellsOf t ∧ DataW.trod enc P w base spare held n f0.type ((cs.drop f0.offset).take (P.cellsOf f0.type)) = some y0 ∧ DataW.trod enc P w base spare held n f1.type ((cs.drop f1.offset).take (P.cellsOf f1.type)) = some y1 ∧ DataW.trod enc P w base spare held n f2.type ((cs.drop f2.offset).take (P.cellsOf f2.type)) = some y2 ∧ DataW.trod enc P w base spare held n f3.type ((cs.drop f3.offset).take (P.cellsOf f3.type)) = some y3 ∧ DataW.trod enc P w base spare held n f4.type ((cs.drop f4.offset).take (P.cellsOf f4.type)) = some y4 ∧ DataW.trod enc P w base spare held n f5.type ((cs.drop f5.offset).take (P.cellsOf f5.type)) = some y5 ∧ DataW.trod enc P w base spare held n f6.type ((cs.drop f6.offset).take (P.cellsOf f6.type)) = some y6:=by
 obtain ⟨xs,n,_,_,hl,hlen,hf⟩:=DataW.trod_struct ht h
 match xs,hlen with
 | [y0,y1,y2,y3,y4,y5,y6],_=>exact ⟨y0,y1,y2,y3,y4,y5,y6,n,hl,hf 0 f0 rfl,hf 1 f1 rfl,hf 2 f2 rfl,hf 3 f3 rfl,hf 4 f4 rfl,hf 5 f5 rfl,hf 6 f6 rfl⟩
theorem cellsT_uint64 : Tryz.prog.cellsOf 24 = 1:=by kernel_rfl
theorem cellsT_uint32 : Tryz.prog.cellsOf 36 = 1:=by kernel_rfl
theorem cellsT_uint8 : Tryz.prog.cellsOf 5 = 1:=by kernel_rfl
theorem cellsT_3 : Tryz.prog.cellsOf 3 = 1:=by kernel_rfl
theorem cellsT_9 : Tryz.prog.cellsOf 9 = 1:=by kernel_rfl
theorem cellsT_4 : Tryz.prog.cellsOf 4 = 1:=by kernel_rfl
theorem cellsT_Version : Tryz.prog.cellsOf 54 = 1:=by kernel_rfl
theorem cellsT_Entry : Tryz.prog.cellsOf 22 = 1:=by kernel_rfl
theorem cellsT_Part : Tryz.prog.cellsOf 99 = 1:=by kernel_rfl
theorem cellsT_Upload : Tryz.prog.cellsOf 23 = 1:=by kernel_rfl
theorem cellsT_Piece : Tryz.prog.cellsOf 35 = 1:=by kernel_rfl
theorem cellsS_Version : Tryz.prog.cellsOf 47 = 4:=by kernel_rfl
def wfVersion (x : S47) : Prop:=wfu x.f0 ∧ wfi x.f3
theorem opensQVersion : OpensQ Tryz.prog k47 47 wfVersion:=by
 intro H enc W n cs x h
 obtain ⟨y0,y1,y2,y3,m,hl,t0,t1,t2,t3⟩:=tstruct4 Tryz.underlying47 h
 rw [cellsS_Version] at hl
 match cs,hl with
 | [a,b,c,d],_ =>
  simp only [cellsT_3,cellsT_4,cellsT_9,cellsT_uint64,List.drop,List.take] at t0 t1 t2 t3
  obtain ⟨s0,e0,_,w0⟩:=DataW.trod_int Tryz.underlying24 t0
  obtain ⟨s1,e1,_,_⟩:=DataW.trod_string Tryz.underlying9 t1
  obtain ⟨s2,e2,_⟩:=DataW.trod_bool Tryz.underlying4 t2
  obtain ⟨s3,e3,_,w3⟩:=DataW.trod_int Tryz.underlying3 t3
  injection e0 with e0;injection e1 with e1;injection e2 with e2;injection e3 with e3
  subst e0 e1 e2 e3
  exact ⟨⟨s0,s1,s2,s3⟩,k47_mk W ⟨s0,s1,s2,s3⟩ ,wfu_of w0,wfi_of w3⟩
theorem cellsS_Entry : Tryz.prog.cellsOf 56 = 2:=by kernel_rfl
def wfEntry (x : S56) : Prop:=(∀ y ∈ x.f1,wfVersion y)
theorem opensQEntry : OpensQ Tryz.prog k56 56 wfEntry:=by
 intro H enc W n cs x h
 obtain ⟨y0,y1,m,hl,t0,t1⟩:=tstruct2 Tryz.underlying56 h
 rw [cellsS_Entry] at hl
 match cs,hl with
 | [a,b],_ =>
  simp only [cellsT_9,cellsT_Version,List.drop,List.take] at t0 t1
  obtain ⟨s0,e0,_,_⟩:=DataW.trod_string Tryz.underlying9 t0
  obtain ⟨s1,A1,c1,e1,hle1,hC1,w1⟩:=opensQ_C Tryz.underlying54 cellsS_Version opensQVersion z47 _ _ _ _ _ _ t1
  injection e0 with e0;injection e1 with e1
  subst e0 e1
  exact ⟨⟨s0,s1⟩,k56_mk W ⟨s0,s1⟩ hle1 hC1,w1⟩
theorem cellsS_Part : Tryz.prog.cellsOf 40 = 2:=by kernel_rfl
def wfPart (x : S40) : Prop:=wfi x.f0
theorem opensQPart : OpensQ Tryz.prog k40 40 wfPart:=by
 intro H enc W n cs x h
 obtain ⟨y0,y1,m,hl,t0,t1⟩:=tstruct2 Tryz.underlying40 h
 rw [cellsS_Part] at hl
 match cs,hl with
 | [a,b],_ =>
  simp only [cellsT_3,cellsT_9,List.drop,List.take] at t0 t1
  obtain ⟨s0,e0,_,w0⟩:=DataW.trod_int Tryz.underlying3 t0
  obtain ⟨s1,e1,_,_⟩:=DataW.trod_string Tryz.underlying9 t1
  injection e0 with e0;injection e1 with e1
  subst e0 e1
  exact ⟨⟨s0,s1⟩,k40_mk W ⟨s0,s1⟩ ,wfi_of w0⟩
theorem cellsS_Upload : Tryz.prog.cellsOf 101 = 3:=by kernel_rfl
def wfUpload (x : S101) : Prop:=wfu x.f0 ∧ (∀ y ∈ x.f2,wfPart y)
theorem opensQUpload : OpensQ Tryz.prog k101 101 wfUpload:=by
 intro H enc W n cs x h
 obtain ⟨y0,y1,y2,m,hl,t0,t1,t2⟩:=tstruct3 Tryz.underlying101 h
 rw [cellsS_Upload] at hl
 match cs,hl with
 | [a,b,c],_ =>
  simp only [cellsT_9,cellsT_Part,cellsT_uint64,List.drop,List.take] at t0 t1 t2
  obtain ⟨s0,e0,_,w0⟩:=DataW.trod_int Tryz.underlying24 t0
  obtain ⟨s1,e1,_,_⟩:=DataW.trod_string Tryz.underlying9 t1
  obtain ⟨s2,A2,c2,e2,hle2,hC2,w2⟩:=opensQ_C Tryz.underlying99 cellsS_Part opensQPart z40 _ _ _ _ _ _ t2
  injection e0 with e0;injection e1 with e1;injection e2 with e2
  subst e0 e1 e2
  exact ⟨⟨s0,s1,s2⟩,k101_mk W ⟨s0,s1,s2⟩ hle2 hC2,wfu_of w0,w2⟩
theorem cellsS_Bucket : Tryz.prog.cellsOf 26 = 5:=by kernel_rfl
def wfBucket (x : S26) : Prop:=wfi x.f1 ∧ (∀ y ∈ x.f2,wfEntry y) ∧ (∀ y ∈ x.f3,wfUpload y) ∧ wfu x.f4
theorem opensQBucket : OpensQ Tryz.prog kB 26 wfBucket:=by
 intro H enc W n cs x h
 obtain ⟨y0,y1,y2,y3,y4,m,hl,t0,t1,t2,t3,t4⟩:=tstruct5 Tryz.underlying26 h
 rw [cellsS_Bucket] at hl
 match cs,hl with
 | [a,b,c,d,e],_ =>
  simp only [cellsT_3,cellsT_9,cellsT_Entry,cellsT_Upload,cellsT_uint64,List.drop,List.take] at t0 t1 t2 t3 t4
  obtain ⟨s0,e0,_,_⟩:=DataW.trod_string Tryz.underlying9 t0
  obtain ⟨s1,e1,_,w1⟩:=DataW.trod_int Tryz.underlying3 t1
  obtain ⟨s2,A2,c2,e2,hle2,hC2,w2⟩:=opensQ_C Tryz.underlying22 cellsS_Entry opensQEntry z56 _ _ _ _ _ _ t2
  obtain ⟨s3,A3,c3,e3,hle3,hC3,w3⟩:=opensQ_C Tryz.underlying23 cellsS_Upload opensQUpload z101 _ _ _ _ _ _ t3
  obtain ⟨s4,e4,_,w4⟩:=DataW.trod_int Tryz.underlying24 t4
  injection e0 with e0;injection e1 with e1;injection e2 with e2;injection e3 with e3;injection e4 with e4
  subst e0 e1 e2 e3 e4
  exact ⟨⟨s0,s1,s2,s3,s4⟩,kB_mk W ⟨s0,s1,s2,s3,s4⟩ hle2 hC2 hle3 hC3,wfi_of w1,w2,w3,wfu_of w4⟩
theorem cellsS_Piece : Tryz.prog.cellsOf 43 = 2:=by kernel_rfl
def wfPiece (x : S43) : Prop:=wfi x.f0 ∧ wf32 x.f1
theorem opensQPiece : OpensQ Tryz.prog k43 43 wfPiece:=by
 intro H enc W n cs x h
 obtain ⟨y0,y1,m,hl,t0,t1⟩:=tstruct2 Tryz.underlying43 h
 rw [cellsS_Piece] at hl
 match cs,hl with
 | [a,b],_ =>
  simp only [cellsT_3,cellsT_uint32,List.drop,List.take] at t0 t1
  obtain ⟨s0,e0,_,w0⟩:=DataW.trod_int Tryz.underlying3 t0
  obtain ⟨s1,e1,_,w1⟩:=DataW.trod_int Tryz.underlying36 t1
  injection e0 with e0;injection e1 with e1
  subst e0 e1
  exact ⟨⟨s0,s1⟩,k43_mk W ⟨s0,s1⟩ ,wfi_of w0,wf32_of w1⟩
theorem cellsS_Act : Tryz.prog.cellsOf 59 = 7:=by kernel_rfl
def wfAct (x : Act) : Prop:=wf8 x.kd ∧ wfu x.id ∧ wfi x.n ∧ wfi x.q ∧ (∀ y ∈ x.ps,wfPiece y)
theorem opensQAct : OpensQ Tryz.prog kA 59 wfAct:=by
 intro H enc W n cs x h
 obtain ⟨y0,y1,y2,y3,y4,y5,y6,m,hl,t0,t1,t2,t3,t4,t5,t6⟩:=tstruct7 Tryz.underlying59 h
 rw [cellsS_Act] at hl
 match cs,hl with
 | [a,b,c,d,e,f,g],_ =>
  simp only [cellsT_3,cellsT_9,cellsT_Piece,cellsT_uint64,cellsT_uint8,List.drop,List.take] at t0 t1 t2 t3 t4 t5 t6
  obtain ⟨s0,e0,_,w0⟩:=DataW.trod_int Tryz.underlying5 t0
  obtain ⟨s1,e1,_,_⟩:=DataW.trod_string Tryz.underlying9 t1
  obtain ⟨s2,e2,_,_⟩:=DataW.trod_string Tryz.underlying9 t2
  obtain ⟨s3,e3,_,w3⟩:=DataW.trod_int Tryz.underlying24 t3
  obtain ⟨s4,e4,_,w4⟩:=DataW.trod_int Tryz.underlying3 t4
  obtain ⟨s5,e5,_,w5⟩:=DataW.trod_int Tryz.underlying3 t5
  obtain ⟨s6,A6,c6,e6,hle6,hC6,w6⟩:=opensQ_C Tryz.underlying35 cellsS_Piece opensQPiece z43 _ _ _ _ _ _ t6
  injection e0 with e0;injection e1 with e1;injection e2 with e2;injection e3 with e3;injection e4 with e4;injection e5 with e5;injection e6 with e6
  subst e0 e1 e2 e3 e4 e5 e6
  exact ⟨⟨s0,s1,s2,s3,s4,s5,s6⟩,kA_mk W ⟨s0,s1,s2,s3,s4,s5,s6⟩ hle6 hC6,wf8_of w0,wfu_of w3,wfi_of w4,wfi_of w5,w6⟩
theorem open_bucket {H : Type} {enc : TypeId × Value → H} {W : World} {base : Nat} {v : Value} {d : DataW H} {p : List MemPlace} (hv : Value.okWide Tryz.prog W .any base 26 v) (h : DataW.Trod enc Tryz.prog W 0 (fun _=>true) true 26 v d p) :
  ∃ (x : S26) (A2 : Option Addr) (c2 : Nat) (A3 : Option Addr) (c3 : Nat),v = .agg #[.string x.f0,.int .i64 x.f1,.slice A2 x.f2.length c2,.slice A3 x.f3.length c3,.int .u64 x.f4] ∧ x.f2.length ≤ c2 ∧ Kd.C k56 W A2 x.f2.length x.f2 ∧ x.f3.length ≤ c3 ∧ Kd.C k101 W A3 x.f3.length x.f3 ∧ wfBucket x:=by
 obtain ⟨cs,rfl,hsz⟩:=Go.WideShapes.okWide_struct Tryz.underlying26 hv
 obtain ⟨n,hn⟩:=h
 obtain ⟨y,hy,hq⟩:=opensQBucket _ _ _ _ _ _ hn
 obtain ⟨A2,c2,A3,c3,hk,h2,g2,h3,g3⟩:=kB_open hy
 refine ⟨y,A2,c2,A3,c3,?_,h2,g2,h3,g3,hq⟩
 have e2 : cs.toList = [.string y.f0,.int .i64 y.f1,.slice A2 y.f2.length c2,.slice A3 y.f3.length c3,.int .u64 y.f4]:=by simpa [Value.cells] using hk
 rw [← Array.toArray_toList (xs:=cs),e2]
theorem open_act {H : Type} {enc : TypeId × Value → H} {W : World} {base : Nat} {v : Value} {d : DataW H} {p : List MemPlace} (hv : Value.okWide Tryz.prog W .any base 59 v) (h : DataW.Trod enc Tryz.prog W 0 (fun _=>true) true 59 v d p) :
  ∃ (x : Act) (A6 : Option Addr) (c6 : Nat),v = .agg #[.int .u8 x.kd,.string x.key,.string x.data,.int .u64 x.id,.int .i64 x.n,.int .i64 x.q,.slice A6 x.ps.length c6] ∧ x.ps.length ≤ c6 ∧ Kd.C k43 W A6 x.ps.length x.ps ∧ wfAct x:=by
 obtain ⟨cs,rfl,hsz⟩:=Go.WideShapes.okWide_struct Tryz.underlying59 hv
 obtain ⟨n,hn⟩:=h
 obtain ⟨y,hy,hq⟩:=opensQAct _ _ _ _ _ _ hn
 obtain ⟨A6,c6,hk,h6,g6⟩:=kA_open hy
 refine ⟨y,A6,c6,?_,h6,g6,hq⟩
 have e2 : cs.toList = [.int .u8 y.kd,.string y.key,.string y.data,.int .u64 y.id,.int .i64 y.n,.int .i64 y.q,.slice A6 y.ps.length c6]:=by simpa [Value.cells] using hk
 rw [← Array.toArray_toList (xs:=cs),e2]
end
section
open Go.WideMaps Go.Maps
section
variable {w w1 : World} {g : Nat} {es : Array MapEntry} {clock : Nat} {A : Option Addr} {n : Nat}
end
abbrev kl (key : ByteArray) : Lit:=.string key.data.toList
section
variable (w : World) {ops : Array Oper} {rest : List Oper} {o : Oper} {a : Go.Act} {Q : Exit → Go.Act → World → Prop}
end
end
section
open Go.WideMaps Go.Maps
theorem do3.walk (b : S26) (A2 A3 : Option Addr) (c2 c3 : Nat) (a : Act) (A : Option Addr) (c : Nat) (w : World) (h2 : Kd.C k56 w A2 b.f2.length b.f2) (g2 : b.f2.length ≤ c2) (h3 : Kd.C k101 w A3 b.f3.length b.f3) (g3 : b.f3.length ≤ c3) (k0 : 0 ≤ Int.tmod a.kd 9) (k3 : Int.tmod a.kd 9 < 3) :
  Calls Tryz.prog 23 #[.agg #[.string b.f0,.int .i64 b.f1,.slice A2 b.f2.length c2,.slice A3 b.f3.length c3,.int .u64 b.f4],.agg #[.int .u8 a.kd,.string a.key,.string a.data,.int .u64 a.id,.int .i64 a.n,.int .i64 a.q,.slice A a.ps.length c]] w (DoPost (doR b a).b (doR b a).id (doR b a).tg (doR b a).er w):=by
 obtain ⟨kd,key,data,id,n,q,ps⟩:=a
 simp only at k0 k3
 unfold doR
 by_cases k0 : Int.tmod kd 9 = 0
 ·rw [if_pos k0];exact do_put0 b A2 A3 c2 c3 kd id n q key data A ps c w h2 g2 h3 g3 k0
 rw [if_neg k0]
 by_cases k1 : Int.tmod kd 9 = 1
 ·rw [if_pos k1];exact do_put1 b A2 A3 c2 c3 kd id n q key data A ps c w h2 g2 h3 g3 k1
 have k2 : Int.tmod kd 9 = 2:=by omega
 rw [if_neg k1,if_pos k2];exact do_del b A2 A3 c2 c3 kd id n q key data A ps c w h2 g2 h3 g3 k2
theorem do4.walk (b : S26) (A2 A3 : Option Addr) (c2 c3 : Nat) (a : Act) (A : Option Addr) (c : Nat) (w : World) (h2 : Kd.C k56 w A2 b.f2.length b.f2) (g2 : b.f2.length ≤ c2) (h3 : Kd.C k101 w A3 b.f3.length b.f3) (g3 : b.f3.length ≤ c3) (k0 : 0 ≤ Int.tmod a.kd 9) (k4 : Int.tmod a.kd 9 < 4) :
  Calls Tryz.prog 23 #[.agg #[.string b.f0,.int .i64 b.f1,.slice A2 b.f2.length c2,.slice A3 b.f3.length c3,.int .u64 b.f4],.agg #[.int .u8 a.kd,.string a.key,.string a.data,.int .u64 a.id,.int .i64 a.n,.int .i64 a.q,.slice A a.ps.length c]] w (DoPost (doR b a).b (doR b a).id (doR b a).tg (doR b a).er w):=by
 by_cases k3 : Int.tmod a.kd 9 < 3
 ·exact do3.walk b A2 A3 c2 c3 a A c w h2 g2 h3 g3 k0 k3
 ·obtain ⟨kd,key,data,id,n,q,ps⟩:=a
  simp only at k0 k3 k4
  unfold doR
  have k3 : Int.tmod kd 9 = 3:=by omega
  have n0 : ¬ Int.tmod kd 9 = 0:=by omega
  have n1 : ¬ Int.tmod kd 9 = 1:=by omega
  have n2 : ¬ Int.tmod kd 9 = 2:=by omega
  rw [if_neg n0,if_neg n1,if_neg n2,if_pos k3];exact do_drop b A2 A3 c2 c3 kd id n q key data A ps c w h2 g2 h3 g3 k3
end
section
open Go.WideMaps Go.Maps
attribute [local go_sem] Oper.semAt_some
theorem cl5 {w : World} {g : Nat} {t : TypeId} {x0 x1 x2 x3 x4 : Value} (h : w.heap[g]? = some (.cells #[x0,x1,x2,x3,x4] t (0,0))) : w.cell? ⟨g,0,none⟩ = some x0 ∧ w.cell? ⟨g,1,none⟩ = some x1 ∧ w.cell? ⟨g,2,none⟩ = some x2 ∧ w.cell? ⟨g,3,none⟩ = some x3 ∧ w.cell? ⟨g,4,none⟩ = some x4 :=
 ⟨(blk_cell h 0).trans rfl,(blk_cell h 1).trans rfl,(blk_cell h 2).trans rfl,(blk_cell h 3).trans rfl,(blk_cell h 4).trans rfl⟩
theorem cl7 {w : World} {g : Nat} {t : TypeId} {x0 x1 x2 x3 x4 x5 x6 : Value} (h : w.heap[g]? = some (.cells #[x0,x1,x2,x3,x4,x5,x6] t (0,0))) : w.cell? ⟨g,0,none⟩ = some x0 ∧ w.cell? ⟨g,1,none⟩ = some x1 ∧ w.cell? ⟨g,2,none⟩ = some x2 ∧ w.cell? ⟨g,3,none⟩ = some x3 ∧ w.cell? ⟨g,4,none⟩ = some x4 ∧ w.cell? ⟨g,5,none⟩ = some x5 ∧ w.cell? ⟨g,6,none⟩ = some x6 :=
 ⟨(blk_cell h 0).trans rfl,(blk_cell h 1).trans rfl,(blk_cell h 2).trans rfl,(blk_cell h 3).trans rfl,(blk_cell h 4).trans rfl,(blk_cell h 5).trans rfl,(blk_cell h 6).trans rfl⟩
theorem cl8 {w : World} {g : Nat} {t : TypeId} {x0 x1 x2 x3 x4 x5 x6 x7 : Value} (h : w.heap[g]? = some (.cells #[x0,x1,x2,x3,x4,x5,x6,x7] t (0,0))) : w.cell? ⟨g,0,none⟩ = some x0 ∧ w.cell? ⟨g,1,none⟩ = some x1 ∧ w.cell? ⟨g,2,none⟩ = some x2 ∧ w.cell? ⟨g,3,none⟩ = some x3 ∧ w.cell? ⟨g,4,none⟩ = some x4 ∧ w.cell? ⟨g,5,none⟩ = some x5 ∧ w.cell? ⟨g,6,none⟩ = some x6 ∧ w.cell? ⟨g,7,none⟩ = some x7 :=
 ⟨(blk_cell h 0).trans rfl,(blk_cell h 1).trans rfl,(blk_cell h 2).trans rfl,(blk_cell h 3).trans rfl,(blk_cell h 4).trans rfl,(blk_cell h 5).trans rfl,(blk_cell h 6).trans rfl,(blk_cell h 7).trans rfl⟩
section
variable {P : Program} {md : Region.Mode} {ops : Array Oper} {Q : Exit → Go.Act → World → Prop} {z : Nat} {S : World → Prop}
/-- behind z: one that is ready alone -/
theorem wpAnyZ_after {i : Nat} {fuel : Nat} {listed : Array Bool} {a : Go.Act} {w : World} {o : Oper} (hr : Region.ready md ops listed = [i]) (hz : (listed.setIfInBounds i true).getD z true = true) (ho : ops[i]? = some o)
  (h : ∀ K' : Go.Act → World → Prop,Shut (∀ a w,wpAnyZ P md ops Q z S fuel (listed.setIfInBounds i true) a w → K' a w) → if Region.wanted o (yielded ops a.tmps) = true then Oper.wp P o a w K' Q else K' (a.put o.dst undef) w) : wpAnyZ P md ops Q z S (fuel + 1) listed a w :=
 ⟨fun h0=>absurd (hr ▸ h0) (by simp),fun j hj=>by
  rw [hr] at hj
  obtain rfl : j = i:=by simpa using hj
  exact wpOp_step ho (fun K' hK=>h K' (fun a w hW=>hK a w ⟨.inl hz,hW⟩))⟩
end
def ActLike (cs : Array Value) : Prop:=∃ (a : Int) (b c : ByteArray) (d e f : Int) (A : Option Addr) (n m : Nat),cs = #[.int .u8 a,.string b,.string c,.int .u64 d,.int .i64 e,.int .i64 f,.slice A n m]
theorem act_like (a : Int) (b c : ByteArray) (d e f : Int) (A : Option Addr) (n m : Nat) : ActLike #[.int .u8 a,.string b,.string c,.int .u64 d,.int .i64 e,.int .i64 f,.slice A n m]:=⟨a,b,c,d,e,f,A,n,m,rfl⟩
section
variable {w w1 : World} {g : Nat} {cs : Array Value} {t : TypeId} {fr : Nat × Nat} {A : Option Addr} {n : Nat}
theorem actV {l : List S47} (h : Kd.C k47 w A n l) (hg : w.heap[g]? = some (.cells cs t fr)) (hw : ActLike cs) (ho : Only g w w1) : Kd.C k47 w1 A n l :=
 C_sep h hg ho (fun x c o hk hc=>by
  obtain rfl:=k47_open hk
  obtain ⟨_,_,_,_,_,_,_,_,_,rfl⟩:=hw
  have h2:=hc 2 _ rfl
  rcases o with _ | _ | _ | _ | _ | o <;> simp at h2) (fun x c hk=>by obtain rfl:=k47_open hk;exact k47_mk w1 x)
theorem actPt {l : List S40} (h : Kd.C k40 w A n l) (hg : w.heap[g]? = some (.cells cs t fr)) (hw : ActLike cs) (ho : Only g w w1) : Kd.C k40 w1 A n l :=
 C_sep h hg ho (fun x c o hk hc=>by
  obtain rfl:=k40_open hk
  obtain ⟨_,_,_,_,_,_,_,_,_,rfl⟩:=hw
  have h0:=hc 0 _ rfl
  have h1:=hc 1 _ rfl
  rcases o with _ | _ | _ | _ | _ | _ | _ | o <;> simp at h0 h1) (fun x c hk=>by obtain rfl:=k40_open hk;exact k40_mk w1 x)
theorem actE {l : List S56} (h : Kd.C k56 w A n l) (hg : w.heap[g]? = some (.cells cs t fr)) (hw : ActLike cs) (ho : Only g w w1) : Kd.C k56 w1 A n l :=
 C_sep h hg ho (fun x c o hk hc=>by
  obtain ⟨A1,c1,rfl,_,_⟩:=k56_open hk
  obtain ⟨_,_,_,_,_,_,_,_,_,rfl⟩:=hw
  have h0:=hc 0 _ rfl
  have h1:=hc 1 _ rfl
  rcases o with _ | _ | _ | _ | _ | _ | _ | o <;> simp at h0 h1) (fun x c hk=>by obtain ⟨A1,c1,rfl,h1,h2⟩:=k56_open hk;exact k56_mk w1 x h1 (actV h2 hg hw ho))
theorem actU {l : List S101} (h : Kd.C k101 w A n l) (hg : w.heap[g]? = some (.cells cs t fr)) (hw : ActLike cs) (ho : Only g w w1) : Kd.C k101 w1 A n l :=
 C_sep h hg ho (fun x c o hk hc=>by
  obtain ⟨A1,c1,rfl,_,_⟩:=k101_open hk
  obtain ⟨_,_,_,_,_,_,_,_,_,rfl⟩:=hw
  have h0:=hc 0 _ rfl
  have h1:=hc 1 _ rfl
  rcases o with _ | _ | _ | _ | _ | _ | _ | o <;> simp at h0 h1) (fun x c hk=>by obtain ⟨A1,c1,rfl,h1,h2⟩:=k101_open hk;exact k101_mk w1 x h1 (actPt h2 hg hw ho))
end
theorem isz_act : (Tryz.prog.info? 59).map (·.size) = some 7:=by kernel_rfl
theorem isz_did : (Tryz.prog.info? 62).map (·.size) = some 8:=by kernel_rfl
theorem turns.walk (b : S26) (A2 A3 : Option Addr) (c2 c3 : Nat) (x y : Act) (Ax Ay : Option Addr) (cx cy : Nat) (w : World) (h2 : Kd.C k56 w A2 b.f2.length b.f2) (g2 : b.f2.length ≤ c2) (h3 : Kd.C k101 w A3 b.f3.length b.f3) (g3 : b.f3.length ≤ c3) (hx : x.ps.length ≤ cx) (hy : y.ps.length ≤ cy) (hb4 : 0 ≤ b.f4) (wx : 0 ≤ x.kd) (wy : 0 ≤ y.kd) :
  Calls Tryz.prog 8 #[.agg #[.string b.f0,.int .i64 b.f1,.slice A2 b.f2.length c2,.slice A3 b.f3.length c3,.int .u64 b.f4],.agg #[.int .u8 x.kd,.string x.key,.string x.data,.int .u64 x.id,.int .i64 x.n,.int .i64 x.q,.slice Ax x.ps.length cx],.agg #[.int .u8 y.kd,.string y.key,.string y.data,.int .u64 y.id,.int .i64 y.n,.int .i64 y.q,.slice Ay y.ps.length cy]] w fun e w'=>e = .returned (.bool true) ∧ Below w.heap.size w w':=by
 have HFW:=zh (fun (W : World) (h : Below w.heap.size w W)=>few.walk b A2 A3 c2 c3 W (Kd.C_below h2 h) g2 (Kd.C_below h3 h) g3)
 have HCX:=zh (fun (W : World)=>cut.walk x.kd x.id x.n x.q x.key x.data Ax x.ps cx W hx)
 have HCY:=zh (fun (W : World)=>cut.walk y.kd y.id y.n y.q y.key y.data Ay y.ps cy W hy)
 have HZ:=zh (fun (W : World)=>awake.walk W)
 have H4b : Hid (0 ≤ (cutB b).f4):=hb4
 have x0 : 0 ≤ Int.tmod x.kd 9:=Int.tmod_nonneg _ wx
 have y0 : 0 ≤ Int.tmod y.kd 9:=Int.tmod_nonneg _ wy
 generalize cutB b = cb at *
 generalize cutS 80 x.key = kx at *
 generalize cutS 2001 x.data = tx at *
 generalize x.ps.take 40 = px at *
 generalize cutS 80 y.key = ky at *
 generalize cutS 2001 y.data = ty at *
 generalize y.ps.take 40 = py at *
 have HG:=zh (Below.refl w.heap.size w)
 clear h2 h3 g2 g3 hx hy hb4 wx wy
 go_enter Tryz.func8,Tryz.ntmps8
 go_wp2_with (first
  | ((with_reducible refine gate_dst (N:=3) rfl ?_);go_must (refine zx HG (N:=3) (cs:=#[.string b.f0,.int .i64 b.f1,.slice A2 b.f2.length c2,.slice A3 b.f3.length c3,.int .u64 b.f4]) (t:=26) ?hr ?_;(case hr=>first | (go_simp;done) | (go_simp;rfl));intro gb w1 Kgb Lgb HG hbelgb hqgb;clear hbelgb hqgb))
  | ((with_reducible refine gate_dst (N:=4) rfl ?_);go_must (refine zx HG (N:=4) (cs:=#[.int .u8 x.kd,.string x.key,.string x.data,.int .u64 x.id,.int .i64 x.n,.int .i64 x.q,.slice Ax x.ps.length cx]) (t:=59) ?hr ?_;(case hr=>first | (go_simp;done) | (go_simp;rfl));intro gx w2 Kgx Lgx HG hbelgx hqgx;have Nbx:=zh (show gb ≠ gx by rw [hqgx];have:=blk_lt Kgb.out;omega);have Kgb:=zk Kgb hbelgx;clear hbelgx hqgx))
  | ((with_reducible refine gate_dst (N:=5) rfl ?_);go_must (refine zx HG (N:=5) (cs:=#[.int .u8 y.kd,.string y.key,.string y.data,.int .u64 y.id,.int .i64 y.n,.int .i64 y.q,.slice Ay y.ps.length cy]) (t:=59) ?hr ?_;(case hr=>first | (go_simp;done) | (go_simp;rfl));intro gy w3 Kgy Lgy HG hbelgy hqgy;have Nby:=zh (show gb ≠ gy by rw [hqgy];have:=blk_lt Kgb.out;omega);have Nxy:=zh (show gx ≠ gy by rw [hqgy];have:=blk_lt Kgx.out;omega);have Kgb:=zk Kgb hbelgy;have Kgx:=zk Kgx hbelgy;clear hbelgy hqgy)))
 generalize hwr : w3.drew = wr
 have hdr : Below w3.heap.size w3 wr:=by rw [← hwr];exact below_drew (Below.refl _ _)
 have HG:=keepB HG hdr
 have Kgb:=zk Kgb hdr
 have Kgx:=zk Kgx hdr
 have Kgy:=zk Kgy hdr
 refine wp_region_Z 6 (S:=fun W=>Below wr.heap.size wr W) (by kernel_rfl) (by rw [hwr];exact Below.refl _ _) (fun hHeld=>?_)
 rw [hwr] at hHeld ⊢
 clear hwr hdr
 refine tkz [1] (i:=0) (v:=?v0R1) rfl hHeld (Or.inl ⟨rfl,?y0R1⟩) ?r0R1
 case y0R1=>(intro w h;obtain ⟨a0,a1,a2,a3,a4⟩:=cl5 (blk_below Kgb.out h);go_simp;try with_reducible rfl)
 try simp only [zA,zB,zC,Act.put,zD,zE,zF]
 refine tkz [3,5] (i:=2) (v:=?v2R1) rfl hHeld (Or.inl ⟨rfl,?y2R1⟩) ?r2R1
 case y2R1=>(intro w h;obtain ⟨b0,b1,b2,b3,b4,b5,b6⟩:=cl7 (blk_below Kgx.out h);go_simp;try with_reducible rfl)
 try simp only [zA,zB,zC,Act.put,zD,zE,zF]
 refine tkz [5] (i:=4) (v:=?v4R1) rfl hHeld (Or.inl ⟨rfl,?y4R1⟩) ?r4R1
 case y4R1=>(intro w h;obtain ⟨d0,d1,d2,d3,d4,d5,d6⟩:=cl7 (blk_below Kgy.out h);go_simp;try with_reducible rfl)
 try simp only [zA,zB,zC,Act.put,zD,zE,zF]
 refine wpAnyZ_ready (rs:=[1]) (by kernel_rfl) (by simp) ?_
 refine AllReadyZ.cons (o:=_) rfl (fun K hK=>?_) AllReadyZ.nil
 rw [if_pos (by rfl)]
 go_simp
 refine (HFW.out _ (HG.out.trans (Below.mono hHeld HG.out.size))).mono ?_
 rintro e8 w8 ⟨AB,cB,DB,dB,rfl,XB,YB,y2,y3,hb⟩
 have EB:=zh y2
 have UB:=zh y3
 clear y2 y3
 refine hK.out _ _ (Below.trans hHeld (hb.mono (Below.size hHeld))) (fun hHeld=>?_)
 clear hK K hb
 try simp only [zA,zB,zC,Act.put,zD,zE,zF]
 refine wpAnyZ_ready (rs:=[3]) (by kernel_rfl) (by simp) ?_
 refine AllReadyZ.cons (o:=_) rfl (fun K hK=>?_) AllReadyZ.nil
 rw [if_pos (by rfl)]
 go_simp
 refine (HCX.out _).mono ?_
 rintro e8 w8 ⟨rfl,hb⟩
 have EB:=zc EB hb
 have UB:=zc UB hb
 refine hK.out _ _ (Below.trans hHeld (hb.mono (Below.size hHeld))) (fun hHeld=>?_)
 clear hK K hb
 try simp only [zA,zB,zC,Act.put,zD,zE,zF]
 refine wpAnyZ_ready (rs:=[5]) (by kernel_rfl) (by simp) ?_
 refine AllReadyZ.cons (o:=_) rfl (fun K hK=>?_) AllReadyZ.nil
 rw [if_pos (by rfl)]
 go_simp
 refine (HCY.out _).mono ?_
 rintro e8 w8 ⟨rfl,hb⟩
 have EB:=zc EB hb
 have UB:=zc UB hb
 refine hK.out _ _ (Below.trans hHeld (hb.mono (Below.size hHeld))) (fun hHeld=>?_)
 clear hK K hb
 try simp only [zA,zB,zC,Act.put,zD,zE,zF]
 have s0 : Below wr.heap.size wr _:=hHeld
 have HG:=keepB HG s0
 have Kgb:=zk Kgb s0
 have Kgx:=zk Kgx s0
 have Kgy:=zk Kgy s0
 clear s0
 refine wpAnyZ_last (o:=_) (by kernel_rfl) (by kernel_rfl) rfl (fun K hK=>?_)
 rw [if_pos (by rfl)]
 refine wp_store_row rfl 26 (.tmp 3) (.tmp 16) rfl gb 0 _ 26 (.agg #[.string cb.f0,.int .i64 cb.f1,.slice AB cb.f2.length cB,.slice DB cb.f3.length dB,.int .u64 cb.f4]) [.string cb.f0,.int .i64 cb.f1,.slice AB cb.f2.length cB,.slice DB cb.f3.length dB,.int .u64 cb.f4] rfl rfl Kgb.out rfl isz_bucket (by show 0 + 5 ≤ 5;decide) (by simp [Value.oneCell']) ?_
 intro wa hk ho
 have EB:=zh (keepE EB.out Kgb.out (bk_like _ _ _ _ _ _ _ _ _) ho.out)
 have UB:=zh (keepU UB.out Kgb.out (bk_like _ _ _ _ _ _ _ _ _) ho.out)
 have Kgx:=zl ho Kgx (Ne.symm Nbx.out)
 have Kgy:=zl ho Kgy (Ne.symm Nby.out)
 have Kgb : Hid (wa.heap[gb]? = some (.cells #[.string cb.f0,.int .i64 cb.f1,.slice AB cb.f2.length cB,.slice DB cb.f3.length dB,.int .u64 cb.f4] 26 (0,0))):=hk
 have HG:=zo ho HG Lgb
 refine hK.out _ _ ?_
 clear hK K hk ho
 try simp only [zA,zB,zC,Act.put,zD,zE,zF]
 refine wpAnyZ_after (i:=7) (o:=_) (by kernel_rfl) (by kernel_rfl) rfl (fun K hK=>?_)
 rw [if_pos (by rfl)]
 refine wp_store_row rfl 59 (.tmp 4) (.tmp 18) rfl gx 0 _ 59 (.agg #[.int .u8 x.kd,.string kx,.string tx,.int .u64 x.id,.int .i64 x.n,.int .i64 x.q,.slice Ax px.length cx]) [.int .u8 x.kd,.string kx,.string tx,.int .u64 x.id,.int .i64 x.n,.int .i64 x.q,.slice Ax px.length cx] rfl rfl Kgx.out rfl isz_act (by show 0 + 7 ≤ 7;decide) (by simp [Value.oneCell']) ?_
 intro wb hk ho
 have EB:=zh (actE EB.out Kgx.out (act_like _ _ _ _ _ _ _ _ _) ho.out)
 have UB:=zh (actU UB.out Kgx.out (act_like _ _ _ _ _ _ _ _ _) ho.out)
 have Kgb:=zl ho Kgb Nbx.out
 have Kgy:=zl ho Kgy (Ne.symm Nxy.out)
 have Kgx : Hid (wb.heap[gx]? = some (.cells #[.int .u8 x.kd,.string kx,.string tx,.int .u64 x.id,.int .i64 x.n,.int .i64 x.q,.slice Ax px.length cx] 59 (0,0))):=hk
 have HG:=zo ho HG Lgx
 refine hK.out _ _ ?_
 clear hK K hk ho
 try simp only [zA,zB,zC,Act.put,zD,zE,zF]
 refine wpAnyZ_after (i:=8) (o:=_) (by kernel_rfl) (by kernel_rfl) rfl (fun K hK=>?_)
 rw [if_pos (by rfl)]
 refine wp_store_row rfl 59 (.tmp 5) (.tmp 20) rfl gy 0 _ 59 (.agg #[.int .u8 y.kd,.string ky,.string ty,.int .u64 y.id,.int .i64 y.n,.int .i64 y.q,.slice Ay py.length cy]) [.int .u8 y.kd,.string ky,.string ty,.int .u64 y.id,.int .i64 y.n,.int .i64 y.q,.slice Ay py.length cy] rfl rfl Kgy.out rfl isz_act (by show 0 + 7 ≤ 7;decide) (by simp [Value.oneCell']) ?_
 intro wc hk ho
 have EB:=zh (actE EB.out Kgy.out (act_like _ _ _ _ _ _ _ _ _) ho.out)
 have UB:=zh (actU UB.out Kgy.out (act_like _ _ _ _ _ _ _ _ _) ho.out)
 have Kgb:=zl ho Kgb Nby.out
 have Kgx:=zl ho Kgx Nxy.out
 have Kgy : Hid (wc.heap[gy]? = some (.cells #[.int .u8 y.kd,.string ky,.string ty,.int .u64 y.id,.int .i64 y.n,.int .i64 y.q,.slice Ay py.length cy] 59 (0,0))):=hk
 have HG:=zo ho HG Lgy
 refine hK.out _ _ ?_
 clear hK K hk ho
 try simp only [zA,zB,zC,Act.put,zD,zE,zF]
 refine wpAnyZ_done (by kernel_rfl) ?_ _
 have u0:=zb Kgx.out 0 (.int .u8 x.kd)
 have u1:=zb Kgx.out 1 (.string kx)
 have u2:=zb Kgy.out 0 (.int .u8 y.kd)
 have u3:=zb Kgy.out 1 (.string ky)
 by_cases hne : kx = ky
 ·have e0 : (kx.toList == ky.toList) = true:=by rw [hne];simp
  go_wp2_with (go_at_call 14;go_must (refine (HZ.out _).mono ?_;rintro e w20 ⟨rfl,hb⟩;have HG:=keepB HG hb;clear hb))
  go_ret
  exact ⟨rfl,HG.out⟩
 have e0 : (kx.toList == ky.toList) = false:=beq_eq_false_iff_ne.2 (fun e=>hne (bytes_eq e))
 by_cases k1 : 4 < Int.tmod x.kd 9
 ·skip
  have yx0 : decide ((4 : Int) < Int.tmod x.kd 9) = true:=decide_eq_true (by omega)
  have yx1 : decide (Int.tmod x.kd 9 > 4) = true:=decide_eq_true (by omega)
  have yx2 : (4 : Int) < Int.tmod x.kd 9:=by omega
  go_wp2_with (go_at_call 14;go_must (refine (HZ.out _).mono ?_;rintro e w20 ⟨rfl,hb⟩;have HG:=keepB HG hb;clear hb))
  go_ret
  exact ⟨rfl,HG.out⟩
 have yx0 : decide ((4 : Int) < Int.tmod x.kd 9) = false:=decide_eq_false (by omega)
 have yx1 : decide (Int.tmod x.kd 9 > 4) = false:=decide_eq_false (by omega)
 have yx2 : ¬ (4 : Int) < Int.tmod x.kd 9:=by omega
 by_cases k2 : 4 < Int.tmod y.kd 9
 ·skip
  have yy0 : decide ((4 : Int) < Int.tmod y.kd 9) = true:=decide_eq_true (by omega)
  have yy1 : decide (Int.tmod y.kd 9 > 4) = true:=decide_eq_true (by omega)
  have yy2 : (4 : Int) < Int.tmod y.kd 9:=by omega
  go_wp2_with (go_at_call 14;go_must (refine (HZ.out _).mono ?_;rintro e w20 ⟨rfl,hb⟩;have HG:=keepB HG hb;clear hb))
  go_ret
  exact ⟨rfl,HG.out⟩
 have yy0 : decide ((4 : Int) < Int.tmod y.kd 9) = false:=decide_eq_false (by omega)
 have yy1 : decide (Int.tmod y.kd 9 > 4) = false:=decide_eq_false (by omega)
 have yy2 : ¬ (4 : Int) < Int.tmod y.kd 9:=by omega
 by_cases k3 : Int.tmod x.kd 9 = 4
 ·skip
  have yx3 : (Int.tmod x.kd 9 == 4) = true:=beq_iff_eq.2 (by omega)
  go_wp2_with (go_at_call 14;go_must (refine (HZ.out _).mono ?_;rintro e w20 ⟨rfl,hb⟩;have HG:=keepB HG hb;clear hb))
  go_ret
  exact ⟨rfl,HG.out⟩
 have yx3 : (Int.tmod x.kd 9 == 4) = false:=beq_eq_false_iff_ne.2 (by omega)
 by_cases k4 : Int.tmod y.kd 9 = 4
 ·skip
  have yy3 : (Int.tmod y.kd 9 == 4) = true:=beq_iff_eq.2 (by omega)
  go_wp2_with (go_at_call 14;go_must (refine (HZ.out _).mono ?_;rintro e w20 ⟨rfl,hb⟩;have HG:=keepB HG hb;clear hb))
  go_ret
  exact ⟨rfl,HG.out⟩
 have yy3 : (Int.tmod y.kd 9 == 4) = false:=beq_eq_false_iff_ne.2 (by omega)
 have x4 : Int.tmod x.kd 9 < 4:=by omega
 have y4 : Int.tmod y.kd 9 < 4:=by omega
 clear k1 k2 k3 k4
 have hT0:=fun e1 e2 e3 e4=>turns_plain (b:=cb) (x:=(⟨x.kd,kx,tx,x.id,x.n,x.q,px⟩ : Act)) (y:=(⟨y.kd,ky,ty,y.id,y.n,y.q,py⟩ : Act)) H4b.out hne x0 x4 y0 y4 e1 e2 e3 e4
 have HD1:=zh (fun (W : World) (h : Below wc.heap.size wc W)=>do4.walk cb AB DB cB dB (⟨x.kd,kx,tx,x.id,x.n,x.q,px⟩ : Act) Ax cx W (Kd.C_below EB.out h) XB (Kd.C_below UB.out h) YB x0 x4)
 have HD2:=zh (fun (W : World) (h : Below wc.heap.size wc W)=>do4.walk cb AB DB cB dB (⟨y.kd,ky,ty,y.id,y.n,y.q,py⟩ : Act) Ay cy W (Kd.C_below EB.out h) XB (Kd.C_below UB.out h) YB y0 y4)
 generalize doR cb (⟨x.kd,kx,tx,x.id,x.n,x.q,px⟩ : Act) = r1 at *
 generalize doR cb (⟨y.kd,ky,ty,y.id,y.n,y.q,py⟩ : Act) = r2 at *
 have HD3:=zh (fun (A D : Option Addr) (c d : Nat) (W : World) h2 g2 h3 g3=>do4.walk r1.b A D c d (⟨y.kd,ky,ty,y.id,y.n,y.q,py⟩ : Act) Ay cy W h2 g2 h3 g3 y0 y4)
 have HD4:=zh (fun (A D : Option Addr) (c d : Nat) (W : World) h2 g2 h3 g3=>do4.walk r2.b A D c d (⟨x.kd,kx,tx,x.id,x.n,x.q,px⟩ : Act) Ax cx W h2 g2 h3 g3 x0 x4)
 generalize doR r1.b (⟨y.kd,ky,ty,y.id,y.n,y.q,py⟩ : Act) = r3 at *
 generalize doR r2.b (⟨x.kd,kx,tx,x.id,x.n,x.q,px⟩ : Act) = r4 at *
 have HG3:=zh (fun (A D : Option Addr) (c d : Nat) (W : World) h2 g2 h3 g3=>getB.walk r3.b A D c d kx W h2 g2 h3 g3)
 have HG4:=zh (fun (A D : Option Addr) (c d : Nat) (W : World) h2 g2 h3 g3=>getB.walk r4.b A D c d kx W h2 g2 h3 g3)
 change r1.er = 0 → r2.er = 0 → r3.er = 0 → r4.er = 0 → (getB r3.b kx).2 = (getB r4.b kx).2 ∧ (getB r3.b kx).1.f1 = (getB r4.b kx).1.f1 ∧ (getB r3.b kx).1.f2 = (getB r4.b kx).1.f2 ∧ (getB r3.b kx).1.f3 = (getB r4.b kx).1.f3 ∧ (cb.f1 ≠ 1 → r3.b.f4 = r4.b.f4) ∧ r3.b.f2.length = r4.b.f2.length at hT0
 generalize getB r3.b kx = gv3 at *
 generalize getB r4.b kx = gv4 at *
 have hT:=zh hT0
 clear hT0 x0 x4 y0 y4 hne
 go_wp2
 clear u0 u1 u2 u3
 generalize hwr : wc.drew = wr
 have hdr : Below wc.heap.size wc wr:=by rw [← hwr];exact below_drew (Below.refl _ _)
 have HG:=keepB HG hdr
 have Kgb:=zk Kgb hdr
 have Kgx:=zk Kgx hdr
 have Kgy:=zk Kgy hdr
 have hw0:=hdr
 refine wp_region_cont (S:=fun W=>Below wr.heap.size wr W) (by kernel_rfl) (by rw [hwr];exact Below.refl _ _) (fun hHeld QQ hQQ hPQ OPS hOP aa haa=>?_)
 rw [hwr] at hHeld ⊢
 clear hwr hdr
 have CONT : ∀ (A1 D1 A2 D2 : Option Addr) (c1 d1 c2 d2 g1 g2 : Nat) (w1 : World),Below wr.heap.size wr w1 → Hid (w1.heap[g1]? = some (.cells #[.string ⟨#[]⟩,.int .i64 0,.slice none 0 0,.slice none 0 0,.int .u64 0,.int .u64 0,.string ⟨#[]⟩,.int .i64 0] 62 (0,0))) → Hid (w1.heap[g2]? = some (.cells #[.string ⟨#[]⟩,.int .i64 0,.slice none 0 0,.slice none 0 0,.int .u64 0,.int .u64 0,.string ⟨#[]⟩,.int .i64 0] 62 (0,0))) → Hid (g1 ≠ g2) → Hid (wr.heap.size ≤ g1) → Hid (wr.heap.size ≤ g2) → r1.b.f2.length ≤ c1 → r1.b.f3.length ≤ d1 → Hid (Kd.C k56 w1 A1 r1.b.f2.length r1.b.f2) → Hid (Kd.C k101 w1 D1 r1.b.f3.length r1.b.f3) → r2.b.f2.length ≤ c2 → r2.b.f3.length ≤ d2 → Hid (Kd.C k56 w1 A2 r2.b.f2.length r2.b.f2) → Hid (Kd.C k101 w1 D2 r2.b.f3.length r2.b.f3) → wpAnyH Tryz.prog .any OPS QQ (fun W=>Below wr.heap.size wr W) 2 #[true,true,true,true,true,true,true,true,false,false] (((((((((aa.put (some 51) (.agg #[.string cb.f0,.int .i64 cb.f1,.slice AB cb.f2.length cB,.slice DB cb.f3.length dB,.int .u64 cb.f4])).put (some 52) (.agg #[.int .u8 x.kd,.string kx,.string tx,.int .u64 x.id,.int .i64 x.n,.int .i64 x.q,.slice Ax px.length cx])).put (some 54) (.agg #[.string cb.f0,.int .i64 cb.f1,.slice AB cb.f2.length cB,.slice DB cb.f3.length dB,.int .u64 cb.f4])).put (some 55) (.agg #[.int .u8 y.kd,.string ky,.string ty,.int .u64 y.id,.int .i64 y.n,.int .i64 y.q,.slice Ay py.length cy])).put (some 53) (.agg #[.string r1.b.f0,.int .i64 r1.b.f1,.slice A1 r1.b.f2.length c1,.slice D1 r1.b.f3.length d1,.int .u64 r1.b.f4,.int .u64 r1.id,.string r1.tg,.int .i64 r1.er])).put (some 56) (.agg #[.string r2.b.f0,.int .i64 r2.b.f1,.slice A2 r2.b.f2.length c2,.slice D2 r2.b.f3.length d2,.int .u64 r2.b.f4,.int .u64 r2.id,.string r2.tg,.int .i64 r2.er])).put (some 7) (.pointer (some ⟨g1,0,none⟩))).put (some 8) (.pointer (some ⟨g2,0,none⟩)))) w1:=by
  intro A1 D1 A2 D2 c1 d1 c2 d2 g1 g2 w1 hHeld Kg1 Kg2 N12 Lg1 Lg2 X1 Y1 E1 U1 X2 Y2 E2 U2
  rw [hOP.out,haa.out,hQQ.out]
  clear hOP haa hQQ hPQ
  try simp only [zA,zB,zC,Act.put,zD,zE,zF]
  refine wpAnyH_ready (rs:=[8]) (by kernel_rfl) (by simp) ?_
  refine AllReadyH.cons (o:=_) rfl (fun K hK=>?_) AllReadyH.nil
  rw [if_pos (by rfl)]
  refine wp_store_row rfl 62 (.tmp 7) (.tmp 53) rfl g1 0 _ 62 (.agg #[.string r1.b.f0,.int .i64 r1.b.f1,.slice A1 r1.b.f2.length c1,.slice D1 r1.b.f3.length d1,.int .u64 r1.b.f4,.int .u64 r1.id,.string r1.tg,.int .i64 r1.er]) [.string r1.b.f0,.int .i64 r1.b.f1,.slice A1 r1.b.f2.length c1,.slice D1 r1.b.f3.length d1,.int .u64 r1.b.f4,.int .u64 r1.id,.string r1.tg,.int .i64 r1.er] rfl rfl Kg1.out rfl isz_did (by show 0 + 8 ≤ 8;decide) (by simp [Value.oneCell']) ?_
  intro wx0 hk ho
  have E1:=zh (didE E1.out Kg1.out (did_like _ _ _ _ _ _ _ _ _ _ _ _) ho.out)
  have U1:=zh (didU U1.out Kg1.out (did_like _ _ _ _ _ _ _ _ _ _ _ _) ho.out)
  have E2:=zh (didE E2.out Kg1.out (did_like _ _ _ _ _ _ _ _ _ _ _ _) ho.out)
  have U2:=zh (didU U2.out Kg1.out (did_like _ _ _ _ _ _ _ _ _ _ _ _) ho.out)
  have Kg2:=zl ho Kg2 (Ne.symm N12.out)
  have Kg1 : Hid (wx0.heap[g1]? = some (.cells #[.string r1.b.f0,.int .i64 r1.b.f1,.slice A1 r1.b.f2.length c1,.slice D1 r1.b.f3.length d1,.int .u64 r1.b.f4,.int .u64 r1.id,.string r1.tg,.int .i64 r1.er] 62 (0,0))):=hk
  refine hK.out _ _ (ho.out.below hHeld (Below.size hHeld) Lg1.out) (fun hHeld=>?_)
  clear hK K hk ho
  try simp only [zA,zB,zC,Act.put,zD,zE,zF]
  refine wpAnyH_ready (rs:=[9]) (by kernel_rfl) (by simp) ?_
  refine AllReadyH.cons (o:=_) rfl (fun K hK=>?_) AllReadyH.nil
  rw [if_pos (by rfl)]
  refine wp_store_row rfl 62 (.tmp 8) (.tmp 56) rfl g2 0 _ 62 (.agg #[.string r2.b.f0,.int .i64 r2.b.f1,.slice A2 r2.b.f2.length c2,.slice D2 r2.b.f3.length d2,.int .u64 r2.b.f4,.int .u64 r2.id,.string r2.tg,.int .i64 r2.er]) [.string r2.b.f0,.int .i64 r2.b.f1,.slice A2 r2.b.f2.length c2,.slice D2 r2.b.f3.length d2,.int .u64 r2.b.f4,.int .u64 r2.id,.string r2.tg,.int .i64 r2.er] rfl rfl Kg2.out rfl isz_did (by show 0 + 8 ≤ 8;decide) (by simp [Value.oneCell']) ?_
  intro wx1 hk ho
  have E1:=zh (didE E1.out Kg2.out (did_like _ _ _ _ _ _ _ _ _ _ _ _) ho.out)
  have U1:=zh (didU U1.out Kg2.out (did_like _ _ _ _ _ _ _ _ _ _ _ _) ho.out)
  have E2:=zh (didE E2.out Kg2.out (did_like _ _ _ _ _ _ _ _ _ _ _ _) ho.out)
  have U2:=zh (didU U2.out Kg2.out (did_like _ _ _ _ _ _ _ _ _ _ _ _) ho.out)
  have Kg1:=zl ho Kg1 (N12.out)
  have Kg2 : Hid (wx1.heap[g2]? = some (.cells #[.string r2.b.f0,.int .i64 r2.b.f1,.slice A2 r2.b.f2.length c2,.slice D2 r2.b.f3.length d2,.int .u64 r2.b.f4,.int .u64 r2.id,.string r2.tg,.int .i64 r2.er] 62 (0,0))):=hk
  refine hK.out _ _ (ho.out.below hHeld (Below.size hHeld) Lg2.out) (fun hHeld=>?_)
  clear hK K hk ho
  try simp only [zA,zB,zC,Act.put,zD,zE,zF]
  refine wpAnyH_done (by kernel_rfl) ?_ _
  have s0 : Below wr.heap.size wr wx1:=hHeld
  have HG:=keepB HG s0
  have Kgb:=zk Kgb s0
  have Kgx:=zk Kgx s0
  have Kgy:=zk Kgy s0
  clear s0 hHeld
  clear N12
  go_wp2
  generalize hwr : wx1.drew = wr
  have hdr : Below wx1.heap.size wx1 wr:=by rw [← hwr];exact below_drew (Below.refl _ _)
  have HG:=keepB HG hdr
  have Kgb:=zk Kgb hdr
  have Kgx:=zk Kgx hdr
  have Kgy:=zk Kgy hdr
  have Kg1:=zk Kg1 hdr
  have Kg2:=zk Kg2 hdr
  have E1:=zc E1 hdr
  have U1:=zc U1 hdr
  have E2:=zc E2 hdr
  have U2:=zc U2 hdr
  refine wp_region_cont (S:=fun W=>Below wr.heap.size wr W) (by kernel_rfl) (by rw [hwr];exact Below.refl _ _) (fun hHeld QQ hQQ hPQ OPS hOP aa haa=>?_)
  rw [hwr] at hHeld ⊢
  clear hwr hdr
  have CONT : ∀ (A3 D3 A4 D4 : Option Addr) (c3 d3 c4 d4 g3 g4 : Nat) (w1 : World),Below wr.heap.size wr w1 → Hid (w1.heap[g3]? = some (.cells #[.string ⟨#[]⟩,.int .i64 0,.slice none 0 0,.slice none 0 0,.int .u64 0,.int .u64 0,.string ⟨#[]⟩,.int .i64 0] 62 (0,0))) → Hid (w1.heap[g4]? = some (.cells #[.string ⟨#[]⟩,.int .i64 0,.slice none 0 0,.slice none 0 0,.int .u64 0,.int .u64 0,.string ⟨#[]⟩,.int .i64 0] 62 (0,0))) → Hid (g3 ≠ g4) → Hid (wr.heap.size ≤ g3) → Hid (wr.heap.size ≤ g4) → r3.b.f2.length ≤ c3 → r3.b.f3.length ≤ d3 → Hid (Kd.C k56 w1 A3 r3.b.f2.length r3.b.f2) → Hid (Kd.C k101 w1 D3 r3.b.f3.length r3.b.f3) → r4.b.f2.length ≤ c4 → r4.b.f3.length ≤ d4 → Hid (Kd.C k56 w1 A4 r4.b.f2.length r4.b.f2) → Hid (Kd.C k101 w1 D4 r4.b.f3.length r4.b.f3) → wpAnyH Tryz.prog .any OPS QQ (fun W=>Below wr.heap.size wr W) 2 #[true,true,true,true,true,true,true,true,true,true,false,false] (((((((((((aa.put (some 57) (.pointer (some ⟨g1,0,none⟩))).put (some 58) (.agg #[.string r1.b.f0,.int .i64 r1.b.f1,.slice A1 r1.b.f2.length c1,.slice D1 r1.b.f3.length d1,.int .u64 r1.b.f4])).put (some 59) (.agg #[.int .u8 y.kd,.string ky,.string ty,.int .u64 y.id,.int .i64 y.n,.int .i64 y.q,.slice Ay py.length cy])).put (some 61) (.pointer (some ⟨g2,0,none⟩))).put (some 62) (.agg #[.string r2.b.f0,.int .i64 r2.b.f1,.slice A2 r2.b.f2.length c2,.slice D2 r2.b.f3.length d2,.int .u64 r2.b.f4])).put (some 63) (.agg #[.int .u8 x.kd,.string kx,.string tx,.int .u64 x.id,.int .i64 x.n,.int .i64 x.q,.slice Ax px.length cx])).put (some 60) (.agg #[.string r3.b.f0,.int .i64 r3.b.f1,.slice A3 r3.b.f2.length c3,.slice D3 r3.b.f3.length d3,.int .u64 r3.b.f4,.int .u64 r3.id,.string r3.tg,.int .i64 r3.er])).put (some 64) (.agg #[.string r4.b.f0,.int .i64 r4.b.f1,.slice A4 r4.b.f2.length c4,.slice D4 r4.b.f3.length d4,.int .u64 r4.b.f4,.int .u64 r4.id,.string r4.tg,.int .i64 r4.er])).put (some 9) (.pointer (some ⟨g3,0,none⟩))).put (some 10) (.pointer (some ⟨g4,0,none⟩)))) w1:=by
   intro A3 D3 A4 D4 c3 d3 c4 d4 g3 g4 w1 hHeld Kg3 Kg4 N12 Lg3 Lg4 X3 Y3 E3 U3 X4 Y4 E4 U4
   rw [hOP.out,haa.out,hQQ.out]
   clear hOP haa hQQ hPQ
   try simp only [zA,zB,zC,Act.put,zD,zE,zF]
   refine wpAnyH_ready (rs:=[10]) (by kernel_rfl) (by simp) ?_
   refine AllReadyH.cons (o:=_) rfl (fun K hK=>?_) AllReadyH.nil
   rw [if_pos (by rfl)]
   refine wp_store_row rfl 62 (.tmp 9) (.tmp 60) rfl g3 0 _ 62 (.agg #[.string r3.b.f0,.int .i64 r3.b.f1,.slice A3 r3.b.f2.length c3,.slice D3 r3.b.f3.length d3,.int .u64 r3.b.f4,.int .u64 r3.id,.string r3.tg,.int .i64 r3.er]) [.string r3.b.f0,.int .i64 r3.b.f1,.slice A3 r3.b.f2.length c3,.slice D3 r3.b.f3.length d3,.int .u64 r3.b.f4,.int .u64 r3.id,.string r3.tg,.int .i64 r3.er] rfl rfl Kg3.out rfl isz_did (by show 0 + 8 ≤ 8;decide) (by simp [Value.oneCell']) ?_
   intro wx0 hk ho
   have E3:=zh (didE E3.out Kg3.out (did_like _ _ _ _ _ _ _ _ _ _ _ _) ho.out)
   have U3:=zh (didU U3.out Kg3.out (did_like _ _ _ _ _ _ _ _ _ _ _ _) ho.out)
   have E4:=zh (didE E4.out Kg3.out (did_like _ _ _ _ _ _ _ _ _ _ _ _) ho.out)
   have U4:=zh (didU U4.out Kg3.out (did_like _ _ _ _ _ _ _ _ _ _ _ _) ho.out)
   have Kg4:=zl ho Kg4 (Ne.symm N12.out)
   have Kg3 : Hid (wx0.heap[g3]? = some (.cells #[.string r3.b.f0,.int .i64 r3.b.f1,.slice A3 r3.b.f2.length c3,.slice D3 r3.b.f3.length d3,.int .u64 r3.b.f4,.int .u64 r3.id,.string r3.tg,.int .i64 r3.er] 62 (0,0))):=hk
   refine hK.out _ _ (ho.out.below hHeld (Below.size hHeld) Lg3.out) (fun hHeld=>?_)
   clear hK K hk ho
   try simp only [zA,zB,zC,Act.put,zD,zE,zF]
   refine wpAnyH_ready (rs:=[11]) (by kernel_rfl) (by simp) ?_
   refine AllReadyH.cons (o:=_) rfl (fun K hK=>?_) AllReadyH.nil
   rw [if_pos (by rfl)]
   refine wp_store_row rfl 62 (.tmp 10) (.tmp 64) rfl g4 0 _ 62 (.agg #[.string r4.b.f0,.int .i64 r4.b.f1,.slice A4 r4.b.f2.length c4,.slice D4 r4.b.f3.length d4,.int .u64 r4.b.f4,.int .u64 r4.id,.string r4.tg,.int .i64 r4.er]) [.string r4.b.f0,.int .i64 r4.b.f1,.slice A4 r4.b.f2.length c4,.slice D4 r4.b.f3.length d4,.int .u64 r4.b.f4,.int .u64 r4.id,.string r4.tg,.int .i64 r4.er] rfl rfl Kg4.out rfl isz_did (by show 0 + 8 ≤ 8;decide) (by simp [Value.oneCell']) ?_
   intro wx1 hk ho
   have E3:=zh (didE E3.out Kg4.out (did_like _ _ _ _ _ _ _ _ _ _ _ _) ho.out)
   have U3:=zh (didU U3.out Kg4.out (did_like _ _ _ _ _ _ _ _ _ _ _ _) ho.out)
   have E4:=zh (didE E4.out Kg4.out (did_like _ _ _ _ _ _ _ _ _ _ _ _) ho.out)
   have U4:=zh (didU U4.out Kg4.out (did_like _ _ _ _ _ _ _ _ _ _ _ _) ho.out)
   have Kg3:=zl ho Kg3 (N12.out)
   have Kg4 : Hid (wx1.heap[g4]? = some (.cells #[.string r4.b.f0,.int .i64 r4.b.f1,.slice A4 r4.b.f2.length c4,.slice D4 r4.b.f3.length d4,.int .u64 r4.b.f4,.int .u64 r4.id,.string r4.tg,.int .i64 r4.er] 62 (0,0))):=hk
   refine hK.out _ _ (ho.out.below hHeld (Below.size hHeld) Lg4.out) (fun hHeld=>?_)
   clear hK K hk ho
   try simp only [zA,zB,zC,Act.put,zD,zE,zF]
   refine wpAnyH_done (by kernel_rfl) ?_ _
   have s0 : Below wr.heap.size wr wx1:=hHeld
   have HG:=keepB HG s0
   have Kgb:=zk Kgb s0
   have Kgx:=zk Kgx s0
   have Kgy:=zk Kgy s0
   have Kg1:=zk Kg1 s0
   have Kg2:=zk Kg2 s0
   clear s0 hHeld
   clear Kgy N12
   obtain ⟨f0,f1,f2,f3,f4,f5,f6,f7⟩:=cl8 Kg1.out
   obtain ⟨u0,u1,u2,u3,u4,u5,u6,u7⟩:=cl8 Kg2.out
   obtain ⟨p0,p1,p2,p3,p4,p5,p6,p7⟩:=cl8 Kg3.out
   obtain ⟨m0,m1,m2,m3,m4,m5,m6,m7⟩:=cl8 Kg4.out
   obtain ⟨b0,b1,b2,b3,b4,b5,b6⟩:=cl7 Kgx.out
   by_cases h1 : r1.er = 0
   rotate_left
   ·skip
    have z1 : (r1.er != 0) = true:=by unfold bne;rw [show (r1.er == 0) = false from beq_eq_false_iff_ne.2 h1];rfl
    have zz1 : (r1.er == 0) = false:=by exact beq_eq_false_iff_ne.2 h1
    go_wp2_with (go_at_call 14;go_must (refine (HZ.out _).mono ?_;rintro e w20 ⟨rfl,hb⟩;have HG:=keepB HG hb;clear hb))
    go_ret
    exact ⟨rfl,HG.out⟩
   by_cases h2 : r2.er = 0
   rotate_left
   ·skip
    have z1 : (r1.er != 0) = false:=by rw [h1];rfl
    have zz1 : (r1.er == 0) = true:=by rw [h1];rfl
    have z2 : (r2.er != 0) = true:=by unfold bne;rw [show (r2.er == 0) = false from beq_eq_false_iff_ne.2 h2];rfl
    have zz2 : (r2.er == 0) = false:=by exact beq_eq_false_iff_ne.2 h2
    go_wp2_with (go_at_call 14;go_must (refine (HZ.out _).mono ?_;rintro e w20 ⟨rfl,hb⟩;have HG:=keepB HG hb;clear hb))
    go_ret
    exact ⟨rfl,HG.out⟩
   by_cases h3 : r3.er = 0
   rotate_left
   ·skip
    have z1 : (r1.er != 0) = false:=by rw [h1];rfl
    have zz1 : (r1.er == 0) = true:=by rw [h1];rfl
    have z2 : (r2.er != 0) = false:=by rw [h2];rfl
    have zz2 : (r2.er == 0) = true:=by rw [h2];rfl
    have z3 : (r3.er != 0) = true:=by unfold bne;rw [show (r3.er == 0) = false from beq_eq_false_iff_ne.2 h3];rfl
    have zz3 : (r3.er == 0) = false:=by exact beq_eq_false_iff_ne.2 h3
    go_wp2_with (go_at_call 14;go_must (refine (HZ.out _).mono ?_;rintro e w20 ⟨rfl,hb⟩;have HG:=keepB HG hb;clear hb))
    go_ret
    exact ⟨rfl,HG.out⟩
   by_cases h4 : r4.er = 0
   rotate_left
   ·skip
    have z1 : (r1.er != 0) = false:=by rw [h1];rfl
    have zz1 : (r1.er == 0) = true:=by rw [h1];rfl
    have z2 : (r2.er != 0) = false:=by rw [h2];rfl
    have zz2 : (r2.er == 0) = true:=by rw [h2];rfl
    have z3 : (r3.er != 0) = false:=by rw [h3];rfl
    have zz3 : (r3.er == 0) = true:=by rw [h3];rfl
    have z4 : (r4.er != 0) = true:=by unfold bne;rw [show (r4.er == 0) = false from beq_eq_false_iff_ne.2 h4];rfl
    have zz4 : (r4.er == 0) = false:=by exact beq_eq_false_iff_ne.2 h4
    go_wp2_with (go_at_call 14;go_must (refine (HZ.out _).mono ?_;rintro e w20 ⟨rfl,hb⟩;have HG:=keepB HG hb;clear hb))
    go_ret
    exact ⟨rfl,HG.out⟩
   have z1 : (r1.er != 0) = false:=by rw [h1];rfl
   have z2 : (r2.er != 0) = false:=by rw [h2];rfl
   have z3 : (r3.er != 0) = false:=by rw [h3];rfl
   have z4 : (r4.er != 0) = false:=by rw [h4];rfl
   obtain ⟨q1,q2,q3,q4,q5,q6⟩:=hT.out h1 h2 h3 h4
   obtain ⟨⟨vi3,vs3,vm3,vq3⟩,ve3⟩:=gv3
   obtain ⟨⟨vi4,vs,vm,vq⟩,ve⟩:=gv4
   change ve3 = ve at q1
   change vs3 = vs at q2
   change vm3 = vm at q3
   change vq3 = vq at q4
   subst q1 q2 q3 q4
   clear h1 h2 h3 h4 hT
   have j0 : (ve3 != ve3) = false:=by simp
   have j1 : (vs3.toList == vs3.toList) = true:=by simp
   have j2 : (vm3 != vm3) = false:=by simp
   have j3 : (vq3 != vq3) = false:=by simp
   have j4 : ((r3.b.f2.length : Int) == (r4.b.f2.length : Int)) = true:=by rw [q6];simp
   have hs : (cb.f1 == 1) = true ∨ ((cb.f1 == 1) = false ∧ (r3.b.f4 == r4.b.f4) = true):=by
    by_cases c1 : cb.f1 = 1
    ·exact Or.inl (beq_iff_eq.2 c1)
    ·exact Or.inr ⟨beq_eq_false_iff_ne.2 c1,beq_iff_eq.2 (q5 c1)⟩
   clear q5 q6
   rcases hs with hs | ⟨hs,hs2⟩
   ·have MG1:=zh True.intro
    go_wp2_with (first
     | (go_at_call 18;go_must (first | (clear MG1;refine (HG3.out A3 D3 c3 d3 _ E3.out X3 U3.out Y3).mono ?_;rintro e w10 ⟨rfl,hb⟩;have HG:=keepB HG hb;have E3:=zc E3 hb;have U3:=zc U3 hb;have E4:=zc E4 hb;have U4:=zc U4 hb;have Kgb:=zk Kgb hb;have Kgx:=zk Kgx hb;have Kg3:=zk Kg3 hb;have Kg4:=zk Kg4 hb;clear hb b0 b1 b2 b3 b4 b5 b6 p0 p1 p2 p3 p4 p5 p6 p7 m0 m1 m2 m3 m4 m5 m6 m7;) | (refine (HG4.out A4 D4 c4 d4 _ E4.out X4 U4.out Y4).mono ?_;rintro e w10 ⟨rfl,hb⟩;have HG:=keepB HG hb;have Kgb:=zk Kgb hb;have Kg3:=zk Kg3 hb;have Kg4:=zk Kg4 hb;have Kgv:=zk Kgv hb;clear hb b0 b1 b2 b3 b4 b5 b6 m0 m1 m2 m3 m4 m5 m6 m7)))
     | ((with_reducible refine gate_dst (N:=11) rfl ?_);go_must (refine zx HG (N:=11) (cs:=#[.int .u64 0,.string ⟨#[]⟩,.bool false,.int .i64 0]) (t:=47) ?hr ?_;(case hr=>first | (go_simp;done) | (go_simp;rfl));intro gv w11 Kgv Lgv HG hbelgv hqgv;have Ngbv:=zh (show gb < gv by rw [hqgv];exact blk_lt Kgb.out);have Ngxv:=zh (show gx < gv by rw [hqgv];exact blk_lt Kgx.out);have Ng3v:=zh (show g3 < gv by rw [hqgv];exact blk_lt Kg3.out);have Ng4v:=zh (show g4 < gv by rw [hqgv];exact blk_lt Kg4.out);have HD:=zh hbelgv;have WD:=zh (show _ ≤ gv by rw [hqgv];exact Nat.le_refl _);have Kgb:=zk Kgb hbelgv;have Kgx:=zk Kgx hbelgv;have Kg3:=zk Kg3 hbelgv;have Kg4:=zk Kg4 hbelgv;clear hbelgv hqgv))
     | ((with_reducible refine gate_store (t:=47) (p:=11) (v:=.tmp 90) rfl ?_);go_must (refine zs 47 (.tmp 11) (.tmp 90) gv 0 47 [.int .u64 vi3,.string vs3,.bool vm3,.int .i64 vq3] Kgv (by kernel_rfl) ?_;intro w12 hk ho;have HG:=zo ho HG Lgv;have E4:=zc E4 (ho.out.below HD.out HD.out.size WD.out);have U4:=zc U4 (ho.out.below HD.out HD.out.size WD.out);clear HD WD;have Kgb:=zl ho Kgb (by have:=Ngbv.out;omega);have Kgx:=zl ho Kgx (by have:=Ngxv.out;omega);have Kg3:=zl ho Kg3 (by have:=Ng3v.out;omega);have Kg4:=zl ho Kg4 (by have:=Ng4v.out;omega);have Kgv : Hid (w12.heap[gv]? = some (.cells #[.int .u64 vi3,.string vs3,.bool vm3,.int .i64 vq3] 47 (0,0))):=hk;obtain ⟨b0,b1,b2,b3,b4,b5,b6⟩:=cl7 Kgx.out;obtain ⟨m0,m1,m2,m3,m4,m5,m6,m7⟩:=cl8 Kg4.out;clear hk ho))
     | ((with_reducible refine gate_dst (N:=13) rfl ?_);go_must (refine zx HG (N:=13) (cs:=#[.int .u64 0,.string ⟨#[]⟩,.bool false,.int .i64 0]) (t:=47) ?hr ?_;(case hr=>first | (go_simp;done) | (go_simp;rfl));intro gu w13 Kgu Lgu HG hbelgu hqgu;have Mgbu:=zh (show gb < gu by rw [hqgu];exact blk_lt Kgb.out);have Mg3u:=zh (show g3 < gu by rw [hqgu];exact blk_lt Kg3.out);have Mg4u:=zh (show g4 < gu by rw [hqgu];exact blk_lt Kg4.out);have Mgvu:=zh (show gv < gu by rw [hqgu];exact blk_lt Kgv.out);have Kgb:=zk Kgb hbelgu;have Kg3:=zk Kg3 hbelgu;have Kg4:=zk Kg4 hbelgu;have Kgv:=zk Kgv hbelgu;clear hbelgu hqgu))
     | ((with_reducible refine gate_store (t:=47) (p:=13) (v:=.tmp 98) rfl ?_);go_must (refine zs 47 (.tmp 13) (.tmp 98) gu 0 47 [.int .u64 vi4,.string vs3,.bool vm3,.int .i64 vq3] Kgu (by kernel_rfl) ?_;intro w14 hk ho;have HG:=zo ho HG Lgu;have Kgb:=zl ho Kgb (by have:=Mgbu.out;omega);have Kg3:=zl ho Kg3 (by have:=Mg3u.out;omega);have Kg4:=zl ho Kg4 (by have:=Mg4u.out;omega);have Kgv:=zl ho Kgv (by have:=Mgvu.out;omega);have Kgu : Hid (w14.heap[gu]? = some (.cells #[.int .u64 vi4,.string vs3,.bool vm3,.int .i64 vq3] 47 (0,0))):=hk;obtain ⟨k0,k1,k2,k3⟩:=zz4 Kgv.out;obtain ⟨n0,n1,n2,n3⟩:=zz4 Kgu.out;obtain ⟨a0,a1,a2,a3,a4⟩:=cl5 Kgb.out;obtain ⟨p0,p1,p2,p3,p4,p5,p6,p7⟩:=cl8 Kg3.out;obtain ⟨m0,m1,m2,m3,m4,m5,m6,m7⟩:=cl8 Kg4.out;clear hk ho))
     | (go_at_call 14;go_must (refine (HZ.out _).mono ?_;rintro e w20 ⟨rfl,hb⟩;have HG:=keepB HG hb;clear hb)))
    go_ret
    exact ⟨rfl,HG.out⟩
   ·have MG1:=zh True.intro
    go_wp2_with (first
     | (go_at_call 18;go_must (first | (clear MG1;refine (HG3.out A3 D3 c3 d3 _ E3.out X3 U3.out Y3).mono ?_;rintro e w10 ⟨rfl,hb⟩;have HG:=keepB HG hb;have E3:=zc E3 hb;have U3:=zc U3 hb;have E4:=zc E4 hb;have U4:=zc U4 hb;have Kgb:=zk Kgb hb;have Kgx:=zk Kgx hb;have Kg3:=zk Kg3 hb;have Kg4:=zk Kg4 hb;clear hb b0 b1 b2 b3 b4 b5 b6 p0 p1 p2 p3 p4 p5 p6 p7 m0 m1 m2 m3 m4 m5 m6 m7;) | (refine (HG4.out A4 D4 c4 d4 _ E4.out X4 U4.out Y4).mono ?_;rintro e w10 ⟨rfl,hb⟩;have HG:=keepB HG hb;have Kgb:=zk Kgb hb;have Kg3:=zk Kg3 hb;have Kg4:=zk Kg4 hb;have Kgv:=zk Kgv hb;clear hb b0 b1 b2 b3 b4 b5 b6 m0 m1 m2 m3 m4 m5 m6 m7)))
     | ((with_reducible refine gate_dst (N:=11) rfl ?_);go_must (refine zx HG (N:=11) (cs:=#[.int .u64 0,.string ⟨#[]⟩,.bool false,.int .i64 0]) (t:=47) ?hr ?_;(case hr=>first | (go_simp;done) | (go_simp;rfl));intro gv w11 Kgv Lgv HG hbelgv hqgv;have Ngbv:=zh (show gb < gv by rw [hqgv];exact blk_lt Kgb.out);have Ngxv:=zh (show gx < gv by rw [hqgv];exact blk_lt Kgx.out);have Ng3v:=zh (show g3 < gv by rw [hqgv];exact blk_lt Kg3.out);have Ng4v:=zh (show g4 < gv by rw [hqgv];exact blk_lt Kg4.out);have HD:=zh hbelgv;have WD:=zh (show _ ≤ gv by rw [hqgv];exact Nat.le_refl _);have Kgb:=zk Kgb hbelgv;have Kgx:=zk Kgx hbelgv;have Kg3:=zk Kg3 hbelgv;have Kg4:=zk Kg4 hbelgv;clear hbelgv hqgv))
     | ((with_reducible refine gate_store (t:=47) (p:=11) (v:=.tmp 90) rfl ?_);go_must (refine zs 47 (.tmp 11) (.tmp 90) gv 0 47 [.int .u64 vi3,.string vs3,.bool vm3,.int .i64 vq3] Kgv (by kernel_rfl) ?_;intro w12 hk ho;have HG:=zo ho HG Lgv;have E4:=zc E4 (ho.out.below HD.out HD.out.size WD.out);have U4:=zc U4 (ho.out.below HD.out HD.out.size WD.out);clear HD WD;have Kgb:=zl ho Kgb (by have:=Ngbv.out;omega);have Kgx:=zl ho Kgx (by have:=Ngxv.out;omega);have Kg3:=zl ho Kg3 (by have:=Ng3v.out;omega);have Kg4:=zl ho Kg4 (by have:=Ng4v.out;omega);have Kgv : Hid (w12.heap[gv]? = some (.cells #[.int .u64 vi3,.string vs3,.bool vm3,.int .i64 vq3] 47 (0,0))):=hk;obtain ⟨b0,b1,b2,b3,b4,b5,b6⟩:=cl7 Kgx.out;obtain ⟨m0,m1,m2,m3,m4,m5,m6,m7⟩:=cl8 Kg4.out;clear hk ho))
     | ((with_reducible refine gate_dst (N:=13) rfl ?_);go_must (refine zx HG (N:=13) (cs:=#[.int .u64 0,.string ⟨#[]⟩,.bool false,.int .i64 0]) (t:=47) ?hr ?_;(case hr=>first | (go_simp;done) | (go_simp;rfl));intro gu w13 Kgu Lgu HG hbelgu hqgu;have Mgbu:=zh (show gb < gu by rw [hqgu];exact blk_lt Kgb.out);have Mg3u:=zh (show g3 < gu by rw [hqgu];exact blk_lt Kg3.out);have Mg4u:=zh (show g4 < gu by rw [hqgu];exact blk_lt Kg4.out);have Mgvu:=zh (show gv < gu by rw [hqgu];exact blk_lt Kgv.out);have Kgb:=zk Kgb hbelgu;have Kg3:=zk Kg3 hbelgu;have Kg4:=zk Kg4 hbelgu;have Kgv:=zk Kgv hbelgu;clear hbelgu hqgu))
     | ((with_reducible refine gate_store (t:=47) (p:=13) (v:=.tmp 98) rfl ?_);go_must (refine zs 47 (.tmp 13) (.tmp 98) gu 0 47 [.int .u64 vi4,.string vs3,.bool vm3,.int .i64 vq3] Kgu (by kernel_rfl) ?_;intro w14 hk ho;have HG:=zo ho HG Lgu;have Kgb:=zl ho Kgb (by have:=Mgbu.out;omega);have Kg3:=zl ho Kg3 (by have:=Mg3u.out;omega);have Kg4:=zl ho Kg4 (by have:=Mg4u.out;omega);have Kgv:=zl ho Kgv (by have:=Mgvu.out;omega);have Kgu : Hid (w14.heap[gu]? = some (.cells #[.int .u64 vi4,.string vs3,.bool vm3,.int .i64 vq3] 47 (0,0))):=hk;obtain ⟨k0,k1,k2,k3⟩:=zz4 Kgv.out;obtain ⟨n0,n1,n2,n3⟩:=zz4 Kgu.out;obtain ⟨a0,a1,a2,a3,a4⟩:=cl5 Kgb.out;obtain ⟨p0,p1,p2,p3,p4,p5,p6,p7⟩:=cl8 Kg3.out;obtain ⟨m0,m1,m2,m3,m4,m5,m6,m7⟩:=cl8 Kg4.out;clear hk ho))
     | (go_at_call 14;go_must (refine (HZ.out _).mono ?_;rintro e w20 ⟨rfl,hb⟩;have HG:=keepB HG hb;clear hb)))
    go_ret
    exact ⟨rfl,HG.out⟩
  refine tk (i:=0) (v:=?v0Q5) rfl hHeld (Or.inl ⟨rfl,?y0Q5⟩) ?r0Q5 (hQ:=fun c _ w h=>hPQ.out c _ _ _ w h)
  case y0Q5=>(intro w h;go_simp;try with_reducible rfl)
  try simp only [zA,zB,zC,Act.put,zD,zE,zF]
  refine tk (i:=1) (v:=?v1Q5) rfl hHeld (Or.inl ⟨rfl,?y1Q5⟩) ?r1Q5 (hQ:=fun c _ w h=>hPQ.out c _ _ _ w h)
  case y1Q5=>(intro w h;obtain ⟨f0,f1,f2,f3,f4,f5,f6,f7⟩:=cl8 (blk_below Kg1.out h);go_simp;try with_reducible rfl)
  try simp only [zA,zB,zC,Act.put,zD,zE,zF]
  refine tk (i:=2) (v:=?v2Q5) rfl hHeld (Or.inl ⟨rfl,?y2Q5⟩) ?r2Q5 (hQ:=fun c _ w h=>hPQ.out c _ _ _ w h)
  case y2Q5=>(intro w h;obtain ⟨d0,d1,d2,d3,d4,d5,d6⟩:=cl7 (blk_below Kgy.out h);go_simp;try with_reducible rfl)
  try simp only [zA,zB,zC,Act.put,zD,zE,zF]
  refine tk (i:=4) (v:=?v4Q5) rfl hHeld (Or.inl ⟨rfl,?y4Q5⟩) ?r4Q5 (hQ:=fun c _ w h=>hPQ.out c _ _ _ w h)
  case y4Q5=>(intro w h;go_simp;try with_reducible rfl)
  try simp only [zA,zB,zC,Act.put,zD,zE,zF]
  refine tk (i:=5) (v:=?v5Q5) rfl hHeld (Or.inl ⟨rfl,?y5Q5⟩) ?r5Q5 (hQ:=fun c _ w h=>hPQ.out c _ _ _ w h)
  case y5Q5=>(intro w h;obtain ⟨u0,u1,u2,u3,u4,u5,u6,u7⟩:=cl8 (blk_below Kg2.out h);go_simp;try with_reducible rfl)
  try simp only [zA,zB,zC,Act.put,zD,zE,zF]
  refine tk (i:=6) (v:=?v6Q5) rfl hHeld (Or.inl ⟨rfl,?y6Q5⟩) ?r6Q5 (hQ:=fun c _ w h=>hPQ.out c _ _ _ w h)
  case y6Q5=>(intro w h;obtain ⟨b0,b1,b2,b3,b4,b5,b6⟩:=cl7 (blk_below Kgx.out h);go_simp;try with_reducible rfl)
  try simp only [zA,zB,zC,Act.put,zD,zE,zF]
  refine wpAnyH_ready (rs:=[3,8,9]) (by kernel_rfl) (by simp) ?_
  refine AllReadyH.cons (o:=_) rfl (fun K hK=>?_) (AllReadyH.cons (o:=_) rfl (fun K hK=>?_) (AllReadyH.cons (o:=_) rfl (fun K hK=>?_) AllReadyH.nil))
  ·skip
   rw [if_pos (by rfl)]
   go_simp
   refine (HD3.out A1 D1 c1 d1 _ (Kd.C_below E1.out hHeld) X1 (Kd.C_below U1.out hHeld) Y1).mono ?_
   rintro e8 w8 ⟨A3,c3,D3,d3,rfl,X3,Y3,y2,y3,hb⟩
   have E3:=zh y2
   have U3:=zh y3
   refine hK.out _ _ (Below.trans hHeld (hb.mono (Below.size hHeld))) (fun hHeld=>?_)
   clear hK K hb y2 y3
   try simp only [zA,zB,zC,Act.put,zD,zE,zF]
   refine wpAnyH_ready (rs:=[7,8,9]) (by kernel_rfl) (by simp) ?_
   refine AllReadyH.cons (o:=_) rfl (fun K hK=>?_) (AllReadyH.cons (o:=_) rfl (fun K hK=>?_) (AllReadyH.cons (o:=_) rfl (fun K hK=>?_) AllReadyH.nil))
   ·skip
    rw [if_pos (by rfl)]
    go_simp
    refine (HD4.out A2 D2 c2 d2 _ (Kd.C_below E2.out hHeld) X2 (Kd.C_below U2.out hHeld) Y2).mono ?_
    rintro e8 w8 ⟨A4,c4,D4,d4,rfl,X4,Y4,y2,y3,hb⟩
    have E3:=zc E3 hb
    have U3:=zc U3 hb
    have E4:=zh y2
    have U4:=zh y3
    refine hK.out _ _ (Below.trans hHeld (hb.mono (Below.size hHeld))) (fun hHeld=>?_)
    clear hK K hb y2 y3
    try simp only [zA,zB,zC,Act.put,zD,zE,zF]
    refine wpAnyH_ready (rs:=[8,9]) (by kernel_rfl) (by simp) ?_
    refine AllReadyH.cons (o:=_) rfl (fun K hK=>?_) (AllReadyH.cons (o:=_) rfl (fun K hK=>?_) AllReadyH.nil)
    ·skip
     rw [if_pos (by rfl)]
     refine wp_box_row (N:=9) rfl (cs:=#[.string ⟨#[]⟩,.int .i64 0,.slice none 0 0,.slice none 0 0,.int .u64 0,.int .u64 0,.string ⟨#[]⟩,.int .i64 0]) (t:=62) (by first | (go_simp;done) | (go_simp;rfl)) ?_
     intro g3 hg w9 hk hb
     have E3:=zc E3 hb
     have U3:=zc U3 hb
     have E4:=zc E4 hb
     have U4:=zc U4 hb
     have Kg3:=zh hk
     have Lg3 : Hid (wr.heap.size ≤ g3):=by rw [hg];exact Below.size hHeld
     refine hK.out _ _ (Below.trans hHeld (hb.mono (Below.size hHeld))) (fun hHeld=>?_)
     clear hK K hk hb hg
     try simp only [zA,zB,zC,Act.put,zD,zE,zF]
     refine wpAnyH_ready (rs:=[9]) (by kernel_rfl) (by simp) ?_
     refine AllReadyH.cons (o:=_) rfl (fun K hK=>?_) AllReadyH.nil
     rw [if_pos (by rfl)]
     refine wp_box_row (N:=10) rfl (cs:=#[.string ⟨#[]⟩,.int .i64 0,.slice none 0 0,.slice none 0 0,.int .u64 0,.int .u64 0,.string ⟨#[]⟩,.int .i64 0]) (t:=62) (by first | (go_simp;done) | (go_simp;rfl)) ?_
     intro g4 hg w9 hk hb
     have N12 : Hid (g3 ≠ g4):=by unfold Hid;have:=blk_lt Kg3.out;omega
     have E3:=zc E3 hb
     have U3:=zc U3 hb
     have E4:=zc E4 hb
     have U4:=zc U4 hb
     have Kg3:=zk Kg3 hb
     have Kg4:=zh hk
     have Lg4 : Hid (wr.heap.size ≤ g4):=by rw [hg];exact Below.size hHeld
     refine hK.out _ _ (Below.trans hHeld (hb.mono (Below.size hHeld))) (fun hHeld=>?_)
     clear hK K hk hb hg
     try simp only [zA,zB,zC,Act.put,zD,zE,zF]
     have hc:=CONT A3 D3 A4 D4 c3 d3 c4 d4 g3 g4 _ hHeld Kg3 Kg4 N12 Lg3 Lg4 X3 Y3 E3 U3 X4 Y4 E4 U4
     rw [hOP.out,haa.out] at hc
     try simp only [zA,zB,zC,Act.put,zD,zE,zF] at hc
     exact hc
    ·skip
     rw [if_pos (by rfl)]
     refine wp_box_row (N:=10) rfl (cs:=#[.string ⟨#[]⟩,.int .i64 0,.slice none 0 0,.slice none 0 0,.int .u64 0,.int .u64 0,.string ⟨#[]⟩,.int .i64 0]) (t:=62) (by first | (go_simp;done) | (go_simp;rfl)) ?_
     intro g4 hg w9 hk hb
     have E3:=zc E3 hb
     have U3:=zc U3 hb
     have E4:=zc E4 hb
     have U4:=zc U4 hb
     have Kg4:=zh hk
     have Lg4 : Hid (wr.heap.size ≤ g4):=by rw [hg];exact Below.size hHeld
     refine hK.out _ _ (Below.trans hHeld (hb.mono (Below.size hHeld))) (fun hHeld=>?_)
     clear hK K hk hb hg
     try simp only [zA,zB,zC,Act.put,zD,zE,zF]
     refine wpAnyH_ready (rs:=[8]) (by kernel_rfl) (by simp) ?_
     refine AllReadyH.cons (o:=_) rfl (fun K hK=>?_) AllReadyH.nil
     rw [if_pos (by rfl)]
     refine wp_box_row (N:=9) rfl (cs:=#[.string ⟨#[]⟩,.int .i64 0,.slice none 0 0,.slice none 0 0,.int .u64 0,.int .u64 0,.string ⟨#[]⟩,.int .i64 0]) (t:=62) (by first | (go_simp;done) | (go_simp;rfl)) ?_
     intro g3 hg w9 hk hb
     have N12 : Hid (g3 ≠ g4):=by unfold Hid;have:=blk_lt Kg4.out;omega
     have E3:=zc E3 hb
     have U3:=zc U3 hb
     have E4:=zc E4 hb
     have U4:=zc U4 hb
     have Kg4:=zk Kg4 hb
     have Kg3:=zh hk
     have Lg3 : Hid (wr.heap.size ≤ g3):=by rw [hg];exact Below.size hHeld
     refine hK.out _ _ (Below.trans hHeld (hb.mono (Below.size hHeld))) (fun hHeld=>?_)
     clear hK K hk hb hg
     try simp only [zA,zB,zC,Act.put,zD,zE,zF]
     have hc:=CONT A3 D3 A4 D4 c3 d3 c4 d4 g3 g4 _ hHeld Kg3 Kg4 N12 Lg3 Lg4 X3 Y3 E3 U3 X4 Y4 E4 U4
     rw [hOP.out,haa.out] at hc
     try simp only [zA,zB,zC,Act.put,zD,zE,zF] at hc
     exact hc
   ·skip
    rw [if_pos (by rfl)]
    refine wp_box_row (N:=9) rfl (cs:=#[.string ⟨#[]⟩,.int .i64 0,.slice none 0 0,.slice none 0 0,.int .u64 0,.int .u64 0,.string ⟨#[]⟩,.int .i64 0]) (t:=62) (by first | (go_simp;done) | (go_simp;rfl)) ?_
    intro g3 hg w9 hk hb
    have E3:=zc E3 hb
    have U3:=zc U3 hb
    have Kg3:=zh hk
    have Lg3 : Hid (wr.heap.size ≤ g3):=by rw [hg];exact Below.size hHeld
    refine hK.out _ _ (Below.trans hHeld (hb.mono (Below.size hHeld))) (fun hHeld=>?_)
    clear hK K hk hb hg
    try simp only [zA,zB,zC,Act.put,zD,zE,zF]
    refine wpAnyH_ready (rs:=[7,9]) (by kernel_rfl) (by simp) ?_
    refine AllReadyH.cons (o:=_) rfl (fun K hK=>?_) (AllReadyH.cons (o:=_) rfl (fun K hK=>?_) AllReadyH.nil)
    ·skip
     rw [if_pos (by rfl)]
     go_simp
     refine (HD4.out A2 D2 c2 d2 _ (Kd.C_below E2.out hHeld) X2 (Kd.C_below U2.out hHeld) Y2).mono ?_
     rintro e8 w8 ⟨A4,c4,D4,d4,rfl,X4,Y4,y2,y3,hb⟩
     have E3:=zc E3 hb
     have U3:=zc U3 hb
     have Kg3:=zk Kg3 hb
     have E4:=zh y2
     have U4:=zh y3
     refine hK.out _ _ (Below.trans hHeld (hb.mono (Below.size hHeld))) (fun hHeld=>?_)
     clear hK K hb y2 y3
     try simp only [zA,zB,zC,Act.put,zD,zE,zF]
     refine wpAnyH_ready (rs:=[9]) (by kernel_rfl) (by simp) ?_
     refine AllReadyH.cons (o:=_) rfl (fun K hK=>?_) AllReadyH.nil
     rw [if_pos (by rfl)]
     refine wp_box_row (N:=10) rfl (cs:=#[.string ⟨#[]⟩,.int .i64 0,.slice none 0 0,.slice none 0 0,.int .u64 0,.int .u64 0,.string ⟨#[]⟩,.int .i64 0]) (t:=62) (by first | (go_simp;done) | (go_simp;rfl)) ?_
     intro g4 hg w9 hk hb
     have N12 : Hid (g3 ≠ g4):=by unfold Hid;have:=blk_lt Kg3.out;omega
     have E3:=zc E3 hb
     have U3:=zc U3 hb
     have E4:=zc E4 hb
     have U4:=zc U4 hb
     have Kg3:=zk Kg3 hb
     have Kg4:=zh hk
     have Lg4 : Hid (wr.heap.size ≤ g4):=by rw [hg];exact Below.size hHeld
     refine hK.out _ _ (Below.trans hHeld (hb.mono (Below.size hHeld))) (fun hHeld=>?_)
     clear hK K hk hb hg
     try simp only [zA,zB,zC,Act.put,zD,zE,zF]
     have hc:=CONT A3 D3 A4 D4 c3 d3 c4 d4 g3 g4 _ hHeld Kg3 Kg4 N12 Lg3 Lg4 X3 Y3 E3 U3 X4 Y4 E4 U4
     rw [hOP.out,haa.out] at hc
     try simp only [zA,zB,zC,Act.put,zD,zE,zF] at hc
     exact hc
    ·skip
     rw [if_pos (by rfl)]
     refine wp_box_row (N:=10) rfl (cs:=#[.string ⟨#[]⟩,.int .i64 0,.slice none 0 0,.slice none 0 0,.int .u64 0,.int .u64 0,.string ⟨#[]⟩,.int .i64 0]) (t:=62) (by first | (go_simp;done) | (go_simp;rfl)) ?_
     intro g4 hg w9 hk hb
     have N12 : Hid (g3 ≠ g4):=by unfold Hid;have:=blk_lt Kg3.out;omega
     have E3:=zc E3 hb
     have U3:=zc U3 hb
     have Kg3:=zk Kg3 hb
     have Kg4:=zh hk
     have Lg4 : Hid (wr.heap.size ≤ g4):=by rw [hg];exact Below.size hHeld
     refine hK.out _ _ (Below.trans hHeld (hb.mono (Below.size hHeld))) (fun hHeld=>?_)
     clear hK K hk hb hg
     try simp only [zA,zB,zC,Act.put,zD,zE,zF]
     refine wpAnyH_ready (rs:=[7]) (by kernel_rfl) (by simp) ?_
     refine AllReadyH.cons (o:=_) rfl (fun K hK=>?_) AllReadyH.nil
     rw [if_pos (by rfl)]
     go_simp
     refine (HD4.out A2 D2 c2 d2 _ (Kd.C_below E2.out hHeld) X2 (Kd.C_below U2.out hHeld) Y2).mono ?_
     rintro e8 w8 ⟨A4,c4,D4,d4,rfl,X4,Y4,y2,y3,hb⟩
     have E3:=zc E3 hb
     have U3:=zc U3 hb
     have Kg3:=zk Kg3 hb
     have Kg4:=zk Kg4 hb
     have E4:=zh y2
     have U4:=zh y3
     refine hK.out _ _ (Below.trans hHeld (hb.mono (Below.size hHeld))) (fun hHeld=>?_)
     clear hK K hb y2 y3
     try simp only [zA,zB,zC,Act.put,zD,zE,zF]
     have hc:=CONT A3 D3 A4 D4 c3 d3 c4 d4 g3 g4 _ hHeld Kg3 Kg4 N12 Lg3 Lg4 X3 Y3 E3 U3 X4 Y4 E4 U4
     rw [hOP.out,haa.out] at hc
     try simp only [zA,zB,zC,Act.put,zD,zE,zF] at hc
     exact hc
   ·skip
    rw [if_pos (by rfl)]
    refine wp_box_row (N:=10) rfl (cs:=#[.string ⟨#[]⟩,.int .i64 0,.slice none 0 0,.slice none 0 0,.int .u64 0,.int .u64 0,.string ⟨#[]⟩,.int .i64 0]) (t:=62) (by first | (go_simp;done) | (go_simp;rfl)) ?_
    intro g4 hg w9 hk hb
    have E3:=zc E3 hb
    have U3:=zc U3 hb
    have Kg4:=zh hk
    have Lg4 : Hid (wr.heap.size ≤ g4):=by rw [hg];exact Below.size hHeld
    refine hK.out _ _ (Below.trans hHeld (hb.mono (Below.size hHeld))) (fun hHeld=>?_)
    clear hK K hk hb hg
    try simp only [zA,zB,zC,Act.put,zD,zE,zF]
    refine wpAnyH_ready (rs:=[7,8]) (by kernel_rfl) (by simp) ?_
    refine AllReadyH.cons (o:=_) rfl (fun K hK=>?_) (AllReadyH.cons (o:=_) rfl (fun K hK=>?_) AllReadyH.nil)
    ·skip
     rw [if_pos (by rfl)]
     go_simp
     refine (HD4.out A2 D2 c2 d2 _ (Kd.C_below E2.out hHeld) X2 (Kd.C_below U2.out hHeld) Y2).mono ?_
     rintro e8 w8 ⟨A4,c4,D4,d4,rfl,X4,Y4,y2,y3,hb⟩
     have E3:=zc E3 hb
     have U3:=zc U3 hb
     have Kg4:=zk Kg4 hb
     have E4:=zh y2
     have U4:=zh y3
     refine hK.out _ _ (Below.trans hHeld (hb.mono (Below.size hHeld))) (fun hHeld=>?_)
     clear hK K hb y2 y3
     try simp only [zA,zB,zC,Act.put,zD,zE,zF]
     refine wpAnyH_ready (rs:=[8]) (by kernel_rfl) (by simp) ?_
     refine AllReadyH.cons (o:=_) rfl (fun K hK=>?_) AllReadyH.nil
     rw [if_pos (by rfl)]
     refine wp_box_row (N:=9) rfl (cs:=#[.string ⟨#[]⟩,.int .i64 0,.slice none 0 0,.slice none 0 0,.int .u64 0,.int .u64 0,.string ⟨#[]⟩,.int .i64 0]) (t:=62) (by first | (go_simp;done) | (go_simp;rfl)) ?_
     intro g3 hg w9 hk hb
     have N12 : Hid (g3 ≠ g4):=by unfold Hid;have:=blk_lt Kg4.out;omega
     have E3:=zc E3 hb
     have U3:=zc U3 hb
     have E4:=zc E4 hb
     have U4:=zc U4 hb
     have Kg4:=zk Kg4 hb
     have Kg3:=zh hk
     have Lg3 : Hid (wr.heap.size ≤ g3):=by rw [hg];exact Below.size hHeld
     refine hK.out _ _ (Below.trans hHeld (hb.mono (Below.size hHeld))) (fun hHeld=>?_)
     clear hK K hk hb hg
     try simp only [zA,zB,zC,Act.put,zD,zE,zF]
     have hc:=CONT A3 D3 A4 D4 c3 d3 c4 d4 g3 g4 _ hHeld Kg3 Kg4 N12 Lg3 Lg4 X3 Y3 E3 U3 X4 Y4 E4 U4
     rw [hOP.out,haa.out] at hc
     try simp only [zA,zB,zC,Act.put,zD,zE,zF] at hc
     exact hc
    ·skip
     rw [if_pos (by rfl)]
     refine wp_box_row (N:=9) rfl (cs:=#[.string ⟨#[]⟩,.int .i64 0,.slice none 0 0,.slice none 0 0,.int .u64 0,.int .u64 0,.string ⟨#[]⟩,.int .i64 0]) (t:=62) (by first | (go_simp;done) | (go_simp;rfl)) ?_
     intro g3 hg w9 hk hb
     have N12 : Hid (g3 ≠ g4):=by unfold Hid;have:=blk_lt Kg4.out;omega
     have E3:=zc E3 hb
     have U3:=zc U3 hb
     have Kg4:=zk Kg4 hb
     have Kg3:=zh hk
     have Lg3 : Hid (wr.heap.size ≤ g3):=by rw [hg];exact Below.size hHeld
     refine hK.out _ _ (Below.trans hHeld (hb.mono (Below.size hHeld))) (fun hHeld=>?_)
     clear hK K hk hb hg
     try simp only [zA,zB,zC,Act.put,zD,zE,zF]
     refine wpAnyH_ready (rs:=[7]) (by kernel_rfl) (by simp) ?_
     refine AllReadyH.cons (o:=_) rfl (fun K hK=>?_) AllReadyH.nil
     rw [if_pos (by rfl)]
     go_simp
     refine (HD4.out A2 D2 c2 d2 _ (Kd.C_below E2.out hHeld) X2 (Kd.C_below U2.out hHeld) Y2).mono ?_
     rintro e8 w8 ⟨A4,c4,D4,d4,rfl,X4,Y4,y2,y3,hb⟩
     have E3:=zc E3 hb
     have U3:=zc U3 hb
     have Kg3:=zk Kg3 hb
     have Kg4:=zk Kg4 hb
     have E4:=zh y2
     have U4:=zh y3
     refine hK.out _ _ (Below.trans hHeld (hb.mono (Below.size hHeld))) (fun hHeld=>?_)
     clear hK K hb y2 y3
     try simp only [zA,zB,zC,Act.put,zD,zE,zF]
     have hc:=CONT A3 D3 A4 D4 c3 d3 c4 d4 g3 g4 _ hHeld Kg3 Kg4 N12 Lg3 Lg4 X3 Y3 E3 U3 X4 Y4 E4 U4
     rw [hOP.out,haa.out] at hc
     try simp only [zA,zB,zC,Act.put,zD,zE,zF] at hc
     exact hc
  ·skip
   rw [if_pos (by rfl)]
   refine wp_box_row (N:=9) rfl (cs:=#[.string ⟨#[]⟩,.int .i64 0,.slice none 0 0,.slice none 0 0,.int .u64 0,.int .u64 0,.string ⟨#[]⟩,.int .i64 0]) (t:=62) (by first | (go_simp;done) | (go_simp;rfl)) ?_
   intro g3 hg w9 hk hb
   have Kg3:=zh hk
   have Lg3 : Hid (wr.heap.size ≤ g3):=by rw [hg];exact Below.size hHeld
   refine hK.out _ _ (Below.trans hHeld (hb.mono (Below.size hHeld))) (fun hHeld=>?_)
   clear hK K hk hb hg
   try simp only [zA,zB,zC,Act.put,zD,zE,zF]
   refine wpAnyH_ready (rs:=[3,9]) (by kernel_rfl) (by simp) ?_
   refine AllReadyH.cons (o:=_) rfl (fun K hK=>?_) (AllReadyH.cons (o:=_) rfl (fun K hK=>?_) AllReadyH.nil)
   ·skip
    rw [if_pos (by rfl)]
    go_simp
    refine (HD3.out A1 D1 c1 d1 _ (Kd.C_below E1.out hHeld) X1 (Kd.C_below U1.out hHeld) Y1).mono ?_
    rintro e8 w8 ⟨A3,c3,D3,d3,rfl,X3,Y3,y2,y3,hb⟩
    have Kg3:=zk Kg3 hb
    have E3:=zh y2
    have U3:=zh y3
    refine hK.out _ _ (Below.trans hHeld (hb.mono (Below.size hHeld))) (fun hHeld=>?_)
    clear hK K hb y2 y3
    try simp only [zA,zB,zC,Act.put,zD,zE,zF]
    refine wpAnyH_ready (rs:=[7,9]) (by kernel_rfl) (by simp) ?_
    refine AllReadyH.cons (o:=_) rfl (fun K hK=>?_) (AllReadyH.cons (o:=_) rfl (fun K hK=>?_) AllReadyH.nil)
    ·skip
     rw [if_pos (by rfl)]
     go_simp
     refine (HD4.out A2 D2 c2 d2 _ (Kd.C_below E2.out hHeld) X2 (Kd.C_below U2.out hHeld) Y2).mono ?_
     rintro e8 w8 ⟨A4,c4,D4,d4,rfl,X4,Y4,y2,y3,hb⟩
     have E3:=zc E3 hb
     have U3:=zc U3 hb
     have Kg3:=zk Kg3 hb
     have E4:=zh y2
     have U4:=zh y3
     refine hK.out _ _ (Below.trans hHeld (hb.mono (Below.size hHeld))) (fun hHeld=>?_)
     clear hK K hb y2 y3
     try simp only [zA,zB,zC,Act.put,zD,zE,zF]
     refine wpAnyH_ready (rs:=[9]) (by kernel_rfl) (by simp) ?_
     refine AllReadyH.cons (o:=_) rfl (fun K hK=>?_) AllReadyH.nil
     rw [if_pos (by rfl)]
     refine wp_box_row (N:=10) rfl (cs:=#[.string ⟨#[]⟩,.int .i64 0,.slice none 0 0,.slice none 0 0,.int .u64 0,.int .u64 0,.string ⟨#[]⟩,.int .i64 0]) (t:=62) (by first | (go_simp;done) | (go_simp;rfl)) ?_
     intro g4 hg w9 hk hb
     have N12 : Hid (g3 ≠ g4):=by unfold Hid;have:=blk_lt Kg3.out;omega
     have E3:=zc E3 hb
     have U3:=zc U3 hb
     have E4:=zc E4 hb
     have U4:=zc U4 hb
     have Kg3:=zk Kg3 hb
     have Kg4:=zh hk
     have Lg4 : Hid (wr.heap.size ≤ g4):=by rw [hg];exact Below.size hHeld
     refine hK.out _ _ (Below.trans hHeld (hb.mono (Below.size hHeld))) (fun hHeld=>?_)
     clear hK K hk hb hg
     try simp only [zA,zB,zC,Act.put,zD,zE,zF]
     have hc:=CONT A3 D3 A4 D4 c3 d3 c4 d4 g3 g4 _ hHeld Kg3 Kg4 N12 Lg3 Lg4 X3 Y3 E3 U3 X4 Y4 E4 U4
     rw [hOP.out,haa.out] at hc
     try simp only [zA,zB,zC,Act.put,zD,zE,zF] at hc
     exact hc
    ·skip
     rw [if_pos (by rfl)]
     refine wp_box_row (N:=10) rfl (cs:=#[.string ⟨#[]⟩,.int .i64 0,.slice none 0 0,.slice none 0 0,.int .u64 0,.int .u64 0,.string ⟨#[]⟩,.int .i64 0]) (t:=62) (by first | (go_simp;done) | (go_simp;rfl)) ?_
     intro g4 hg w9 hk hb
     have N12 : Hid (g3 ≠ g4):=by unfold Hid;have:=blk_lt Kg3.out;omega
     have E3:=zc E3 hb
     have U3:=zc U3 hb
     have Kg3:=zk Kg3 hb
     have Kg4:=zh hk
     have Lg4 : Hid (wr.heap.size ≤ g4):=by rw [hg];exact Below.size hHeld
     refine hK.out _ _ (Below.trans hHeld (hb.mono (Below.size hHeld))) (fun hHeld=>?_)
     clear hK K hk hb hg
     try simp only [zA,zB,zC,Act.put,zD,zE,zF]
     refine wpAnyH_ready (rs:=[7]) (by kernel_rfl) (by simp) ?_
     refine AllReadyH.cons (o:=_) rfl (fun K hK=>?_) AllReadyH.nil
     rw [if_pos (by rfl)]
     go_simp
     refine (HD4.out A2 D2 c2 d2 _ (Kd.C_below E2.out hHeld) X2 (Kd.C_below U2.out hHeld) Y2).mono ?_
     rintro e8 w8 ⟨A4,c4,D4,d4,rfl,X4,Y4,y2,y3,hb⟩
     have E3:=zc E3 hb
     have U3:=zc U3 hb
     have Kg3:=zk Kg3 hb
     have Kg4:=zk Kg4 hb
     have E4:=zh y2
     have U4:=zh y3
     refine hK.out _ _ (Below.trans hHeld (hb.mono (Below.size hHeld))) (fun hHeld=>?_)
     clear hK K hb y2 y3
     try simp only [zA,zB,zC,Act.put,zD,zE,zF]
     have hc:=CONT A3 D3 A4 D4 c3 d3 c4 d4 g3 g4 _ hHeld Kg3 Kg4 N12 Lg3 Lg4 X3 Y3 E3 U3 X4 Y4 E4 U4
     rw [hOP.out,haa.out] at hc
     try simp only [zA,zB,zC,Act.put,zD,zE,zF] at hc
     exact hc
   ·skip
    rw [if_pos (by rfl)]
    refine wp_box_row (N:=10) rfl (cs:=#[.string ⟨#[]⟩,.int .i64 0,.slice none 0 0,.slice none 0 0,.int .u64 0,.int .u64 0,.string ⟨#[]⟩,.int .i64 0]) (t:=62) (by first | (go_simp;done) | (go_simp;rfl)) ?_
    intro g4 hg w9 hk hb
    have N12 : Hid (g3 ≠ g4):=by unfold Hid;have:=blk_lt Kg3.out;omega
    have Kg3:=zk Kg3 hb
    have Kg4:=zh hk
    have Lg4 : Hid (wr.heap.size ≤ g4):=by rw [hg];exact Below.size hHeld
    refine hK.out _ _ (Below.trans hHeld (hb.mono (Below.size hHeld))) (fun hHeld=>?_)
    clear hK K hk hb hg
    try simp only [zA,zB,zC,Act.put,zD,zE,zF]
    refine wpAnyH_ready (rs:=[3]) (by kernel_rfl) (by simp) ?_
    refine AllReadyH.cons (o:=_) rfl (fun K hK=>?_) AllReadyH.nil
    rw [if_pos (by rfl)]
    go_simp
    refine (HD3.out A1 D1 c1 d1 _ (Kd.C_below E1.out hHeld) X1 (Kd.C_below U1.out hHeld) Y1).mono ?_
    rintro e8 w8 ⟨A3,c3,D3,d3,rfl,X3,Y3,y2,y3,hb⟩
    have Kg3:=zk Kg3 hb
    have Kg4:=zk Kg4 hb
    have E3:=zh y2
    have U3:=zh y3
    refine hK.out _ _ (Below.trans hHeld (hb.mono (Below.size hHeld))) (fun hHeld=>?_)
    clear hK K hb y2 y3
    try simp only [zA,zB,zC,Act.put,zD,zE,zF]
    refine wpAnyH_ready (rs:=[7]) (by kernel_rfl) (by simp) ?_
    refine AllReadyH.cons (o:=_) rfl (fun K hK=>?_) AllReadyH.nil
    rw [if_pos (by rfl)]
    go_simp
    refine (HD4.out A2 D2 c2 d2 _ (Kd.C_below E2.out hHeld) X2 (Kd.C_below U2.out hHeld) Y2).mono ?_
    rintro e8 w8 ⟨A4,c4,D4,d4,rfl,X4,Y4,y2,y3,hb⟩
    have E3:=zc E3 hb
    have U3:=zc U3 hb
    have Kg3:=zk Kg3 hb
    have Kg4:=zk Kg4 hb
    have E4:=zh y2
    have U4:=zh y3
    refine hK.out _ _ (Below.trans hHeld (hb.mono (Below.size hHeld))) (fun hHeld=>?_)
    clear hK K hb y2 y3
    try simp only [zA,zB,zC,Act.put,zD,zE,zF]
    have hc:=CONT A3 D3 A4 D4 c3 d3 c4 d4 g3 g4 _ hHeld Kg3 Kg4 N12 Lg3 Lg4 X3 Y3 E3 U3 X4 Y4 E4 U4
    rw [hOP.out,haa.out] at hc
    try simp only [zA,zB,zC,Act.put,zD,zE,zF] at hc
    exact hc
  ·skip
   rw [if_pos (by rfl)]
   refine wp_box_row (N:=10) rfl (cs:=#[.string ⟨#[]⟩,.int .i64 0,.slice none 0 0,.slice none 0 0,.int .u64 0,.int .u64 0,.string ⟨#[]⟩,.int .i64 0]) (t:=62) (by first | (go_simp;done) | (go_simp;rfl)) ?_
   intro g4 hg w9 hk hb
   have Kg4:=zh hk
   have Lg4 : Hid (wr.heap.size ≤ g4):=by rw [hg];exact Below.size hHeld
   refine hK.out _ _ (Below.trans hHeld (hb.mono (Below.size hHeld))) (fun hHeld=>?_)
   clear hK K hk hb hg
   try simp only [zA,zB,zC,Act.put,zD,zE,zF]
   refine wpAnyH_ready (rs:=[3,8]) (by kernel_rfl) (by simp) ?_
   refine AllReadyH.cons (o:=_) rfl (fun K hK=>?_) (AllReadyH.cons (o:=_) rfl (fun K hK=>?_) AllReadyH.nil)
   ·skip
    rw [if_pos (by rfl)]
    go_simp
    refine (HD3.out A1 D1 c1 d1 _ (Kd.C_below E1.out hHeld) X1 (Kd.C_below U1.out hHeld) Y1).mono ?_
    rintro e8 w8 ⟨A3,c3,D3,d3,rfl,X3,Y3,y2,y3,hb⟩
    have Kg4:=zk Kg4 hb
    have E3:=zh y2
    have U3:=zh y3
    refine hK.out _ _ (Below.trans hHeld (hb.mono (Below.size hHeld))) (fun hHeld=>?_)
    clear hK K hb y2 y3
    try simp only [zA,zB,zC,Act.put,zD,zE,zF]
    refine wpAnyH_ready (rs:=[7,8]) (by kernel_rfl) (by simp) ?_
    refine AllReadyH.cons (o:=_) rfl (fun K hK=>?_) (AllReadyH.cons (o:=_) rfl (fun K hK=>?_) AllReadyH.nil)
    ·skip
     rw [if_pos (by rfl)]
     go_simp
     refine (HD4.out A2 D2 c2 d2 _ (Kd.C_below E2.out hHeld) X2 (Kd.C_below U2.out hHeld) Y2).mono ?_
     rintro e8 w8 ⟨A4,c4,D4,d4,rfl,X4,Y4,y2,y3,hb⟩
     have E3:=zc E3 hb
     have U3:=zc U3 hb
     have Kg4:=zk Kg4 hb
     have E4:=zh y2
     have U4:=zh y3
     refine hK.out _ _ (Below.trans hHeld (hb.mono (Below.size hHeld))) (fun hHeld=>?_)
     clear hK K hb y2 y3
     try simp only [zA,zB,zC,Act.put,zD,zE,zF]
     refine wpAnyH_ready (rs:=[8]) (by kernel_rfl) (by simp) ?_
     refine AllReadyH.cons (o:=_) rfl (fun K hK=>?_) AllReadyH.nil
     rw [if_pos (by rfl)]
     refine wp_box_row (N:=9) rfl (cs:=#[.string ⟨#[]⟩,.int .i64 0,.slice none 0 0,.slice none 0 0,.int .u64 0,.int .u64 0,.string ⟨#[]⟩,.int .i64 0]) (t:=62) (by first | (go_simp;done) | (go_simp;rfl)) ?_
     intro g3 hg w9 hk hb
     have N12 : Hid (g3 ≠ g4):=by unfold Hid;have:=blk_lt Kg4.out;omega
     have E3:=zc E3 hb
     have U3:=zc U3 hb
     have E4:=zc E4 hb
     have U4:=zc U4 hb
     have Kg4:=zk Kg4 hb
     have Kg3:=zh hk
     have Lg3 : Hid (wr.heap.size ≤ g3):=by rw [hg];exact Below.size hHeld
     refine hK.out _ _ (Below.trans hHeld (hb.mono (Below.size hHeld))) (fun hHeld=>?_)
     clear hK K hk hb hg
     try simp only [zA,zB,zC,Act.put,zD,zE,zF]
     have hc:=CONT A3 D3 A4 D4 c3 d3 c4 d4 g3 g4 _ hHeld Kg3 Kg4 N12 Lg3 Lg4 X3 Y3 E3 U3 X4 Y4 E4 U4
     rw [hOP.out,haa.out] at hc
     try simp only [zA,zB,zC,Act.put,zD,zE,zF] at hc
     exact hc
    ·skip
     rw [if_pos (by rfl)]
     refine wp_box_row (N:=9) rfl (cs:=#[.string ⟨#[]⟩,.int .i64 0,.slice none 0 0,.slice none 0 0,.int .u64 0,.int .u64 0,.string ⟨#[]⟩,.int .i64 0]) (t:=62) (by first | (go_simp;done) | (go_simp;rfl)) ?_
     intro g3 hg w9 hk hb
     have N12 : Hid (g3 ≠ g4):=by unfold Hid;have:=blk_lt Kg4.out;omega
     have E3:=zc E3 hb
     have U3:=zc U3 hb
     have Kg4:=zk Kg4 hb
     have Kg3:=zh hk
     have Lg3 : Hid (wr.heap.size ≤ g3):=by rw [hg];exact Below.size hHeld
     refine hK.out _ _ (Below.trans hHeld (hb.mono (Below.size hHeld))) (fun hHeld=>?_)
     clear hK K hk hb hg
     try simp only [zA,zB,zC,Act.put,zD,zE,zF]
     refine wpAnyH_ready (rs:=[7]) (by kernel_rfl) (by simp) ?_
     refine AllReadyH.cons (o:=_) rfl (fun K hK=>?_) AllReadyH.nil
     rw [if_pos (by rfl)]
     go_simp
     refine (HD4.out A2 D2 c2 d2 _ (Kd.C_below E2.out hHeld) X2 (Kd.C_below U2.out hHeld) Y2).mono ?_
     rintro e8 w8 ⟨A4,c4,D4,d4,rfl,X4,Y4,y2,y3,hb⟩
     have E3:=zc E3 hb
     have U3:=zc U3 hb
     have Kg3:=zk Kg3 hb
     have Kg4:=zk Kg4 hb
     have E4:=zh y2
     have U4:=zh y3
     refine hK.out _ _ (Below.trans hHeld (hb.mono (Below.size hHeld))) (fun hHeld=>?_)
     clear hK K hb y2 y3
     try simp only [zA,zB,zC,Act.put,zD,zE,zF]
     have hc:=CONT A3 D3 A4 D4 c3 d3 c4 d4 g3 g4 _ hHeld Kg3 Kg4 N12 Lg3 Lg4 X3 Y3 E3 U3 X4 Y4 E4 U4
     rw [hOP.out,haa.out] at hc
     try simp only [zA,zB,zC,Act.put,zD,zE,zF] at hc
     exact hc
   ·skip
    rw [if_pos (by rfl)]
    refine wp_box_row (N:=9) rfl (cs:=#[.string ⟨#[]⟩,.int .i64 0,.slice none 0 0,.slice none 0 0,.int .u64 0,.int .u64 0,.string ⟨#[]⟩,.int .i64 0]) (t:=62) (by first | (go_simp;done) | (go_simp;rfl)) ?_
    intro g3 hg w9 hk hb
    have N12 : Hid (g3 ≠ g4):=by unfold Hid;have:=blk_lt Kg4.out;omega
    have Kg4:=zk Kg4 hb
    have Kg3:=zh hk
    have Lg3 : Hid (wr.heap.size ≤ g3):=by rw [hg];exact Below.size hHeld
    refine hK.out _ _ (Below.trans hHeld (hb.mono (Below.size hHeld))) (fun hHeld=>?_)
    clear hK K hk hb hg
    try simp only [zA,zB,zC,Act.put,zD,zE,zF]
    refine wpAnyH_ready (rs:=[3]) (by kernel_rfl) (by simp) ?_
    refine AllReadyH.cons (o:=_) rfl (fun K hK=>?_) AllReadyH.nil
    rw [if_pos (by rfl)]
    go_simp
    refine (HD3.out A1 D1 c1 d1 _ (Kd.C_below E1.out hHeld) X1 (Kd.C_below U1.out hHeld) Y1).mono ?_
    rintro e8 w8 ⟨A3,c3,D3,d3,rfl,X3,Y3,y2,y3,hb⟩
    have Kg3:=zk Kg3 hb
    have Kg4:=zk Kg4 hb
    have E3:=zh y2
    have U3:=zh y3
    refine hK.out _ _ (Below.trans hHeld (hb.mono (Below.size hHeld))) (fun hHeld=>?_)
    clear hK K hb y2 y3
    try simp only [zA,zB,zC,Act.put,zD,zE,zF]
    refine wpAnyH_ready (rs:=[7]) (by kernel_rfl) (by simp) ?_
    refine AllReadyH.cons (o:=_) rfl (fun K hK=>?_) AllReadyH.nil
    rw [if_pos (by rfl)]
    go_simp
    refine (HD4.out A2 D2 c2 d2 _ (Kd.C_below E2.out hHeld) X2 (Kd.C_below U2.out hHeld) Y2).mono ?_
    rintro e8 w8 ⟨A4,c4,D4,d4,rfl,X4,Y4,y2,y3,hb⟩
    have E3:=zc E3 hb
    have U3:=zc U3 hb
    have Kg3:=zk Kg3 hb
    have Kg4:=zk Kg4 hb
    have E4:=zh y2
    have U4:=zh y3
    refine hK.out _ _ (Below.trans hHeld (hb.mono (Below.size hHeld))) (fun hHeld=>?_)
    clear hK K hb y2 y3
    try simp only [zA,zB,zC,Act.put,zD,zE,zF]
    have hc:=CONT A3 D3 A4 D4 c3 d3 c4 d4 g3 g4 _ hHeld Kg3 Kg4 N12 Lg3 Lg4 X3 Y3 E3 U3 X4 Y4 E4 U4
    rw [hOP.out,haa.out] at hc
    try simp only [zA,zB,zC,Act.put,zD,zE,zF] at hc
    exact hc
 refine tk (i:=0) (v:=?v0Q4) rfl hHeld (Or.inl ⟨rfl,?y0Q4⟩) ?r0Q4 (hQ:=fun c _ w h=>hPQ.out c _ _ _ w h)
 case y0Q4=>(intro w h;obtain ⟨a0,a1,a2,a3,a4⟩:=cl5 (blk_below Kgb.out h);go_simp;try with_reducible rfl)
 try simp only [zA,zB,zC,Act.put,zD,zE,zF]
 refine tk (i:=1) (v:=?v1Q4) rfl hHeld (Or.inl ⟨rfl,?y1Q4⟩) ?r1Q4 (hQ:=fun c _ w h=>hPQ.out c _ _ _ w h)
 case y1Q4=>(intro w h;obtain ⟨b0,b1,b2,b3,b4,b5,b6⟩:=cl7 (blk_below Kgx.out h);go_simp;try with_reducible rfl)
 try simp only [zA,zB,zC,Act.put,zD,zE,zF]
 refine tk (i:=3) (v:=?v3Q4) rfl hHeld (Or.inl ⟨rfl,?y3Q4⟩) ?r3Q4 (hQ:=fun c _ w h=>hPQ.out c _ _ _ w h)
 case y3Q4=>(intro w h;obtain ⟨a0,a1,a2,a3,a4⟩:=cl5 (blk_below Kgb.out h);go_simp;try with_reducible rfl)
 try simp only [zA,zB,zC,Act.put,zD,zE,zF]
 refine tk (i:=4) (v:=?v4Q4) rfl hHeld (Or.inl ⟨rfl,?y4Q4⟩) ?r4Q4 (hQ:=fun c _ w h=>hPQ.out c _ _ _ w h)
 case y4Q4=>(intro w h;obtain ⟨d0,d1,d2,d3,d4,d5,d6⟩:=cl7 (blk_below Kgy.out h);go_simp;try with_reducible rfl)
 try simp only [zA,zB,zC,Act.put,zD,zE,zF]
 refine wpAnyH_ready (rs:=[2,6,7]) (by kernel_rfl) (by simp) ?_
 refine AllReadyH.cons (o:=_) rfl (fun K hK=>?_) (AllReadyH.cons (o:=_) rfl (fun K hK=>?_) (AllReadyH.cons (o:=_) rfl (fun K hK=>?_) AllReadyH.nil))
 ·skip
  rw [if_pos (by rfl)]
  go_simp
  refine (HD1.out _ (Below.trans hw0 (Below.mono hHeld hw0.size))).mono ?_
  rintro e8 w8 ⟨A1,c1,D1,d1,rfl,X1,Y1,y2,y3,hb⟩
  have E1:=zh y2
  have U1:=zh y3
  refine hK.out _ _ (Below.trans hHeld (hb.mono (Below.size hHeld))) (fun hHeld=>?_)
  clear hK K hb y2 y3
  try simp only [zA,zB,zC,Act.put,zD,zE,zF]
  refine wpAnyH_ready (rs:=[5,6,7]) (by kernel_rfl) (by simp) ?_
  refine AllReadyH.cons (o:=_) rfl (fun K hK=>?_) (AllReadyH.cons (o:=_) rfl (fun K hK=>?_) (AllReadyH.cons (o:=_) rfl (fun K hK=>?_) AllReadyH.nil))
  ·skip
   rw [if_pos (by rfl)]
   go_simp
   refine (HD2.out _ (Below.trans hw0 (Below.mono hHeld hw0.size))).mono ?_
   rintro e8 w8 ⟨A2,c2,D2,d2,rfl,X2,Y2,y2,y3,hb⟩
   have E1:=zc E1 hb
   have U1:=zc U1 hb
   have E2:=zh y2
   have U2:=zh y3
   refine hK.out _ _ (Below.trans hHeld (hb.mono (Below.size hHeld))) (fun hHeld=>?_)
   clear hK K hb y2 y3
   try simp only [zA,zB,zC,Act.put,zD,zE,zF]
   refine wpAnyH_ready (rs:=[6,7]) (by kernel_rfl) (by simp) ?_
   refine AllReadyH.cons (o:=_) rfl (fun K hK=>?_) (AllReadyH.cons (o:=_) rfl (fun K hK=>?_) AllReadyH.nil)
   ·skip
    rw [if_pos (by rfl)]
    refine wp_box_row (N:=7) rfl (cs:=#[.string ⟨#[]⟩,.int .i64 0,.slice none 0 0,.slice none 0 0,.int .u64 0,.int .u64 0,.string ⟨#[]⟩,.int .i64 0]) (t:=62) (by first | (go_simp;done) | (go_simp;rfl)) ?_
    intro g1 hg w9 hk hb
    have E1:=zc E1 hb
    have U1:=zc U1 hb
    have E2:=zc E2 hb
    have U2:=zc U2 hb
    have Kg1:=zh hk
    have Lg1 : Hid (wr.heap.size ≤ g1):=by rw [hg];exact Below.size hHeld
    refine hK.out _ _ (Below.trans hHeld (hb.mono (Below.size hHeld))) (fun hHeld=>?_)
    clear hK K hk hb hg
    try simp only [zA,zB,zC,Act.put,zD,zE,zF]
    refine wpAnyH_ready (rs:=[7]) (by kernel_rfl) (by simp) ?_
    refine AllReadyH.cons (o:=_) rfl (fun K hK=>?_) AllReadyH.nil
    rw [if_pos (by rfl)]
    refine wp_box_row (N:=8) rfl (cs:=#[.string ⟨#[]⟩,.int .i64 0,.slice none 0 0,.slice none 0 0,.int .u64 0,.int .u64 0,.string ⟨#[]⟩,.int .i64 0]) (t:=62) (by first | (go_simp;done) | (go_simp;rfl)) ?_
    intro g2 hg w9 hk hb
    have N12 : Hid (g1 ≠ g2):=by unfold Hid;have:=blk_lt Kg1.out;omega
    have E1:=zc E1 hb
    have U1:=zc U1 hb
    have E2:=zc E2 hb
    have U2:=zc U2 hb
    have Kg1:=zk Kg1 hb
    have Kg2:=zh hk
    have Lg2 : Hid (wr.heap.size ≤ g2):=by rw [hg];exact Below.size hHeld
    refine hK.out _ _ (Below.trans hHeld (hb.mono (Below.size hHeld))) (fun hHeld=>?_)
    clear hK K hk hb hg
    try simp only [zA,zB,zC,Act.put,zD,zE,zF]
    have hc:=CONT A1 D1 A2 D2 c1 d1 c2 d2 g1 g2 _ hHeld Kg1 Kg2 N12 Lg1 Lg2 X1 Y1 E1 U1 X2 Y2 E2 U2
    rw [hOP.out,haa.out] at hc
    try simp only [zA,zB,zC,Act.put,zD,zE,zF] at hc
    exact hc
   ·skip
    rw [if_pos (by rfl)]
    refine wp_box_row (N:=8) rfl (cs:=#[.string ⟨#[]⟩,.int .i64 0,.slice none 0 0,.slice none 0 0,.int .u64 0,.int .u64 0,.string ⟨#[]⟩,.int .i64 0]) (t:=62) (by first | (go_simp;done) | (go_simp;rfl)) ?_
    intro g2 hg w9 hk hb
    have E1:=zc E1 hb
    have U1:=zc U1 hb
    have E2:=zc E2 hb
    have U2:=zc U2 hb
    have Kg2:=zh hk
    have Lg2 : Hid (wr.heap.size ≤ g2):=by rw [hg];exact Below.size hHeld
    refine hK.out _ _ (Below.trans hHeld (hb.mono (Below.size hHeld))) (fun hHeld=>?_)
    clear hK K hk hb hg
    try simp only [zA,zB,zC,Act.put,zD,zE,zF]
    refine wpAnyH_ready (rs:=[6]) (by kernel_rfl) (by simp) ?_
    refine AllReadyH.cons (o:=_) rfl (fun K hK=>?_) AllReadyH.nil
    rw [if_pos (by rfl)]
    refine wp_box_row (N:=7) rfl (cs:=#[.string ⟨#[]⟩,.int .i64 0,.slice none 0 0,.slice none 0 0,.int .u64 0,.int .u64 0,.string ⟨#[]⟩,.int .i64 0]) (t:=62) (by first | (go_simp;done) | (go_simp;rfl)) ?_
    intro g1 hg w9 hk hb
    have N12 : Hid (g1 ≠ g2):=by unfold Hid;have:=blk_lt Kg2.out;omega
    have E1:=zc E1 hb
    have U1:=zc U1 hb
    have E2:=zc E2 hb
    have U2:=zc U2 hb
    have Kg2:=zk Kg2 hb
    have Kg1:=zh hk
    have Lg1 : Hid (wr.heap.size ≤ g1):=by rw [hg];exact Below.size hHeld
    refine hK.out _ _ (Below.trans hHeld (hb.mono (Below.size hHeld))) (fun hHeld=>?_)
    clear hK K hk hb hg
    try simp only [zA,zB,zC,Act.put,zD,zE,zF]
    have hc:=CONT A1 D1 A2 D2 c1 d1 c2 d2 g1 g2 _ hHeld Kg1 Kg2 N12 Lg1 Lg2 X1 Y1 E1 U1 X2 Y2 E2 U2
    rw [hOP.out,haa.out] at hc
    try simp only [zA,zB,zC,Act.put,zD,zE,zF] at hc
    exact hc
  ·skip
   rw [if_pos (by rfl)]
   refine wp_box_row (N:=7) rfl (cs:=#[.string ⟨#[]⟩,.int .i64 0,.slice none 0 0,.slice none 0 0,.int .u64 0,.int .u64 0,.string ⟨#[]⟩,.int .i64 0]) (t:=62) (by first | (go_simp;done) | (go_simp;rfl)) ?_
   intro g1 hg w9 hk hb
   have E1:=zc E1 hb
   have U1:=zc U1 hb
   have Kg1:=zh hk
   have Lg1 : Hid (wr.heap.size ≤ g1):=by rw [hg];exact Below.size hHeld
   refine hK.out _ _ (Below.trans hHeld (hb.mono (Below.size hHeld))) (fun hHeld=>?_)
   clear hK K hk hb hg
   try simp only [zA,zB,zC,Act.put,zD,zE,zF]
   refine wpAnyH_ready (rs:=[5,7]) (by kernel_rfl) (by simp) ?_
   refine AllReadyH.cons (o:=_) rfl (fun K hK=>?_) (AllReadyH.cons (o:=_) rfl (fun K hK=>?_) AllReadyH.nil)
   ·skip
    rw [if_pos (by rfl)]
    go_simp
    refine (HD2.out _ (Below.trans hw0 (Below.mono hHeld hw0.size))).mono ?_
    rintro e8 w8 ⟨A2,c2,D2,d2,rfl,X2,Y2,y2,y3,hb⟩
    have E1:=zc E1 hb
    have U1:=zc U1 hb
    have Kg1:=zk Kg1 hb
    have E2:=zh y2
    have U2:=zh y3
    refine hK.out _ _ (Below.trans hHeld (hb.mono (Below.size hHeld))) (fun hHeld=>?_)
    clear hK K hb y2 y3
    try simp only [zA,zB,zC,Act.put,zD,zE,zF]
    refine wpAnyH_ready (rs:=[7]) (by kernel_rfl) (by simp) ?_
    refine AllReadyH.cons (o:=_) rfl (fun K hK=>?_) AllReadyH.nil
    rw [if_pos (by rfl)]
    refine wp_box_row (N:=8) rfl (cs:=#[.string ⟨#[]⟩,.int .i64 0,.slice none 0 0,.slice none 0 0,.int .u64 0,.int .u64 0,.string ⟨#[]⟩,.int .i64 0]) (t:=62) (by first | (go_simp;done) | (go_simp;rfl)) ?_
    intro g2 hg w9 hk hb
    have N12 : Hid (g1 ≠ g2):=by unfold Hid;have:=blk_lt Kg1.out;omega
    have E1:=zc E1 hb
    have U1:=zc U1 hb
    have E2:=zc E2 hb
    have U2:=zc U2 hb
    have Kg1:=zk Kg1 hb
    have Kg2:=zh hk
    have Lg2 : Hid (wr.heap.size ≤ g2):=by rw [hg];exact Below.size hHeld
    refine hK.out _ _ (Below.trans hHeld (hb.mono (Below.size hHeld))) (fun hHeld=>?_)
    clear hK K hk hb hg
    try simp only [zA,zB,zC,Act.put,zD,zE,zF]
    have hc:=CONT A1 D1 A2 D2 c1 d1 c2 d2 g1 g2 _ hHeld Kg1 Kg2 N12 Lg1 Lg2 X1 Y1 E1 U1 X2 Y2 E2 U2
    rw [hOP.out,haa.out] at hc
    try simp only [zA,zB,zC,Act.put,zD,zE,zF] at hc
    exact hc
   ·skip
    rw [if_pos (by rfl)]
    refine wp_box_row (N:=8) rfl (cs:=#[.string ⟨#[]⟩,.int .i64 0,.slice none 0 0,.slice none 0 0,.int .u64 0,.int .u64 0,.string ⟨#[]⟩,.int .i64 0]) (t:=62) (by first | (go_simp;done) | (go_simp;rfl)) ?_
    intro g2 hg w9 hk hb
    have N12 : Hid (g1 ≠ g2):=by unfold Hid;have:=blk_lt Kg1.out;omega
    have E1:=zc E1 hb
    have U1:=zc U1 hb
    have Kg1:=zk Kg1 hb
    have Kg2:=zh hk
    have Lg2 : Hid (wr.heap.size ≤ g2):=by rw [hg];exact Below.size hHeld
    refine hK.out _ _ (Below.trans hHeld (hb.mono (Below.size hHeld))) (fun hHeld=>?_)
    clear hK K hk hb hg
    try simp only [zA,zB,zC,Act.put,zD,zE,zF]
    refine wpAnyH_ready (rs:=[5]) (by kernel_rfl) (by simp) ?_
    refine AllReadyH.cons (o:=_) rfl (fun K hK=>?_) AllReadyH.nil
    rw [if_pos (by rfl)]
    go_simp
    refine (HD2.out _ (Below.trans hw0 (Below.mono hHeld hw0.size))).mono ?_
    rintro e8 w8 ⟨A2,c2,D2,d2,rfl,X2,Y2,y2,y3,hb⟩
    have E1:=zc E1 hb
    have U1:=zc U1 hb
    have Kg1:=zk Kg1 hb
    have Kg2:=zk Kg2 hb
    have E2:=zh y2
    have U2:=zh y3
    refine hK.out _ _ (Below.trans hHeld (hb.mono (Below.size hHeld))) (fun hHeld=>?_)
    clear hK K hb y2 y3
    try simp only [zA,zB,zC,Act.put,zD,zE,zF]
    have hc:=CONT A1 D1 A2 D2 c1 d1 c2 d2 g1 g2 _ hHeld Kg1 Kg2 N12 Lg1 Lg2 X1 Y1 E1 U1 X2 Y2 E2 U2
    rw [hOP.out,haa.out] at hc
    try simp only [zA,zB,zC,Act.put,zD,zE,zF] at hc
    exact hc
  ·skip
   rw [if_pos (by rfl)]
   refine wp_box_row (N:=8) rfl (cs:=#[.string ⟨#[]⟩,.int .i64 0,.slice none 0 0,.slice none 0 0,.int .u64 0,.int .u64 0,.string ⟨#[]⟩,.int .i64 0]) (t:=62) (by first | (go_simp;done) | (go_simp;rfl)) ?_
   intro g2 hg w9 hk hb
   have E1:=zc E1 hb
   have U1:=zc U1 hb
   have Kg2:=zh hk
   have Lg2 : Hid (wr.heap.size ≤ g2):=by rw [hg];exact Below.size hHeld
   refine hK.out _ _ (Below.trans hHeld (hb.mono (Below.size hHeld))) (fun hHeld=>?_)
   clear hK K hk hb hg
   try simp only [zA,zB,zC,Act.put,zD,zE,zF]
   refine wpAnyH_ready (rs:=[5,6]) (by kernel_rfl) (by simp) ?_
   refine AllReadyH.cons (o:=_) rfl (fun K hK=>?_) (AllReadyH.cons (o:=_) rfl (fun K hK=>?_) AllReadyH.nil)
   ·skip
    rw [if_pos (by rfl)]
    go_simp
    refine (HD2.out _ (Below.trans hw0 (Below.mono hHeld hw0.size))).mono ?_
    rintro e8 w8 ⟨A2,c2,D2,d2,rfl,X2,Y2,y2,y3,hb⟩
    have E1:=zc E1 hb
    have U1:=zc U1 hb
    have Kg2:=zk Kg2 hb
    have E2:=zh y2
    have U2:=zh y3
    refine hK.out _ _ (Below.trans hHeld (hb.mono (Below.size hHeld))) (fun hHeld=>?_)
    clear hK K hb y2 y3
    try simp only [zA,zB,zC,Act.put,zD,zE,zF]
    refine wpAnyH_ready (rs:=[6]) (by kernel_rfl) (by simp) ?_
    refine AllReadyH.cons (o:=_) rfl (fun K hK=>?_) AllReadyH.nil
    rw [if_pos (by rfl)]
    refine wp_box_row (N:=7) rfl (cs:=#[.string ⟨#[]⟩,.int .i64 0,.slice none 0 0,.slice none 0 0,.int .u64 0,.int .u64 0,.string ⟨#[]⟩,.int .i64 0]) (t:=62) (by first | (go_simp;done) | (go_simp;rfl)) ?_
    intro g1 hg w9 hk hb
    have N12 : Hid (g1 ≠ g2):=by unfold Hid;have:=blk_lt Kg2.out;omega
    have E1:=zc E1 hb
    have U1:=zc U1 hb
    have E2:=zc E2 hb
    have U2:=zc U2 hb
    have Kg2:=zk Kg2 hb
    have Kg1:=zh hk
    have Lg1 : Hid (wr.heap.size ≤ g1):=by rw [hg];exact Below.size hHeld
    refine hK.out _ _ (Below.trans hHeld (hb.mono (Below.size hHeld))) (fun hHeld=>?_)
    clear hK K hk hb hg
    try simp only [zA,zB,zC,Act.put,zD,zE,zF]
    have hc:=CONT A1 D1 A2 D2 c1 d1 c2 d2 g1 g2 _ hHeld Kg1 Kg2 N12 Lg1 Lg2 X1 Y1 E1 U1 X2 Y2 E2 U2
    rw [hOP.out,haa.out] at hc
    try simp only [zA,zB,zC,Act.put,zD,zE,zF] at hc
    exact hc
   ·skip
    rw [if_pos (by rfl)]
    refine wp_box_row (N:=7) rfl (cs:=#[.string ⟨#[]⟩,.int .i64 0,.slice none 0 0,.slice none 0 0,.int .u64 0,.int .u64 0,.string ⟨#[]⟩,.int .i64 0]) (t:=62) (by first | (go_simp;done) | (go_simp;rfl)) ?_
    intro g1 hg w9 hk hb
    have N12 : Hid (g1 ≠ g2):=by unfold Hid;have:=blk_lt Kg2.out;omega
    have E1:=zc E1 hb
    have U1:=zc U1 hb
    have Kg2:=zk Kg2 hb
    have Kg1:=zh hk
    have Lg1 : Hid (wr.heap.size ≤ g1):=by rw [hg];exact Below.size hHeld
    refine hK.out _ _ (Below.trans hHeld (hb.mono (Below.size hHeld))) (fun hHeld=>?_)
    clear hK K hk hb hg
    try simp only [zA,zB,zC,Act.put,zD,zE,zF]
    refine wpAnyH_ready (rs:=[5]) (by kernel_rfl) (by simp) ?_
    refine AllReadyH.cons (o:=_) rfl (fun K hK=>?_) AllReadyH.nil
    rw [if_pos (by rfl)]
    go_simp
    refine (HD2.out _ (Below.trans hw0 (Below.mono hHeld hw0.size))).mono ?_
    rintro e8 w8 ⟨A2,c2,D2,d2,rfl,X2,Y2,y2,y3,hb⟩
    have E1:=zc E1 hb
    have U1:=zc U1 hb
    have Kg1:=zk Kg1 hb
    have Kg2:=zk Kg2 hb
    have E2:=zh y2
    have U2:=zh y3
    refine hK.out _ _ (Below.trans hHeld (hb.mono (Below.size hHeld))) (fun hHeld=>?_)
    clear hK K hb y2 y3
    try simp only [zA,zB,zC,Act.put,zD,zE,zF]
    have hc:=CONT A1 D1 A2 D2 c1 d1 c2 d2 g1 g2 _ hHeld Kg1 Kg2 N12 Lg1 Lg2 X1 Y1 E1 U1 X2 Y2 E2 U2
    rw [hOP.out,haa.out] at hc
    try simp only [zA,zB,zC,Act.put,zD,zE,zF] at hc
    exact hc
 ·skip
  rw [if_pos (by rfl)]
  refine wp_box_row (N:=7) rfl (cs:=#[.string ⟨#[]⟩,.int .i64 0,.slice none 0 0,.slice none 0 0,.int .u64 0,.int .u64 0,.string ⟨#[]⟩,.int .i64 0]) (t:=62) (by first | (go_simp;done) | (go_simp;rfl)) ?_
  intro g1 hg w9 hk hb
  have Kg1:=zh hk
  have Lg1 : Hid (wr.heap.size ≤ g1):=by rw [hg];exact Below.size hHeld
  refine hK.out _ _ (Below.trans hHeld (hb.mono (Below.size hHeld))) (fun hHeld=>?_)
  clear hK K hk hb hg
  try simp only [zA,zB,zC,Act.put,zD,zE,zF]
  refine wpAnyH_ready (rs:=[2,7]) (by kernel_rfl) (by simp) ?_
  refine AllReadyH.cons (o:=_) rfl (fun K hK=>?_) (AllReadyH.cons (o:=_) rfl (fun K hK=>?_) AllReadyH.nil)
  ·skip
   rw [if_pos (by rfl)]
   go_simp
   refine (HD1.out _ (Below.trans hw0 (Below.mono hHeld hw0.size))).mono ?_
   rintro e8 w8 ⟨A1,c1,D1,d1,rfl,X1,Y1,y2,y3,hb⟩
   have Kg1:=zk Kg1 hb
   have E1:=zh y2
   have U1:=zh y3
   refine hK.out _ _ (Below.trans hHeld (hb.mono (Below.size hHeld))) (fun hHeld=>?_)
   clear hK K hb y2 y3
   try simp only [zA,zB,zC,Act.put,zD,zE,zF]
   refine wpAnyH_ready (rs:=[5,7]) (by kernel_rfl) (by simp) ?_
   refine AllReadyH.cons (o:=_) rfl (fun K hK=>?_) (AllReadyH.cons (o:=_) rfl (fun K hK=>?_) AllReadyH.nil)
   ·skip
    rw [if_pos (by rfl)]
    go_simp
    refine (HD2.out _ (Below.trans hw0 (Below.mono hHeld hw0.size))).mono ?_
    rintro e8 w8 ⟨A2,c2,D2,d2,rfl,X2,Y2,y2,y3,hb⟩
    have E1:=zc E1 hb
    have U1:=zc U1 hb
    have Kg1:=zk Kg1 hb
    have E2:=zh y2
    have U2:=zh y3
    refine hK.out _ _ (Below.trans hHeld (hb.mono (Below.size hHeld))) (fun hHeld=>?_)
    clear hK K hb y2 y3
    try simp only [zA,zB,zC,Act.put,zD,zE,zF]
    refine wpAnyH_ready (rs:=[7]) (by kernel_rfl) (by simp) ?_
    refine AllReadyH.cons (o:=_) rfl (fun K hK=>?_) AllReadyH.nil
    rw [if_pos (by rfl)]
    refine wp_box_row (N:=8) rfl (cs:=#[.string ⟨#[]⟩,.int .i64 0,.slice none 0 0,.slice none 0 0,.int .u64 0,.int .u64 0,.string ⟨#[]⟩,.int .i64 0]) (t:=62) (by first | (go_simp;done) | (go_simp;rfl)) ?_
    intro g2 hg w9 hk hb
    have N12 : Hid (g1 ≠ g2):=by unfold Hid;have:=blk_lt Kg1.out;omega
    have E1:=zc E1 hb
    have U1:=zc U1 hb
    have E2:=zc E2 hb
    have U2:=zc U2 hb
    have Kg1:=zk Kg1 hb
    have Kg2:=zh hk
    have Lg2 : Hid (wr.heap.size ≤ g2):=by rw [hg];exact Below.size hHeld
    refine hK.out _ _ (Below.trans hHeld (hb.mono (Below.size hHeld))) (fun hHeld=>?_)
    clear hK K hk hb hg
    try simp only [zA,zB,zC,Act.put,zD,zE,zF]
    have hc:=CONT A1 D1 A2 D2 c1 d1 c2 d2 g1 g2 _ hHeld Kg1 Kg2 N12 Lg1 Lg2 X1 Y1 E1 U1 X2 Y2 E2 U2
    rw [hOP.out,haa.out] at hc
    try simp only [zA,zB,zC,Act.put,zD,zE,zF] at hc
    exact hc
   ·skip
    rw [if_pos (by rfl)]
    refine wp_box_row (N:=8) rfl (cs:=#[.string ⟨#[]⟩,.int .i64 0,.slice none 0 0,.slice none 0 0,.int .u64 0,.int .u64 0,.string ⟨#[]⟩,.int .i64 0]) (t:=62) (by first | (go_simp;done) | (go_simp;rfl)) ?_
    intro g2 hg w9 hk hb
    have N12 : Hid (g1 ≠ g2):=by unfold Hid;have:=blk_lt Kg1.out;omega
    have E1:=zc E1 hb
    have U1:=zc U1 hb
    have Kg1:=zk Kg1 hb
    have Kg2:=zh hk
    have Lg2 : Hid (wr.heap.size ≤ g2):=by rw [hg];exact Below.size hHeld
    refine hK.out _ _ (Below.trans hHeld (hb.mono (Below.size hHeld))) (fun hHeld=>?_)
    clear hK K hk hb hg
    try simp only [zA,zB,zC,Act.put,zD,zE,zF]
    refine wpAnyH_ready (rs:=[5]) (by kernel_rfl) (by simp) ?_
    refine AllReadyH.cons (o:=_) rfl (fun K hK=>?_) AllReadyH.nil
    rw [if_pos (by rfl)]
    go_simp
    refine (HD2.out _ (Below.trans hw0 (Below.mono hHeld hw0.size))).mono ?_
    rintro e8 w8 ⟨A2,c2,D2,d2,rfl,X2,Y2,y2,y3,hb⟩
    have E1:=zc E1 hb
    have U1:=zc U1 hb
    have Kg1:=zk Kg1 hb
    have Kg2:=zk Kg2 hb
    have E2:=zh y2
    have U2:=zh y3
    refine hK.out _ _ (Below.trans hHeld (hb.mono (Below.size hHeld))) (fun hHeld=>?_)
    clear hK K hb y2 y3
    try simp only [zA,zB,zC,Act.put,zD,zE,zF]
    have hc:=CONT A1 D1 A2 D2 c1 d1 c2 d2 g1 g2 _ hHeld Kg1 Kg2 N12 Lg1 Lg2 X1 Y1 E1 U1 X2 Y2 E2 U2
    rw [hOP.out,haa.out] at hc
    try simp only [zA,zB,zC,Act.put,zD,zE,zF] at hc
    exact hc
  ·skip
   rw [if_pos (by rfl)]
   refine wp_box_row (N:=8) rfl (cs:=#[.string ⟨#[]⟩,.int .i64 0,.slice none 0 0,.slice none 0 0,.int .u64 0,.int .u64 0,.string ⟨#[]⟩,.int .i64 0]) (t:=62) (by first | (go_simp;done) | (go_simp;rfl)) ?_
   intro g2 hg w9 hk hb
   have N12 : Hid (g1 ≠ g2):=by unfold Hid;have:=blk_lt Kg1.out;omega
   have Kg1:=zk Kg1 hb
   have Kg2:=zh hk
   have Lg2 : Hid (wr.heap.size ≤ g2):=by rw [hg];exact Below.size hHeld
   refine hK.out _ _ (Below.trans hHeld (hb.mono (Below.size hHeld))) (fun hHeld=>?_)
   clear hK K hk hb hg
   try simp only [zA,zB,zC,Act.put,zD,zE,zF]
   refine wpAnyH_ready (rs:=[2]) (by kernel_rfl) (by simp) ?_
   refine AllReadyH.cons (o:=_) rfl (fun K hK=>?_) AllReadyH.nil
   rw [if_pos (by rfl)]
   go_simp
   refine (HD1.out _ (Below.trans hw0 (Below.mono hHeld hw0.size))).mono ?_
   rintro e8 w8 ⟨A1,c1,D1,d1,rfl,X1,Y1,y2,y3,hb⟩
   have Kg1:=zk Kg1 hb
   have Kg2:=zk Kg2 hb
   have E1:=zh y2
   have U1:=zh y3
   refine hK.out _ _ (Below.trans hHeld (hb.mono (Below.size hHeld))) (fun hHeld=>?_)
   clear hK K hb y2 y3
   try simp only [zA,zB,zC,Act.put,zD,zE,zF]
   refine wpAnyH_ready (rs:=[5]) (by kernel_rfl) (by simp) ?_
   refine AllReadyH.cons (o:=_) rfl (fun K hK=>?_) AllReadyH.nil
   rw [if_pos (by rfl)]
   go_simp
   refine (HD2.out _ (Below.trans hw0 (Below.mono hHeld hw0.size))).mono ?_
   rintro e8 w8 ⟨A2,c2,D2,d2,rfl,X2,Y2,y2,y3,hb⟩
   have E1:=zc E1 hb
   have U1:=zc U1 hb
   have Kg1:=zk Kg1 hb
   have Kg2:=zk Kg2 hb
   have E2:=zh y2
   have U2:=zh y3
   refine hK.out _ _ (Below.trans hHeld (hb.mono (Below.size hHeld))) (fun hHeld=>?_)
   clear hK K hb y2 y3
   try simp only [zA,zB,zC,Act.put,zD,zE,zF]
   have hc:=CONT A1 D1 A2 D2 c1 d1 c2 d2 g1 g2 _ hHeld Kg1 Kg2 N12 Lg1 Lg2 X1 Y1 E1 U1 X2 Y2 E2 U2
   rw [hOP.out,haa.out] at hc
   try simp only [zA,zB,zC,Act.put,zD,zE,zF] at hc
   exact hc
 ·skip
  rw [if_pos (by rfl)]
  refine wp_box_row (N:=8) rfl (cs:=#[.string ⟨#[]⟩,.int .i64 0,.slice none 0 0,.slice none 0 0,.int .u64 0,.int .u64 0,.string ⟨#[]⟩,.int .i64 0]) (t:=62) (by first | (go_simp;done) | (go_simp;rfl)) ?_
  intro g2 hg w9 hk hb
  have Kg2:=zh hk
  have Lg2 : Hid (wr.heap.size ≤ g2):=by rw [hg];exact Below.size hHeld
  refine hK.out _ _ (Below.trans hHeld (hb.mono (Below.size hHeld))) (fun hHeld=>?_)
  clear hK K hk hb hg
  try simp only [zA,zB,zC,Act.put,zD,zE,zF]
  refine wpAnyH_ready (rs:=[2,6]) (by kernel_rfl) (by simp) ?_
  refine AllReadyH.cons (o:=_) rfl (fun K hK=>?_) (AllReadyH.cons (o:=_) rfl (fun K hK=>?_) AllReadyH.nil)
  ·skip
   rw [if_pos (by rfl)]
   go_simp
   refine (HD1.out _ (Below.trans hw0 (Below.mono hHeld hw0.size))).mono ?_
   rintro e8 w8 ⟨A1,c1,D1,d1,rfl,X1,Y1,y2,y3,hb⟩
   have Kg2:=zk Kg2 hb
   have E1:=zh y2
   have U1:=zh y3
   refine hK.out _ _ (Below.trans hHeld (hb.mono (Below.size hHeld))) (fun hHeld=>?_)
   clear hK K hb y2 y3
   try simp only [zA,zB,zC,Act.put,zD,zE,zF]
   refine wpAnyH_ready (rs:=[5,6]) (by kernel_rfl) (by simp) ?_
   refine AllReadyH.cons (o:=_) rfl (fun K hK=>?_) (AllReadyH.cons (o:=_) rfl (fun K hK=>?_) AllReadyH.nil)
   ·skip
    rw [if_pos (by rfl)]
    go_simp
    refine (HD2.out _ (Below.trans hw0 (Below.mono hHeld hw0.size))).mono ?_
    rintro e8 w8 ⟨A2,c2,D2,d2,rfl,X2,Y2,y2,y3,hb⟩
    have E1:=zc E1 hb
    have U1:=zc U1 hb
    have Kg2:=zk Kg2 hb
    have E2:=zh y2
    have U2:=zh y3
    refine hK.out _ _ (Below.trans hHeld (hb.mono (Below.size hHeld))) (fun hHeld=>?_)
    clear hK K hb y2 y3
    try simp only [zA,zB,zC,Act.put,zD,zE,zF]
    refine wpAnyH_ready (rs:=[6]) (by kernel_rfl) (by simp) ?_
    refine AllReadyH.cons (o:=_) rfl (fun K hK=>?_) AllReadyH.nil
    rw [if_pos (by rfl)]
    refine wp_box_row (N:=7) rfl (cs:=#[.string ⟨#[]⟩,.int .i64 0,.slice none 0 0,.slice none 0 0,.int .u64 0,.int .u64 0,.string ⟨#[]⟩,.int .i64 0]) (t:=62) (by first | (go_simp;done) | (go_simp;rfl)) ?_
    intro g1 hg w9 hk hb
    have N12 : Hid (g1 ≠ g2):=by unfold Hid;have:=blk_lt Kg2.out;omega
    have E1:=zc E1 hb
    have U1:=zc U1 hb
    have E2:=zc E2 hb
    have U2:=zc U2 hb
    have Kg2:=zk Kg2 hb
    have Kg1:=zh hk
    have Lg1 : Hid (wr.heap.size ≤ g1):=by rw [hg];exact Below.size hHeld
    refine hK.out _ _ (Below.trans hHeld (hb.mono (Below.size hHeld))) (fun hHeld=>?_)
    clear hK K hk hb hg
    try simp only [zA,zB,zC,Act.put,zD,zE,zF]
    have hc:=CONT A1 D1 A2 D2 c1 d1 c2 d2 g1 g2 _ hHeld Kg1 Kg2 N12 Lg1 Lg2 X1 Y1 E1 U1 X2 Y2 E2 U2
    rw [hOP.out,haa.out] at hc
    try simp only [zA,zB,zC,Act.put,zD,zE,zF] at hc
    exact hc
   ·skip
    rw [if_pos (by rfl)]
    refine wp_box_row (N:=7) rfl (cs:=#[.string ⟨#[]⟩,.int .i64 0,.slice none 0 0,.slice none 0 0,.int .u64 0,.int .u64 0,.string ⟨#[]⟩,.int .i64 0]) (t:=62) (by first | (go_simp;done) | (go_simp;rfl)) ?_
    intro g1 hg w9 hk hb
    have N12 : Hid (g1 ≠ g2):=by unfold Hid;have:=blk_lt Kg2.out;omega
    have E1:=zc E1 hb
    have U1:=zc U1 hb
    have Kg2:=zk Kg2 hb
    have Kg1:=zh hk
    have Lg1 : Hid (wr.heap.size ≤ g1):=by rw [hg];exact Below.size hHeld
    refine hK.out _ _ (Below.trans hHeld (hb.mono (Below.size hHeld))) (fun hHeld=>?_)
    clear hK K hk hb hg
    try simp only [zA,zB,zC,Act.put,zD,zE,zF]
    refine wpAnyH_ready (rs:=[5]) (by kernel_rfl) (by simp) ?_
    refine AllReadyH.cons (o:=_) rfl (fun K hK=>?_) AllReadyH.nil
    rw [if_pos (by rfl)]
    go_simp
    refine (HD2.out _ (Below.trans hw0 (Below.mono hHeld hw0.size))).mono ?_
    rintro e8 w8 ⟨A2,c2,D2,d2,rfl,X2,Y2,y2,y3,hb⟩
    have E1:=zc E1 hb
    have U1:=zc U1 hb
    have Kg1:=zk Kg1 hb
    have Kg2:=zk Kg2 hb
    have E2:=zh y2
    have U2:=zh y3
    refine hK.out _ _ (Below.trans hHeld (hb.mono (Below.size hHeld))) (fun hHeld=>?_)
    clear hK K hb y2 y3
    try simp only [zA,zB,zC,Act.put,zD,zE,zF]
    have hc:=CONT A1 D1 A2 D2 c1 d1 c2 d2 g1 g2 _ hHeld Kg1 Kg2 N12 Lg1 Lg2 X1 Y1 E1 U1 X2 Y2 E2 U2
    rw [hOP.out,haa.out] at hc
    try simp only [zA,zB,zC,Act.put,zD,zE,zF] at hc
    exact hc
  ·skip
   rw [if_pos (by rfl)]
   refine wp_box_row (N:=7) rfl (cs:=#[.string ⟨#[]⟩,.int .i64 0,.slice none 0 0,.slice none 0 0,.int .u64 0,.int .u64 0,.string ⟨#[]⟩,.int .i64 0]) (t:=62) (by first | (go_simp;done) | (go_simp;rfl)) ?_
   intro g1 hg w9 hk hb
   have N12 : Hid (g1 ≠ g2):=by unfold Hid;have:=blk_lt Kg2.out;omega
   have Kg2:=zk Kg2 hb
   have Kg1:=zh hk
   have Lg1 : Hid (wr.heap.size ≤ g1):=by rw [hg];exact Below.size hHeld
   refine hK.out _ _ (Below.trans hHeld (hb.mono (Below.size hHeld))) (fun hHeld=>?_)
   clear hK K hk hb hg
   try simp only [zA,zB,zC,Act.put,zD,zE,zF]
   refine wpAnyH_ready (rs:=[2]) (by kernel_rfl) (by simp) ?_
   refine AllReadyH.cons (o:=_) rfl (fun K hK=>?_) AllReadyH.nil
   rw [if_pos (by rfl)]
   go_simp
   refine (HD1.out _ (Below.trans hw0 (Below.mono hHeld hw0.size))).mono ?_
   rintro e8 w8 ⟨A1,c1,D1,d1,rfl,X1,Y1,y2,y3,hb⟩
   have Kg1:=zk Kg1 hb
   have Kg2:=zk Kg2 hb
   have E1:=zh y2
   have U1:=zh y3
   refine hK.out _ _ (Below.trans hHeld (hb.mono (Below.size hHeld))) (fun hHeld=>?_)
   clear hK K hb y2 y3
   try simp only [zA,zB,zC,Act.put,zD,zE,zF]
   refine wpAnyH_ready (rs:=[5]) (by kernel_rfl) (by simp) ?_
   refine AllReadyH.cons (o:=_) rfl (fun K hK=>?_) AllReadyH.nil
   rw [if_pos (by rfl)]
   go_simp
   refine (HD2.out _ (Below.trans hw0 (Below.mono hHeld hw0.size))).mono ?_
   rintro e8 w8 ⟨A2,c2,D2,d2,rfl,X2,Y2,y2,y3,hb⟩
   have E1:=zc E1 hb
   have U1:=zc U1 hb
   have Kg1:=zk Kg1 hb
   have Kg2:=zk Kg2 hb
   have E2:=zh y2
   have U2:=zh y3
   refine hK.out _ _ (Below.trans hHeld (hb.mono (Below.size hHeld))) (fun hHeld=>?_)
   clear hK K hb y2 y3
   try simp only [zA,zB,zC,Act.put,zD,zE,zF]
   have hc:=CONT A1 D1 A2 D2 c1 d1 c2 d2 g1 g2 _ hHeld Kg1 Kg2 N12 Lg1 Lg2 X1 Y1 E1 U1 X2 Y2 E2 U2
   rw [hOP.out,haa.out] at hc
   try simp only [zA,zB,zC,Act.put,zD,zE,zF] at hc
   exact hc
end
end Go.Proofs.YtekooapbdgippaaGreatDoor.Q
namespace Go.Proofs.YtekooapbdgippaaGreatDoor.Q
open Go.ChangeShapes Go.WideShapes Go.ChangeAt Go.WideMaps Go.WideElems Go.RowKit
set_option linter.unusedVariables false

theorem own : ownKnob Tryz.prog.godebug = none := by kernel_rfl
theorem laidOut : laidOutB Tryz.prog = true := by kernel_rfl
noncomputable abbrev laid3 := Rows.bucketOffRow.laid
/-- The door's own heap meets the condition. -/
theorem door_met (os : Os) (args : Array Value) : laidMetH Tryz.prog laid3 ((World.doorLaid Tryz.prog 400 os).forCall (fun _ _ => 0) ⟨#[], args, []⟩).memory :=
 laidMetH_of_parts3 (fuel := 8) (laidMet_of_run' 8 (by kernel_rfl) (by kernel_rfl)) (by kernel_rfl) (by kernel_rfl)
end Go.Proofs.YtekooapbdgippaaGreatDoor.Q
