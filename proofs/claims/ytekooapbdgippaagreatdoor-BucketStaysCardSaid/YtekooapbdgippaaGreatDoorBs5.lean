/- Whatever is done, one thing behind the other, from a new bucket on: it may be; what is refused changes nothing; each number is given out once; whatever the input, as the row says. Part 26 of 26. -/
import Derived.Test.YtekooapbdgippaaGreatDoorBs4
import Derived.Test.YtekooapbdgippaaGreatDoorBs1
import Derived.Test.YtekooapbdgippaaGreatDoorBs3
import Derived.Maps.OwnSet
import Derived.ProofKit
import Derived.Deep.Strs
import Derived.Lib.SmallJoins
import Derived.Test.YtekooapbdgippaaGreatDoorRows
import Derived.LaidMore
import Derived.OpenShut
import Derived.Stop.Joined
import Derived.Test.YtekooapbdgippaaGreatDoorTie
import Derived.Test.YtekooapbdgippaaGreatDoorCards
import Derived.WalkKit
import Derived.ShutString
import Derived.ChangeOld
import Derived.Below
import Derived.SizedLaws
import Derived.SevenTiedAt
namespace Go.Proofs.YtekooapbdgippaaGreatDoor.Q
open Go.RowKit Go.Proofs.YtekooapbdgippaaGreatDoorW.PrintWords Go.Proofs.YtekooapbdgippaaGreatDoorW.PrintLast Go.Proofs.YtekooapbdgippaaGreatDoorW.PrintMore
open List renaming getElem_toArray → zA, getElem_cons_zero → zB, getElem_cons_succ → zC, setIfInBounds_toArray → zD, set_cons_zero → zE, set_cons_succ → zF
set_option linter.unusedVariables false
set_option linter.unusedSimpArgs false
set_option maxHeartbeats 8000000
set_option maxRecDepth 100000
section
open Go.WideMaps Go.Maps
attribute [local go_sem] Oper.semAt_some
theorem one_P {w : World} {x : S43} {c : List Value} {g : Nat} (h : k43.K w x c) (hr : RawAt w ⟨g,0,none⟩ c) : Kd.C k43 w (some ⟨g,0,none⟩) 1 [x]:=by
 have:=rows_C (RowsOf.one_ x c h) (by simpa using hr) (by simp)
 simpa using this
theorem awake_gen (B1 B2 G B3 C D U1 U2 U3 : S26) (i6 q6 i8 q8 i13 q13 : Int) (s6 t11 : ByteArray) (m6 m8 m13 : Bool) (tg n9 n11 : Int) (h1 : laidR (⟨⟨#[98,111,120]⟩,0,[],[],0⟩ : S26) ⟨#[97]⟩ (fun l id=>putV l (⟨⟨#[98,111,120]⟩,0,[],[],0⟩ : S26).f1 ⟨id,⟨#[120]⟩,false,0⟩) = (B1,0,0)) (h2 : laidR B1 ⟨#[97]⟩ (fun l id=>putV l B1.f1 ⟨id,⟨#[121]⟩,false,0⟩) = (B2,0,0)) (h3 : laidR B2 ⟨#[97]⟩ (fun l id=>deleteV l B2.f1 id 0) = (G,0,0)) (h4 : turnB B2 1 = (B3,0)) (h5 : laidR B3 ⟨#[97]⟩ (fun l id=>deleteV l B3.f1 id 1) = (C,1,0)) (h6 : getB C ⟨#[97]⟩ = (⟨i6,s6,m6,q6⟩,13)) (h7 : dropB C ⟨#[97]⟩ 1 = (D,0)) (h8 : getB D ⟨#[97]⟩ = (⟨i8,⟨#[121]⟩,m8,q8⟩,0)) (h9 : beginB B3 ⟨#[107]⟩ = (U1,n9,0)) (h10 : layB U1 n9 ⟨1,⟨#[119,104,111,108,101]⟩⟩ = (U2,tg,0)) (h11 : wholeB U2 n9 [⟨1,tg⟩] 2 = (U3,n11,t11,0)) (h12 : getB U3 ⟨#[107]⟩ = (⟨i13,⟨#[119,104,111,108,101]⟩,m13,q13⟩,0)) (hg : G.f2.length = 0 ∧ G.f3.length = 0) (w : World) :
  Calls Tryz.prog 14 #[] w fun e w'=>e = .returned (.bool true) ∧ Below w.heap.size w w':=by
 have H0:=zh (fun (W : World)=>newB_ok ⟨#[98,111,120]⟩ W (by kernel_rfl))
 have H1 : Hid (∀ W,Calls Tryz.prog 19 #[.agg #[.string ⟨#[98,111,120]⟩,.int .i64 0,.slice none 0 0,.slice none 0 0,.int .u64 0],.string ⟨#[97]⟩,.string ⟨#[120]⟩,.int .i64 0] W (BkPost B1 [.int .u64 0,.int .i64 0] W)):=fun W=>by
  have x:=putB.walk (⟨⟨#[98,111,120]⟩,0,[],[],0⟩ : S26) none none 0 0 ⟨#[97]⟩ ⟨#[120]⟩ 0 W (C_mt _ _ _) (Nat.le_refl _) (C_mt _ _ _) (Nat.le_refl _)
  rw [h1] at x
  exact x
 have H2 : Hid (∀ (AB1 DB1 : Option Addr) (cB1 dB1 : Nat) (W : World),Kd.C k56 W AB1 B1.f2.length B1.f2 → B1.f2.length ≤ cB1 → Kd.C k101 W DB1 B1.f3.length B1.f3 → B1.f3.length ≤ dB1 → Calls Tryz.prog 19 #[.agg #[.string B1.f0,.int .i64 B1.f1,.slice AB1 B1.f2.length cB1,.slice DB1 B1.f3.length dB1,.int .u64 B1.f4],.string ⟨#[97]⟩,.string ⟨#[121]⟩,.int .i64 0] W (BkPost B2 [.int .u64 0,.int .i64 0] W)):=fun A D c d W e2 g2 e3 g3=>by
  have x:=putB.walk B1 A D c d ⟨#[97]⟩ ⟨#[121]⟩ 0 W e2 g2 e3 g3
  rw [h2] at x
  exact x
 have H3 : Hid (∀ (AB2 DB2 : Option Addr) (cB2 dB2 : Nat) (W : World),Kd.C k56 W AB2 B2.f2.length B2.f2 → B2.f2.length ≤ cB2 → Kd.C k101 W DB2 B2.f3.length B2.f3 → B2.f3.length ≤ dB2 → Calls Tryz.prog 39 #[.agg #[.string B2.f0,.int .i64 B2.f1,.slice AB2 B2.f2.length cB2,.slice DB2 B2.f3.length dB2,.int .u64 B2.f4],.string ⟨#[97]⟩,.int .i64 0] W (BkPost G [.int .u64 0,.int .i64 0] W)):=fun A D c d W e2 g2 e3 g3=>by
  have x:=delB.walk B2 A D c d ⟨#[97]⟩ 0 W e2 g2 e3 g3
  rw [h3] at x
  exact x
 have H4 : Hid (∀ (AB2 DB2 : Option Addr) (cB2 dB2 : Nat) (W : World),Kd.C k56 W AB2 B2.f2.length B2.f2 → B2.f2.length ≤ cB2 → Kd.C k101 W DB2 B2.f3.length B2.f3 → B2.f3.length ≤ dB2 → Calls Tryz.prog 27 #[.agg #[.string B2.f0,.int .i64 B2.f1,.slice AB2 B2.f2.length cB2,.slice DB2 B2.f3.length dB2,.int .u64 B2.f4],.int .i64 1] W (BkPost B3 [.int .i64 0] W)):=fun A D c d W e2 g2 e3 g3=>by
  have x:=turnB.walk B2 A D c d 1 W e2 g2 e3 g3
  rw [h4] at x
  exact x
 have H5 : Hid (∀ (AB3 DB3 : Option Addr) (cB3 dB3 : Nat) (W : World),Kd.C k56 W AB3 B3.f2.length B3.f2 → B3.f2.length ≤ cB3 → Kd.C k101 W DB3 B3.f3.length B3.f3 → B3.f3.length ≤ dB3 → Calls Tryz.prog 39 #[.agg #[.string B3.f0,.int .i64 B3.f1,.slice AB3 B3.f2.length cB3,.slice DB3 B3.f3.length dB3,.int .u64 B3.f4],.string ⟨#[97]⟩,.int .i64 1] W (BkPost C [.int .u64 1,.int .i64 0] W)):=fun A D c d W e2 g2 e3 g3=>by
  have x:=delB.walk B3 A D c d ⟨#[97]⟩ 1 W e2 g2 e3 g3
  rw [h5] at x
  exact x
 have H6 : Hid (∀ (AC DC : Option Addr) (cC dC : Nat) (W : World),Kd.C k56 W AC C.f2.length C.f2 → C.f2.length ≤ cC → Kd.C k101 W DC C.f3.length C.f3 → C.f3.length ≤ dC → Calls Tryz.prog 18 #[.agg #[.string C.f0,.int .i64 C.f1,.slice AC C.f2.length cC,.slice DC C.f3.length dC,.int .u64 C.f4],.string ⟨#[97]⟩] W (OnePost ⟨i6,s6,m6,q6⟩ 13 W)):=fun A D c d W e2 g2 e3 g3=>by
  have x:=getB.walk C A D c d ⟨#[97]⟩ W e2 g2 e3 g3
  rw [h6] at x
  exact x
 have H7 : Hid (∀ (AC DC : Option Addr) (cC dC : Nat) (W : World),Kd.C k56 W AC C.f2.length C.f2 → C.f2.length ≤ cC → Kd.C k101 W DC C.f3.length C.f3 → C.f3.length ≤ dC → Calls Tryz.prog 40 #[.agg #[.string C.f0,.int .i64 C.f1,.slice AC C.f2.length cC,.slice DC C.f3.length dC,.int .u64 C.f4],.string ⟨#[97]⟩,.int .u64 1] W (BkPost D [.int .i64 0] W)):=fun A D' c d W e2 g2 e3 g3=>by
  have x:=dropB.walk C A D' c d ⟨#[97]⟩ 1 W e2 g2 e3 g3
  rw [h7] at x
  exact x
 have H8 : Hid (∀ (AD DD : Option Addr) (cD dD : Nat) (W : World),Kd.C k56 W AD D.f2.length D.f2 → D.f2.length ≤ cD → Kd.C k101 W DD D.f3.length D.f3 → D.f3.length ≤ dD → Calls Tryz.prog 18 #[.agg #[.string D.f0,.int .i64 D.f1,.slice AD D.f2.length cD,.slice DD D.f3.length dD,.int .u64 D.f4],.string ⟨#[97]⟩] W (OnePost ⟨i8,⟨#[121]⟩,m8,q8⟩ 0 W)):=fun A D' c d W e2 g2 e3 g3=>by
  have x:=getB.walk D A D' c d ⟨#[97]⟩ W e2 g2 e3 g3
  rw [h8] at x
  exact x
 have H9 : Hid (∀ (AB3 DB3 : Option Addr) (cB3 dB3 : Nat) (W : World),Kd.C k56 W AB3 B3.f2.length B3.f2 → B3.f2.length ≤ cB3 → Kd.C k101 W DB3 B3.f3.length B3.f3 → B3.f3.length ≤ dB3 → Calls Tryz.prog 12 #[.agg #[.string B3.f0,.int .i64 B3.f1,.slice AB3 B3.f2.length cB3,.slice DB3 B3.f3.length dB3,.int .u64 B3.f4],.string ⟨#[107]⟩] W (BkPost U1 [.int .u64 n9,.int .i64 0] W)):=fun A D c d W e2 g2 e3 g3=>by
  have x:=beginB.walk B3 A D c d ⟨#[107]⟩ W e2 g2 e3 g3
  rw [h9] at x
  exact x
 have H10 : Hid (∀ (AU1 DU1 : Option Addr) (cU1 dU1 : Nat) (W : World),Kd.C k56 W AU1 U1.f2.length U1.f2 → U1.f2.length ≤ cU1 → Kd.C k101 W DU1 U1.f3.length U1.f3 → U1.f3.length ≤ dU1 → Calls Tryz.prog 15 #[.agg #[.string U1.f0,.int .i64 U1.f1,.slice AU1 U1.f2.length cU1,.slice DU1 U1.f3.length dU1,.int .u64 U1.f4],.int .u64 n9,.agg #[.int .i64 1,.string ⟨#[119,104,111,108,101]⟩]] W (BkPost U2 [.int .u32 tg,.int .i64 0] W)):=fun A D c d W e2 g2 e3 g3=>by
  have x:=layB.walk U1 A D c d n9 ⟨1,⟨#[119,104,111,108,101]⟩⟩ W e2 g2 e3 g3
  rw [h10] at x
  exact x
 have H11 : Hid (∀ (AU2 DU2 : Option Addr) (cU2 dU2 : Nat) (W : World),Kd.C k56 W AU2 U2.f2.length U2.f2 → U2.f2.length ≤ cU2 → Kd.C k101 W DU2 U2.f3.length U2.f3 → U2.f3.length ≤ dU2 → ∀ gl : Nat,W.heap[gl]? = some (.cells #[.int .i64 1,.int .u32 tg] 43 (0,0)) → Calls Tryz.prog 17 #[.agg #[.string U2.f0,.int .i64 U2.f1,.slice AU2 U2.f2.length cU2,.slice DU2 U2.f3.length dU2,.int .u64 U2.f4],.int .u64 n9,.slice (some ⟨gl,0,none⟩) 1 1,.int .i64 2] W (BkPost U3 [.int .u64 n11,.string t11,.int .i64 0] W)):=fun A D c d W e2 g2 e3 g3 gl kl=>by
  have x:=wholeB.walk U2 A D c d n9 [⟨1,tg⟩] (some ⟨gl,0,none⟩) 1 2 W e2 g2 e3 g3 (by show 1 < 100;decide) (one_P (k43_mk W (⟨1,tg⟩ : S43)) (blkRaw (cs:=[.int .i64 1,.int .u32 tg]) kl))
  rw [h11] at x
  exact x
 have H12 : Hid (∀ (AU3 DU3 : Option Addr) (cU3 dU3 : Nat) (W : World),Kd.C k56 W AU3 U3.f2.length U3.f2 → U3.f2.length ≤ cU3 → Kd.C k101 W DU3 U3.f3.length U3.f3 → U3.f3.length ≤ dU3 → Calls Tryz.prog 18 #[.agg #[.string U3.f0,.int .i64 U3.f1,.slice AU3 U3.f2.length cU3,.slice DU3 U3.f3.length dU3,.int .u64 U3.f4],.string ⟨#[107]⟩] W (OnePost ⟨i13,⟨#[119,104,111,108,101]⟩,m13,q13⟩ 0 W)):=fun A D c d W e2 g2 e3 g3=>by
  have x:=getB.walk U3 A D c d ⟨#[107]⟩ W e2 g2 e3 g3
  rw [h12] at x
  exact x
 have HE : Hid (∀ (AG DG : Option Addr) (cG dG : Nat) (W : World),Kd.C k56 W AG G.f2.length G.f2 → G.f2.length ≤ cG → Kd.C k101 W DG G.f3.length G.f3 → G.f3.length ≤ dG → Calls Tryz.prog 41 #[.agg #[.string G.f0,.int .i64 G.f1,.slice AG G.f2.length cG,.slice DG G.f3.length dG,.int .u64 G.f4]] W (fun e w'=>e = .returned (.bool true) ∧ Below W.heap.size W w')):=fun A D c d W e2 g2 e3 g3=>by
  have x:=bucket_Empty.calls G.f0 G.f1 A c G.f2 D d G.f3 G.f4 true W e2 g2 e3 g3 (by unfold bucket_Empty.f;rw [hg.1,hg.2];rfl)
  exact x
 have HB:=zh (Below.refl w.heap.size w)
 clear h1 h2 h3 h4 h5 h6 h7 h8 h9 h10 h11 h12 hg
 go_enter Tryz.func14,Tryz.ntmps14
 go_wp2_with (first
  | ((with_reducible refine gate_dst (N:=1) rfl ?_);go_must (refine zx HB (N:=1) (cs:=#[.string ⟨#[]⟩,.int .i64 0,.slice none 0 0,.slice none 0 0,.int .u64 0]) (t:=26) ?hr ?_;(case hr=>first | (go_simp;done) | (go_simp;rfl));intro gB wb0 KgB LgB HB hbelgB hqgB;have HD:=zh hbelgB;have WD:=zh (show _ ≤ gB by rw [hqgB];exact Nat.le_refl _);clear hbelgB hqgB))
  | ((with_reducible refine gate_dst (N:=7) rfl ?_);go_must (refine zx HB (N:=7) (cs:=#[.string ⟨#[]⟩,.int .i64 0,.slice none 0 0,.slice none 0 0,.int .u64 0]) (t:=26) ?hr ?_;(case hr=>first | (go_simp;done) | (go_simp;rfl));intro gG wb3 KgG LgG HB hbelgG hqgG;have NgBgG:=zh (show gB < gG by rw [hqgG];exact blk_lt KgB.out);have HD:=zh hbelgG;have WD:=zh (show _ ≤ gG by rw [hqgG];exact Nat.le_refl _);have KgB:=zk KgB hbelgG;clear hbelgG hqgG))
  | ((with_reducible refine gate_dst (N:=11) rfl ?_);go_must (refine zx HB (N:=11) (cs:=#[.string ⟨#[]⟩,.int .i64 0,.slice none 0 0,.slice none 0 0,.int .u64 0]) (t:=26) ?hr ?_;(case hr=>first | (go_simp;done) | (go_simp;rfl));intro gC wb5 KgC LgC HB hbelgC hqgC;have NgBgC:=zh (show gB < gC by rw [hqgC];exact blk_lt KgB.out);have NgGgC:=zh (show gG < gC by rw [hqgC];exact blk_lt KgG.out);have HD:=zh hbelgC;have WD:=zh (show _ ≤ gC by rw [hqgC];exact Nat.le_refl _);have KgB:=zk KgB hbelgC;have KgG:=zk KgG hbelgC;clear hbelgC hqgC))
  | ((with_reducible refine gate_dst (N:=14) rfl ?_);go_must (refine zx HB (N:=14) (cs:=#[.int .u64 0,.string ⟨#[]⟩,.bool false,.int .i64 0]) (t:=47) ?hr ?_;(case hr=>first | (go_simp;done) | (go_simp;rfl));intro gv wb6 Kgv Lgv HB hbelgv hqgv;have NgBgv:=zh (show gB < gv by rw [hqgv];exact blk_lt KgB.out);have NgGgv:=zh (show gG < gv by rw [hqgv];exact blk_lt KgG.out);have NgCgv:=zh (show gC < gv by rw [hqgv];exact blk_lt KgC.out);have HD:=zh hbelgv;have WD:=zh (show _ ≤ gv by rw [hqgv];exact Nat.le_refl _);have KgB:=zk KgB hbelgv;have KgG:=zk KgG hbelgv;have KgC:=zk KgC hbelgv;clear hbelgv hqgv))
  | ((with_reducible refine gate_dst (N:=16) rfl ?_);go_must (refine zx HB (N:=16) (cs:=#[.string ⟨#[]⟩,.int .i64 0,.slice none 0 0,.slice none 0 0,.int .u64 0]) (t:=26) ?hr ?_;(case hr=>first | (go_simp;done) | (go_simp;rfl));intro gD wb7 KgD LgD HB hbelgD hqgD;have NgBgD:=zh (show gB < gD by rw [hqgD];exact blk_lt KgB.out);have NgGgD:=zh (show gG < gD by rw [hqgD];exact blk_lt KgG.out);have NgCgD:=zh (show gC < gD by rw [hqgD];exact blk_lt KgC.out);have HD:=zh hbelgD;have WD:=zh (show _ ≤ gD by rw [hqgD];exact Nat.le_refl _);have KgB:=zk KgB hbelgD;have KgG:=zk KgG hbelgD;have KgC:=zk KgC hbelgD;clear hbelgD hqgD))
  | ((with_reducible refine gate_dst (N:=18) rfl ?_);go_must (refine zx HB (N:=18) (cs:=#[.int .u64 0,.string ⟨#[]⟩,.bool false,.int .i64 0]) (t:=47) ?hr ?_;(case hr=>first | (go_simp;done) | (go_simp;rfl));intro gV wb8 KgV LgV HB hbelgV hqgV;have NgBgV:=zh (show gB < gV by rw [hqgV];exact blk_lt KgB.out);have NgGgV:=zh (show gG < gV by rw [hqgV];exact blk_lt KgG.out);have NgDgV:=zh (show gD < gV by rw [hqgV];exact blk_lt KgD.out);have HD:=zh hbelgV;have WD:=zh (show _ ≤ gV by rw [hqgV];exact Nat.le_refl _);have KgB:=zk KgB hbelgV;have KgG:=zk KgG hbelgV;have KgD:=zk KgD hbelgV;clear hbelgV hqgV))
  | ((with_reducible refine gate_dst (N:=20) rfl ?_);go_must (refine zx HB (N:=20) (cs:=#[.string ⟨#[]⟩,.int .i64 0,.slice none 0 0,.slice none 0 0,.int .u64 0]) (t:=26) ?hr ?_;(case hr=>first | (go_simp;done) | (go_simp;rfl));intro gU wb9 KgU LgU HB hbelgU hqgU;have NgBgU:=zh (show gB < gU by rw [hqgU];exact blk_lt KgB.out);have NgGgU:=zh (show gG < gU by rw [hqgU];exact blk_lt KgG.out);have NgVgU:=zh (show gV < gU by rw [hqgU];exact blk_lt KgV.out);have HD:=zh hbelgU;have WD:=zh (show _ ≤ gU by rw [hqgU];exact Nat.le_refl _);have KgB:=zk KgB hbelgU;have KgG:=zk KgG hbelgU;have KgV:=zk KgV hbelgU;clear hbelgU hqgU))
  | ((with_reducible refine gate_dst (N:=28) rfl ?_);go_must (refine zx HB (N:=28) (cs:=#[.int .u64 0,.string ⟨#[]⟩,.bool false,.int .i64 0]) (t:=47) ?hr ?_;(case hr=>first | (go_simp;done) | (go_simp;rfl));intro gW wb12 KgW LgW HB hbelgW hqgW;have NgGgW:=zh (show gG < gW by rw [hqgW];exact blk_lt KgG.out);have NgVgW:=zh (show gV < gW by rw [hqgW];exact blk_lt KgV.out);have NgUgW:=zh (show gU < gW by rw [hqgW];exact blk_lt KgU.out);have HD:=zh hbelgW;have WD:=zh (show _ ≤ gW by rw [hqgW];exact Nat.le_refl _);have KgG:=zk KgG hbelgW;have KgV:=zk KgV hbelgW;have KgU:=zk KgU hbelgW;clear hbelgW hqgW))
  | ((with_reducible refine gate_dst (N:=98) rfl ?_);go_must (refine lit_event ?hg (N:=98) ?hd (cs:=#[.int .i64 1,.int .u32 tg]) (t:=43) 1 ?hr ?_;(case hd=>rfl);(case hg=>rfl);(case hr=>first | (go_simp;done) | (go_simp;rfl));intro gl hql wl hbl hbell;have Kl:=zh hbl;have HB:=keepB HB hbell;have KgG:=zk KgG hbell;have KgV:=zk KgV hbell;have KgU:=zk KgU hbell;have EG:=zc EG hbell;have UG:=zc UG hbell;have EU2:=zc EU2 hbell;have UU2:=zc UU2 hbell;obtain ⟨a0,a1,a2,a3,a4⟩:=zz5 KgU.out;clear hbl hbell hql))
  | (go_at_call 26;go_must (first
    | (refine (H0.out _).mono ?_;rintro e w' ⟨rfl,hb⟩;have HB:=keepB HB hb;clear hb)))
  | (go_at_call 19;go_must (first
    | (clear MK1;refine (H1.out _).mono ?_;rintro e w' ⟨v,rfl,⟨AB1,cB1,DB1,dB1,rfl,x2,x3,y2,y3⟩,hb⟩;have HB:=keepB HB hb;have KgB:=zk KgB hb;have XB1:=zh x2;have YB1:=zh x3;have EB1:=zh y2;have UB1:=zh y3;clear x2 x3 y2 y3;clear a0 a1 a2 a3 a4;clear hb)
    | (clear MK2;refine (H2.out AB1 DB1 cB1 dB1 _ EB1.out XB1.out UB1.out YB1.out).mono ?_;rintro e w' ⟨v,rfl,⟨AB2,cB2,DB2,dB2,rfl,x2,x3,y2,y3⟩,hb⟩;have HB:=keepB HB hb;have KgB:=zk KgB hb;have EB1:=zc EB1 hb;have UB1:=zc UB1 hb;have XB2:=zh x2;have YB2:=zh x3;have EB2:=zh y2;have UB2:=zh y3;clear x2 x3 y2 y3;clear a0 a1 a2 a3 a4;clear hb)))
  | (go_at_call 39;go_must (first
    | (clear MK3;refine (H3.out AB2 DB2 cB2 dB2 _ EB2.out XB2.out UB2.out YB2.out).mono ?_;rintro e w' ⟨v,rfl,⟨AG,cG,DG,dG,rfl,x2,x3,y2,y3⟩,hb⟩;have HB:=keepB HB hb;have KgB:=zk KgB hb;have EB2:=zc EB2 hb;have UB2:=zc UB2 hb;have XG:=zh x2;have YG:=zh x3;have EG:=zh y2;have UG:=zh y3;clear x2 x3 y2 y3;clear a0 a1 a2 a3 a4;clear hb)
    | (clear MK5;refine (H5.out AB3 DB3 cB3 dB3 _ EB3.out XB3.out UB3.out YB3.out).mono ?_;rintro e w' ⟨v,rfl,⟨AC,cC,DC,dC,rfl,x2,x3,y2,y3⟩,hb⟩;have HB:=keepB HB hb;have KgB:=zk KgB hb;have KgG:=zk KgG hb;have EB3:=zc EB3 hb;have UB3:=zc UB3 hb;have EG:=zc EG hb;have UG:=zc UG hb;have XC:=zh x2;have YC:=zh x3;have EC:=zh y2;have UC:=zh y3;clear x2 x3 y2 y3;clear a0 a1 a2 a3 a4;clear hb)))
  | (go_at_call 27;go_must (first
    | (clear MK4;refine (H4.out AB2 DB2 cB2 dB2 _ EB2.out XB2.out UB2.out YB2.out).mono ?_;rintro e w' ⟨v,rfl,⟨AB3,cB3,DB3,dB3,rfl,x2,x3,y2,y3⟩,hb⟩;have HB:=keepB HB hb;have KgB:=zk KgB hb;have KgG:=zk KgG hb;have EB2:=zc EB2 hb;have UB2:=zc UB2 hb;have EG:=zc EG hb;have UG:=zc UG hb;have XB3:=zh x2;have YB3:=zh x3;have EB3:=zh y2;have UB3:=zh y3;clear x2 x3 y2 y3;clear a0 a1 a2 a3 a4;clear hb)))
  | (go_at_call 18;go_must (first
    | (clear MK6;refine (H6.out AC DC cC dC _ EC.out XC.out UC.out YC.out).mono ?_;rintro e w' ⟨rfl,hb⟩;have HB:=keepB HB hb;have KgB:=zk KgB hb;have KgG:=zk KgG hb;have KgC:=zk KgC hb;have EB3:=zc EB3 hb;have UB3:=zc UB3 hb;have EG:=zc EG hb;have UG:=zc UG hb;have EC:=zc EC hb;have UC:=zc UC hb;clear a0 a1 a2 a3 a4;clear hb)
    | (clear MK8;refine (H8.out AD DD cD dD _ ED.out XD.out UD.out YD.out).mono ?_;rintro e w' ⟨rfl,hb⟩;have HB:=keepB HB hb;have KgB:=zk KgB hb;have KgG:=zk KgG hb;have KgD:=zk KgD hb;have EB3:=zc EB3 hb;have UB3:=zc UB3 hb;have EG:=zc EG hb;have UG:=zc UG hb;have ED:=zc ED hb;have UD:=zc UD hb;clear a0 a1 a2 a3 a4;clear hb)
    | (clear MK12;refine (H12.out AU3 DU3 cU3 dU3 _ EU3.out XU3.out UU3.out YU3.out).mono ?_;rintro e w' ⟨rfl,hb⟩;have HB:=keepB HB hb;have KgG:=zk KgG hb;have KgV:=zk KgV hb;have KgU:=zk KgU hb;have EG:=zc EG hb;have UG:=zc UG hb;have EU3:=zc EU3 hb;have UU3:=zc UU3 hb;clear a0 a1 a2 a3 a4;clear hb)))
  | (go_at_call 40;go_must (first
    | (clear MK7;refine (H7.out AC DC cC dC _ EC.out XC.out UC.out YC.out).mono ?_;rintro e w' ⟨v,rfl,⟨AD,cD,DD,dD,rfl,x2,x3,y2,y3⟩,hb⟩;have HB:=keepB HB hb;have KgB:=zk KgB hb;have KgG:=zk KgG hb;have KgC:=zk KgC hb;have EB3:=zc EB3 hb;have UB3:=zc UB3 hb;have EG:=zc EG hb;have UG:=zc UG hb;have EC:=zc EC hb;have UC:=zc UC hb;have XD:=zh x2;have YD:=zh x3;have ED:=zh y2;have UD:=zh y3;clear x2 x3 y2 y3;clear a0 a1 a2 a3 a4;clear hb)))
  | (go_at_call 12;go_must (first
    | (clear MK9;refine (H9.out AB3 DB3 cB3 dB3 _ EB3.out XB3.out UB3.out YB3.out).mono ?_;rintro e w' ⟨v,rfl,⟨AU1,cU1,DU1,dU1,rfl,x2,x3,y2,y3⟩,hb⟩;have HB:=keepB HB hb;have KgB:=zk KgB hb;have KgG:=zk KgG hb;have KgV:=zk KgV hb;have EB3:=zc EB3 hb;have UB3:=zc UB3 hb;have EG:=zc EG hb;have UG:=zc UG hb;have XU1:=zh x2;have YU1:=zh x3;have EU1:=zh y2;have UU1:=zh y3;clear x2 x3 y2 y3;clear a0 a1 a2 a3 a4;clear hb)))
  | (go_at_call 15;go_must (first
    | (clear MK10;refine (H10.out AU1 DU1 cU1 dU1 _ EU1.out XU1.out UU1.out YU1.out).mono ?_;rintro e w' ⟨v,rfl,⟨AU2,cU2,DU2,dU2,rfl,x2,x3,y2,y3⟩,hb⟩;have HB:=keepB HB hb;have KgG:=zk KgG hb;have KgV:=zk KgV hb;have KgU:=zk KgU hb;have EG:=zc EG hb;have UG:=zc UG hb;have EU1:=zc EU1 hb;have UU1:=zc UU1 hb;have XU2:=zh x2;have YU2:=zh x3;have EU2:=zh y2;have UU2:=zh y3;clear x2 x3 y2 y3;clear a0 a1 a2 a3 a4;clear hb)))
  | (go_at_call 17;go_must (first
    | (clear MK11;refine (H11.out AU2 DU2 cU2 dU2 _ EU2.out XU2.out UU2.out YU2.out gl Kl.out).mono ?_;rintro e w' ⟨v,rfl,⟨AU3,cU3,DU3,dU3,rfl,x2,x3,y2,y3⟩,hb⟩;have HB:=keepB HB hb;have KgG:=zk KgG hb;have KgV:=zk KgV hb;have KgU:=zk KgU hb;have EG:=zc EG hb;have UG:=zc UG hb;have EU2:=zc EU2 hb;have UU2:=zc UU2 hb;have XU3:=zh x2;have YU3:=zh x3;have EU3:=zh y2;have UU3:=zh y3;clear x2 x3 y2 y3;clear a0 a1 a2 a3 a4;clear hb)))
  | (go_at_call 41;go_must (refine (HE.out AG DG cG dG _ EG.out XG.out UG.out YG.out).mono ?_;rintro e w' ⟨rfl,hb⟩;have HB:=keepB HB hb;have KgV:=zk KgV hb;have KgW:=zk KgW hb;obtain ⟨b0,b1,b2,b3⟩:=zz4 KgV.out;obtain ⟨d0,d1,d2,d3⟩:=zz4 KgW.out;clear hb))
  | ((with_reducible refine gate_store (t:=26) (p:=1) (v:=.tmp 32) rfl ?_);go_must (refine zs 26 (.tmp 1) (.tmp 32) gB 0 26 [.string ⟨#[98,111,120]⟩,.int .i64 0,.slice none 0 0,.slice none 0 0,.int .u64 0] KgB isz_bucket ?_;intro ws0 hk ho;clear HD WD;have KgB : Hid (ws0.heap[gB]? = some (.cells #[.string ⟨#[98,111,120]⟩,.int .i64 0,.slice none 0 0,.slice none 0 0,.int .u64 0] 26 (0,0))):=hk;have HB:=zo ho HB LgB;obtain ⟨a0,a1,a2,a3,a4⟩:=zz5 KgB.out;have MK1:=zh True.intro;clear hk ho))
  | ((with_reducible refine gate_store (t:=26) (p:=1) (v:=.tmp 37) rfl ?_);go_must (refine zs 26 (.tmp 1) (.tmp 37) gB 0 26 [.string B1.f0,.int .i64 B1.f1,.slice AB1 B1.f2.length cB1,.slice DB1 B1.f3.length dB1,.int .u64 B1.f4] KgB isz_bucket ?_;intro ws1 hk ho;have EB1:=zh (keepE EB1.out KgB.out (bk_like _ _ _ _ _ _ _ _ _) ho.out);have UB1:=zh (keepU UB1.out KgB.out (bk_like _ _ _ _ _ _ _ _ _) ho.out);have KgB : Hid (ws1.heap[gB]? = some (.cells #[.string B1.f0,.int .i64 B1.f1,.slice AB1 B1.f2.length cB1,.slice DB1 B1.f3.length dB1,.int .u64 B1.f4] 26 (0,0))):=hk;have HB:=zo ho HB LgB;obtain ⟨a0,a1,a2,a3,a4⟩:=zz5 KgB.out;have MK2:=zh True.intro;clear hk ho))
  | ((with_reducible refine gate_store (t:=26) (p:=1) (v:=.tmp 43) rfl ?_);go_must (refine zs 26 (.tmp 1) (.tmp 43) gB 0 26 [.string B2.f0,.int .i64 B2.f1,.slice AB2 B2.f2.length cB2,.slice DB2 B2.f3.length dB2,.int .u64 B2.f4] KgB isz_bucket ?_;intro ws2 hk ho;have EB2:=zh (keepE EB2.out KgB.out (bk_like _ _ _ _ _ _ _ _ _) ho.out);have UB2:=zh (keepU UB2.out KgB.out (bk_like _ _ _ _ _ _ _ _ _) ho.out);have KgB : Hid (ws2.heap[gB]? = some (.cells #[.string B2.f0,.int .i64 B2.f1,.slice AB2 B2.f2.length cB2,.slice DB2 B2.f3.length dB2,.int .u64 B2.f4] 26 (0,0))):=hk;have HB:=zo ho HB LgB;obtain ⟨a0,a1,a2,a3,a4⟩:=zz5 KgB.out;have MK3:=zh True.intro;clear hk ho))
  | ((with_reducible refine gate_store (t:=26) (p:=7) (v:=.tmp 49) rfl ?_);go_must (refine zs 26 (.tmp 7) (.tmp 49) gG 0 26 [.string G.f0,.int .i64 G.f1,.slice AG G.f2.length cG,.slice DG G.f3.length dG,.int .u64 G.f4] KgG isz_bucket ?_;intro ws3 hk ho;have EB2:=zc EB2 (ho.out.below HD.out HD.out.size WD.out);have UB2:=zc UB2 (ho.out.below HD.out HD.out.size WD.out);have EG:=zc EG (ho.out.below HD.out HD.out.size WD.out);have UG:=zc UG (ho.out.below HD.out HD.out.size WD.out);clear HD WD;have KgG : Hid (ws3.heap[gG]? = some (.cells #[.string G.f0,.int .i64 G.f1,.slice AG G.f2.length cG,.slice DG G.f3.length dG,.int .u64 G.f4] 26 (0,0))):=hk;have HB:=zo ho HB LgG;have KgB:=zl ho KgB (by have:=NgBgG.out;omega);obtain ⟨a0,a1,a2,a3,a4⟩:=zz5 KgB.out;have MK4:=zh True.intro;clear hk ho))
  | ((with_reducible refine gate_store (t:=26) (p:=1) (v:=.tmp 55) rfl ?_);go_must (refine zs 26 (.tmp 1) (.tmp 55) gB 0 26 [.string B3.f0,.int .i64 B3.f1,.slice AB3 B3.f2.length cB3,.slice DB3 B3.f3.length dB3,.int .u64 B3.f4] KgB isz_bucket ?_;intro ws4 hk ho;have EB3:=zh (keepE EB3.out KgB.out (bk_like _ _ _ _ _ _ _ _ _) ho.out);have UB3:=zh (keepU UB3.out KgB.out (bk_like _ _ _ _ _ _ _ _ _) ho.out);have EG:=zh (keepE EG.out KgB.out (bk_like _ _ _ _ _ _ _ _ _) ho.out);have UG:=zh (keepU UG.out KgB.out (bk_like _ _ _ _ _ _ _ _ _) ho.out);have KgB : Hid (ws4.heap[gB]? = some (.cells #[.string B3.f0,.int .i64 B3.f1,.slice AB3 B3.f2.length cB3,.slice DB3 B3.f3.length dB3,.int .u64 B3.f4] 26 (0,0))):=hk;have HB:=zo ho HB LgB;have KgG:=zl ho KgG (by have:=NgBgG.out;omega);obtain ⟨a0,a1,a2,a3,a4⟩:=zz5 KgB.out;have MK5:=zh True.intro;clear hk ho))
  | ((with_reducible refine gate_store (t:=26) (p:=11) (v:=.tmp 60) rfl ?_);go_must (refine zs 26 (.tmp 11) (.tmp 60) gC 0 26 [.string C.f0,.int .i64 C.f1,.slice AC C.f2.length cC,.slice DC C.f3.length dC,.int .u64 C.f4] KgC isz_bucket ?_;intro ws5 hk ho;have EB3:=zc EB3 (ho.out.below HD.out HD.out.size WD.out);have UB3:=zc UB3 (ho.out.below HD.out HD.out.size WD.out);have EG:=zc EG (ho.out.below HD.out HD.out.size WD.out);have UG:=zc UG (ho.out.below HD.out HD.out.size WD.out);have EC:=zc EC (ho.out.below HD.out HD.out.size WD.out);have UC:=zc UC (ho.out.below HD.out HD.out.size WD.out);clear HD WD;have KgC : Hid (ws5.heap[gC]? = some (.cells #[.string C.f0,.int .i64 C.f1,.slice AC C.f2.length cC,.slice DC C.f3.length dC,.int .u64 C.f4] 26 (0,0))):=hk;have HB:=zo ho HB LgC;have KgB:=zl ho KgB (by have:=NgBgC.out;omega);have KgG:=zl ho KgG (by have:=NgGgC.out;omega);obtain ⟨a0,a1,a2,a3,a4⟩:=zz5 KgC.out;have MK6:=zh True.intro;clear hk ho))
  | ((with_reducible refine gate_store (t:=47) (p:=14) (v:=.tmp 66) rfl ?_);go_must (refine zs 47 (.tmp 14) (.tmp 66) gv 0 47 [.int .u64 i6,.string s6,.bool m6,.int .i64 q6] Kgv (by kernel_rfl) ?_;intro ws6 hk ho;have EB3:=zc EB3 (ho.out.below HD.out HD.out.size WD.out);have UB3:=zc UB3 (ho.out.below HD.out HD.out.size WD.out);have EG:=zc EG (ho.out.below HD.out HD.out.size WD.out);have UG:=zc UG (ho.out.below HD.out HD.out.size WD.out);have EC:=zc EC (ho.out.below HD.out HD.out.size WD.out);have UC:=zc UC (ho.out.below HD.out HD.out.size WD.out);clear HD WD;have Kgv : Hid (ws6.heap[gv]? = some (.cells #[.int .u64 i6,.string s6,.bool m6,.int .i64 q6] 47 (0,0))):=hk;have HB:=zo ho HB Lgv;have KgB:=zl ho KgB (by have:=NgBgv.out;omega);have KgG:=zl ho KgG (by have:=NgGgv.out;omega);have KgC:=zl ho KgC (by have:=NgCgv.out;omega);obtain ⟨a0,a1,a2,a3,a4⟩:=zz5 KgC.out;have MK7:=zh True.intro;clear hk ho))
  | ((with_reducible refine gate_store (t:=26) (p:=16) (v:=.tmp 72) rfl ?_);go_must (refine zs 26 (.tmp 16) (.tmp 72) gD 0 26 [.string D.f0,.int .i64 D.f1,.slice AD D.f2.length cD,.slice DD D.f3.length dD,.int .u64 D.f4] KgD isz_bucket ?_;intro ws7 hk ho;have EB3:=zc EB3 (ho.out.below HD.out HD.out.size WD.out);have UB3:=zc UB3 (ho.out.below HD.out HD.out.size WD.out);have EG:=zc EG (ho.out.below HD.out HD.out.size WD.out);have UG:=zc UG (ho.out.below HD.out HD.out.size WD.out);have ED:=zc ED (ho.out.below HD.out HD.out.size WD.out);have UD:=zc UD (ho.out.below HD.out HD.out.size WD.out);clear HD WD;have KgD : Hid (ws7.heap[gD]? = some (.cells #[.string D.f0,.int .i64 D.f1,.slice AD D.f2.length cD,.slice DD D.f3.length dD,.int .u64 D.f4] 26 (0,0))):=hk;have HB:=zo ho HB LgD;have KgB:=zl ho KgB (by have:=NgBgD.out;omega);have KgG:=zl ho KgG (by have:=NgGgD.out;omega);obtain ⟨a0,a1,a2,a3,a4⟩:=zz5 KgD.out;have MK8:=zh True.intro;clear hk ho))
  | ((with_reducible refine gate_store (t:=47) (p:=18) (v:=.tmp 77) rfl ?_);go_must (refine zs 47 (.tmp 18) (.tmp 77) gV 0 47 [.int .u64 i8,.string ⟨#[121]⟩,.bool m8,.int .i64 q8] KgV (by kernel_rfl) ?_;intro ws8 hk ho;have EB3:=zc EB3 (ho.out.below HD.out HD.out.size WD.out);have UB3:=zc UB3 (ho.out.below HD.out HD.out.size WD.out);have EG:=zc EG (ho.out.below HD.out HD.out.size WD.out);have UG:=zc UG (ho.out.below HD.out HD.out.size WD.out);clear HD WD;have KgV : Hid (ws8.heap[gV]? = some (.cells #[.int .u64 i8,.string ⟨#[121]⟩,.bool m8,.int .i64 q8] 47 (0,0))):=hk;have HB:=zo ho HB LgV;have KgB:=zl ho KgB (by have:=NgBgV.out;omega);have KgG:=zl ho KgG (by have:=NgGgV.out;omega);obtain ⟨a0,a1,a2,a3,a4⟩:=zz5 KgB.out;have MK9:=zh True.intro;clear hk ho))
  | ((with_reducible refine gate_store (t:=26) (p:=20) (v:=.tmp 82) rfl ?_);go_must (refine zs 26 (.tmp 20) (.tmp 82) gU 0 26 [.string U1.f0,.int .i64 U1.f1,.slice AU1 U1.f2.length cU1,.slice DU1 U1.f3.length dU1,.int .u64 U1.f4] KgU isz_bucket ?_;intro ws9 hk ho;have EG:=zc EG (ho.out.below HD.out HD.out.size WD.out);have UG:=zc UG (ho.out.below HD.out HD.out.size WD.out);have EU1:=zc EU1 (ho.out.below HD.out HD.out.size WD.out);have UU1:=zc UU1 (ho.out.below HD.out HD.out.size WD.out);clear HD WD;have KgU : Hid (ws9.heap[gU]? = some (.cells #[.string U1.f0,.int .i64 U1.f1,.slice AU1 U1.f2.length cU1,.slice DU1 U1.f3.length dU1,.int .u64 U1.f4] 26 (0,0))):=hk;have HB:=zo ho HB LgU;have KgG:=zl ho KgG (by have:=NgGgU.out;omega);have KgV:=zl ho KgV (by have:=NgVgU.out;omega);obtain ⟨a0,a1,a2,a3,a4⟩:=zz5 KgU.out;have MK10:=zh True.intro;clear hk ho))
  | ((with_reducible refine gate_store (t:=26) (p:=20) (v:=.tmp 90) rfl ?_);go_must (refine zs 26 (.tmp 20) (.tmp 90) gU 0 26 [.string U2.f0,.int .i64 U2.f1,.slice AU2 U2.f2.length cU2,.slice DU2 U2.f3.length dU2,.int .u64 U2.f4] KgU isz_bucket ?_;intro ws10 hk ho;have EG:=zh (keepE EG.out KgU.out (bk_like _ _ _ _ _ _ _ _ _) ho.out);have UG:=zh (keepU UG.out KgU.out (bk_like _ _ _ _ _ _ _ _ _) ho.out);have EU2:=zh (keepE EU2.out KgU.out (bk_like _ _ _ _ _ _ _ _ _) ho.out);have UU2:=zh (keepU UU2.out KgU.out (bk_like _ _ _ _ _ _ _ _ _) ho.out);have KgU : Hid (ws10.heap[gU]? = some (.cells #[.string U2.f0,.int .i64 U2.f1,.slice AU2 U2.f2.length cU2,.slice DU2 U2.f3.length dU2,.int .u64 U2.f4] 26 (0,0))):=hk;have HB:=zo ho HB LgU;have KgG:=zl ho KgG (by have:=NgGgU.out;omega);have KgV:=zl ho KgV (by have:=NgVgU.out;omega);obtain ⟨a0,a1,a2,a3,a4⟩:=zz5 KgU.out;have MK11:=zh True.intro;clear hk ho))
  | ((with_reducible refine gate_store (t:=26) (p:=20) (v:=.tmp 100) rfl ?_);go_must (refine zs 26 (.tmp 20) (.tmp 100) gU 0 26 [.string U3.f0,.int .i64 U3.f1,.slice AU3 U3.f2.length cU3,.slice DU3 U3.f3.length dU3,.int .u64 U3.f4] KgU isz_bucket ?_;intro ws11 hk ho;have EG:=zh (keepE EG.out KgU.out (bk_like _ _ _ _ _ _ _ _ _) ho.out);have UG:=zh (keepU UG.out KgU.out (bk_like _ _ _ _ _ _ _ _ _) ho.out);have EU3:=zh (keepE EU3.out KgU.out (bk_like _ _ _ _ _ _ _ _ _) ho.out);have UU3:=zh (keepU UU3.out KgU.out (bk_like _ _ _ _ _ _ _ _ _) ho.out);have KgU : Hid (ws11.heap[gU]? = some (.cells #[.string U3.f0,.int .i64 U3.f1,.slice AU3 U3.f2.length cU3,.slice DU3 U3.f3.length dU3,.int .u64 U3.f4] 26 (0,0))):=hk;have HB:=zo ho HB LgU;have KgG:=zl ho KgG (by have:=NgGgU.out;omega);have KgV:=zl ho KgV (by have:=NgVgU.out;omega);obtain ⟨a0,a1,a2,a3,a4⟩:=zz5 KgU.out;have MK12:=zh True.intro;clear hk ho))
  | ((with_reducible refine gate_store (t:=47) (p:=28) (v:=.tmp 107) rfl ?_);go_must (refine zs 47 (.tmp 28) (.tmp 107) gW 0 47 [.int .u64 i13,.string ⟨#[119,104,111,108,101]⟩,.bool m13,.int .i64 q13] KgW (by kernel_rfl) ?_;intro ws12 hk ho;have EG:=zc EG (ho.out.below HD.out HD.out.size WD.out);have UG:=zc UG (ho.out.below HD.out HD.out.size WD.out);clear HD WD;have KgW : Hid (ws12.heap[gW]? = some (.cells #[.int .u64 i13,.string ⟨#[119,104,111,108,101]⟩,.bool m13,.int .i64 q13] 47 (0,0))):=hk;have HB:=zo ho HB LgW;have KgG:=zl ho KgG (by have:=NgGgW.out;omega);have KgV:=zl ho KgV (by have:=NgVgW.out;omega);have MK13:=zh True.intro;obtain ⟨a0,a1,a2,a3,a4⟩:=zz5 KgG.out;obtain ⟨b0,b1,b2,b3⟩:=zz4 KgV.out;obtain ⟨d0,d1,d2,d3⟩:=zz4 KgW.out;clear hk ho)))
 refine bodyPost_ret (v:=.bool true) (by simp [results,Tryz.results14,go_sem]) rfl ?_
 exact ⟨rfl,HB.out⟩
end
section
open Go.WideMaps Go.Maps
def aB1 : S26:=(laidR (⟨⟨#[98,111,120]⟩,0,[],[],0⟩ : S26) ⟨#[97]⟩ (fun l id=>putV l (⟨⟨#[98,111,120]⟩,0,[],[],0⟩ : S26).f1 ⟨id,⟨#[120]⟩,false,0⟩)).1
def aB2 : S26:=(laidR aB1 ⟨#[97]⟩ (fun l id=>putV l aB1.f1 ⟨id,⟨#[121]⟩,false,0⟩)).1
def aG : S26:=(laidR aB2 ⟨#[97]⟩ (fun l id=>deleteV l aB2.f1 id 0)).1
def aB3 : S26:=(turnB aB2 1).1
def aC : S26:=(laidR aB3 ⟨#[97]⟩ (fun l id=>deleteV l aB3.f1 id 1)).1
def aD : S26:=(dropB aC ⟨#[97]⟩ 1).1
def aU1 : S26:=(beginB aB3 ⟨#[107]⟩).1
def aU2 : S26:=(layB aU1 (beginB aB3 ⟨#[107]⟩).2.1 ⟨1,⟨#[119,104,111,108,101]⟩⟩).1
def aU3 : S26:=(wholeB aU2 (beginB aB3 ⟨#[107]⟩).2.1 [⟨1,(layB aU1 (beginB aB3 ⟨#[107]⟩).2.1 ⟨1,⟨#[119,104,111,108,101]⟩⟩).2.1⟩] 2).1
theorem awake.walk (w : World) : Calls Tryz.prog 14 #[] w fun e w'=>e = .returned (.bool true) ∧ Below w.heap.size w w' :=
 awake_gen aB1 aB2 aG aB3 aC aD aU1 aU2 aU3 (getB aC ⟨#[97]⟩).1.f0 (getB aC ⟨#[97]⟩).1.f3 (getB aD ⟨#[97]⟩).1.f0 (getB aD ⟨#[97]⟩).1.f3 (getB aU3 ⟨#[107]⟩).1.f0 (getB aU3 ⟨#[107]⟩).1.f3 (getB aC ⟨#[97]⟩).1.f1 (wholeB aU2 (beginB aB3 ⟨#[107]⟩).2.1 [⟨1,(layB aU1 (beginB aB3 ⟨#[107]⟩).2.1 ⟨1,⟨#[119,104,111,108,101]⟩⟩).2.1⟩] 2).2.2.1 (getB aC ⟨#[97]⟩).1.f2 (getB aD ⟨#[97]⟩).1.f2 (getB aU3 ⟨#[107]⟩).1.f2 ((layB aU1 (beginB aB3 ⟨#[107]⟩).2.1 ⟨1,⟨#[119,104,111,108,101]⟩⟩).2.1) ((beginB aB3 ⟨#[107]⟩).2.1) (wholeB aU2 (beginB aB3 ⟨#[107]⟩).2.1 [⟨1,(layB aU1 (beginB aB3 ⟨#[107]⟩).2.1 ⟨1,⟨#[119,104,111,108,101]⟩⟩).2.1⟩] 2).2.1
  (by kernel_rfl) (by kernel_rfl) (by kernel_rfl) (by kernel_rfl) (by kernel_rfl) (by kernel_rfl) (by kernel_rfl) (by kernel_rfl) (by kernel_rfl) (by kernel_rfl) (by kernel_rfl) (by kernel_rfl) ⟨by kernel_rfl,by kernel_rfl⟩ w
end
section
open Go.WideMaps Go.Maps
attribute [local go_sem] Oper.semAt_some
def cutS (n : Nat) (s : ByteArray) : ByteArray:=if n < s.size then s.extract 0 n else s
theorem few_cut (s : ByteArray) : cellarerlaw01_Few.f s = some (cutS 80 s):=by
 unfold cellarerlaw01_Few.f cutS
 by_cases h : 80 < s.size
 ·rw [if_pos (by omega),if_pos (by decide),if_pos (by omega),if_pos h]
 ·rw [if_neg (by omega),if_neg h]
theorem cut_00 (kd id n q : Int) (key data : ByteArray) (A : Option Addr) (m c : Nat) (w : World) (hm : m ≤ c) (hd : data.size ≤ 2001) (hp : m ≤ 40) :
  Calls Tryz.prog 22 #[.agg #[.int .u8 kd,.string key,.string data,.int .u64 id,.int .i64 n,.int .i64 q,.slice A m c]] w fun e w'=>e = .returned (.agg #[.int .u8 kd,.string (cutS 80 key),.string data,.int .u64 id,.int .i64 n,.int .i64 q,.slice A m c]) ∧ Below w.heap.size w w':=by
 have HF:=zh (fun (W : World)=>cellarerlaw01_Few.calls key _ W (few_cut key))
 have d0 : decide ((2001 : Int) < (data.size : Int)) = false:=decide_eq_false (by omega)
 have d1 : decide ((data.size : Int) > 2001) = false:=decide_eq_false (by omega)
 have d2 : ¬ 2001 < data.size:=by omega
 have p0 : decide ((40 : Int) < (m : Int)) = false:=decide_eq_false (by omega)
 have p1 : decide ((m : Int) > 40) = false:=decide_eq_false (by omega)
 have p2 : ¬ 40 < m:=by omega
 have HB:=zh (Below.refl w.heap.size w)
 have l1 : True:=trivial
 have l2 : True:=trivial
 have l3 : True:=trivial
 go_enter Tryz.func22,Tryz.ntmps22
 go_wp2_with (first
  | ((with_reducible refine gate_dst (N:=1) rfl ?_);go_must (refine zx HB (N:=1) (cs:=#[.int .u8 kd,.string key,.string data,.int .u64 id,.int .i64 n,.int .i64 q,.slice A m c]) (t:=59) ?hr ?_;(case hr=>first | (go_simp;done) | (go_simp;rfl));intro gb w1 Kgb Lgb HB hbelgb hqgb;clear hbelgb hqgb))
  | ((with_reducible refine gate_dst (N:=2) rfl ?_);go_must (refine zx HB (N:=2) (cs:=#[.int .u8 0,.string ⟨#[]⟩,.string ⟨#[]⟩,.int .u64 0,.int .i64 0,.int .i64 0,.slice none 0 0]) (t:=59) ?hr ?_;(case hr=>first | (go_simp;done) | (go_simp;rfl));intro go w2 Kgo Lgo HB hbelgo hqgo;have M2:=zh (show gb < go by rw [hqgo];exact blk_lt Kgb.out);have Kgb:=zk Kgb hbelgo;obtain ⟨a0,a1,a2,a3,a4,a5,a6⟩:=zz7 Kgb.out;clear hbelgo hqgo))
  | (go_at_call 11;go_must (refine (HF.out _).mono ?_;rintro e w3 ⟨rfl,hb⟩;have hb:=outD hb;have HB:=keepB HB hb;have Kgb:=zk Kgb hb;have Kgo:=zk Kgo hb;clear hb a0 a1 a2 a3 a4 a5 a6))
  | ((with_reducible refine gate_store (t:=9) (p:=6) (v:=.tmp 5) rfl ?_);go_must (refine zq 9 (.tmp 6) (.tmp 5) gb 1 59 (.string (cutS 80 key)) Kgb (by kernel_rfl) ?_;intro w4 hk ho;have Kgb : Hid (w4.heap[gb]? = some (.cells #[.int .u8 kd,.string (cutS 80 key),.string data,.int .u64 id,.int .i64 n,.int .i64 q,.slice A m c] 59 (0,0))):=hk;have HB:=zo ho HB Lgb;have Kgo:=zl ho Kgo (by have:=M2.out;omega);obtain ⟨b0,b1,b2,b3,b4,b5,b6⟩:=zz7 Kgb.out;clear hk ho))
  | ((with_reducible refine gate_store (t:=59) (p:=2) (v:=.tmp 23) rfl ?_);go_must (refine zs 59 (.tmp 2) (.tmp 23) go 0 59 [.int .u8 kd,.string (cutS 80 key),.string data,.int .u64 id,.int .i64 n,.int .i64 q,.slice A m c] Kgo (by kernel_rfl) ?_;intro w7 hk ho;have HB:=zo ho HB Lgo;obtain ⟨z0,z1,z2,z3,z4,z5,z6⟩:=zz7 hk.out;clear hk ho)))
 refine bodyPost_ret (v:=.agg #[.int .u8 kd,.string (cutS 80 key),.string data,.int .u64 id,.int .i64 n,.int .i64 q,.slice A m c]) (by simp [results,Tryz.results22,go_sem,z0,z1,z2,z3,z4,z5,z6]) rfl ?_
 exact ⟨rfl,HB.out⟩
theorem cut_10 (kd id n q : Int) (key data : ByteArray) (A : Option Addr) (m c : Nat) (w : World) (hm : m ≤ c) (hd : 2001 < data.size) (hp : m ≤ 40) :
  Calls Tryz.prog 22 #[.agg #[.int .u8 kd,.string key,.string data,.int .u64 id,.int .i64 n,.int .i64 q,.slice A m c]] w fun e w'=>e = .returned (.agg #[.int .u8 kd,.string (cutS 80 key),.string (data.extract 0 2001),.int .u64 id,.int .i64 n,.int .i64 q,.slice A m c]) ∧ Below w.heap.size w w':=by
 have HF:=zh (fun (W : World)=>cellarerlaw01_Few.calls key _ W (few_cut key))
 have d0 : decide ((2001 : Int) < (data.size : Int)) = true:=decide_eq_true (by omega)
 have d1 : decide ((data.size : Int) > 2001) = true:=decide_eq_true (by omega)
 have d2 : 2001 < data.size:=by omega
 have p0 : decide ((40 : Int) < (m : Int)) = false:=decide_eq_false (by omega)
 have p1 : decide ((m : Int) > 40) = false:=decide_eq_false (by omega)
 have p2 : ¬ 40 < m:=by omega
 have HB:=zh (Below.refl w.heap.size w)
 have l1 : 2001 ≤ data.size:=by omega
 have l2 : True:=trivial
 have l3 : True:=trivial
 go_enter Tryz.func22,Tryz.ntmps22
 go_wp2_with (first
  | ((with_reducible refine gate_dst (N:=1) rfl ?_);go_must (refine zx HB (N:=1) (cs:=#[.int .u8 kd,.string key,.string data,.int .u64 id,.int .i64 n,.int .i64 q,.slice A m c]) (t:=59) ?hr ?_;(case hr=>first | (go_simp;done) | (go_simp;rfl));intro gb w1 Kgb Lgb HB hbelgb hqgb;clear hbelgb hqgb))
  | ((with_reducible refine gate_dst (N:=2) rfl ?_);go_must (refine zx HB (N:=2) (cs:=#[.int .u8 0,.string ⟨#[]⟩,.string ⟨#[]⟩,.int .u64 0,.int .i64 0,.int .i64 0,.slice none 0 0]) (t:=59) ?hr ?_;(case hr=>first | (go_simp;done) | (go_simp;rfl));intro go w2 Kgo Lgo HB hbelgo hqgo;have M2:=zh (show gb < go by rw [hqgo];exact blk_lt Kgb.out);have Kgb:=zk Kgb hbelgo;obtain ⟨a0,a1,a2,a3,a4,a5,a6⟩:=zz7 Kgb.out;clear hbelgo hqgo))
  | (go_at_call 11;go_must (refine (HF.out _).mono ?_;rintro e w3 ⟨rfl,hb⟩;have hb:=outD hb;have HB:=keepB HB hb;have Kgb:=zk Kgb hb;have Kgo:=zk Kgo hb;clear hb a0 a1 a2 a3 a4 a5 a6))
  | ((with_reducible refine gate_store (t:=9) (p:=6) (v:=.tmp 5) rfl ?_);go_must (refine zq 9 (.tmp 6) (.tmp 5) gb 1 59 (.string (cutS 80 key)) Kgb (by kernel_rfl) ?_;intro w4 hk ho;have Kgb : Hid (w4.heap[gb]? = some (.cells #[.int .u8 kd,.string (cutS 80 key),.string data,.int .u64 id,.int .i64 n,.int .i64 q,.slice A m c] 59 (0,0))):=hk;have HB:=zo ho HB Lgb;have Kgo:=zl ho Kgo (by have:=M2.out;omega);obtain ⟨b0,b1,b2,b3,b4,b5,b6⟩:=zz7 Kgb.out;clear hk ho))
  | ((with_reducible refine gate_store (t:=9) (p:=14) (v:=.tmp 13) rfl ?_);go_must (refine zq 9 (.tmp 14) (.tmp 13) gb 2 59 (.string (data.extract 0 2001)) Kgb (by kernel_rfl) ?_;intro w5 hk ho;have Kgb : Hid (w5.heap[gb]? = some (.cells #[.int .u8 kd,.string (cutS 80 key),.string (data.extract 0 2001),.int .u64 id,.int .i64 n,.int .i64 q,.slice A m c] 59 (0,0))):=hk;have HB:=zo ho HB Lgb;have Kgo:=zl ho Kgo (by have:=M2.out;omega);clear b0 b1 b2 b3 b4 b5 b6;obtain ⟨b0,b1,b2,b3,b4,b5,b6⟩:=zz7 Kgb.out;clear hk ho))
  | ((with_reducible refine gate_store (t:=59) (p:=2) (v:=.tmp 23) rfl ?_);go_must (refine zs 59 (.tmp 2) (.tmp 23) go 0 59 [.int .u8 kd,.string (cutS 80 key),.string (data.extract 0 2001),.int .u64 id,.int .i64 n,.int .i64 q,.slice A m c] Kgo (by kernel_rfl) ?_;intro w7 hk ho;have HB:=zo ho HB Lgo;obtain ⟨z0,z1,z2,z3,z4,z5,z6⟩:=zz7 hk.out;clear hk ho)))
 refine bodyPost_ret (v:=.agg #[.int .u8 kd,.string (cutS 80 key),.string (data.extract 0 2001),.int .u64 id,.int .i64 n,.int .i64 q,.slice A m c]) (by simp [results,Tryz.results22,go_sem,z0,z1,z2,z3,z4,z5,z6]) rfl ?_
 exact ⟨rfl,HB.out⟩
theorem cut_01 (kd id n q : Int) (key data : ByteArray) (A : Option Addr) (m c : Nat) (w : World) (hm : m ≤ c) (hd : data.size ≤ 2001) (hp : 40 < m) :
  Calls Tryz.prog 22 #[.agg #[.int .u8 kd,.string key,.string data,.int .u64 id,.int .i64 n,.int .i64 q,.slice A m c]] w fun e w'=>e = .returned (.agg #[.int .u8 kd,.string (cutS 80 key),.string data,.int .u64 id,.int .i64 n,.int .i64 q,.slice A 40 c]) ∧ Below w.heap.size w w':=by
 have HF:=zh (fun (W : World)=>cellarerlaw01_Few.calls key _ W (few_cut key))
 have d0 : decide ((2001 : Int) < (data.size : Int)) = false:=decide_eq_false (by omega)
 have d1 : decide ((data.size : Int) > 2001) = false:=decide_eq_false (by omega)
 have d2 : ¬ 2001 < data.size:=by omega
 have p0 : decide ((40 : Int) < (m : Int)) = true:=decide_eq_true (by omega)
 have p1 : decide ((m : Int) > 40) = true:=decide_eq_true (by omega)
 have p2 : 40 < m:=by omega
 have HB:=zh (Below.refl w.heap.size w)
 have l1 : True:=trivial
 have l2 : 40 ≤ c:=by omega
 have l3 : 40 ≤ m:=by omega
 go_enter Tryz.func22,Tryz.ntmps22
 go_wp2_with (first
  | ((with_reducible refine gate_dst (N:=1) rfl ?_);go_must (refine zx HB (N:=1) (cs:=#[.int .u8 kd,.string key,.string data,.int .u64 id,.int .i64 n,.int .i64 q,.slice A m c]) (t:=59) ?hr ?_;(case hr=>first | (go_simp;done) | (go_simp;rfl));intro gb w1 Kgb Lgb HB hbelgb hqgb;clear hbelgb hqgb))
  | ((with_reducible refine gate_dst (N:=2) rfl ?_);go_must (refine zx HB (N:=2) (cs:=#[.int .u8 0,.string ⟨#[]⟩,.string ⟨#[]⟩,.int .u64 0,.int .i64 0,.int .i64 0,.slice none 0 0]) (t:=59) ?hr ?_;(case hr=>first | (go_simp;done) | (go_simp;rfl));intro go w2 Kgo Lgo HB hbelgo hqgo;have M2:=zh (show gb < go by rw [hqgo];exact blk_lt Kgb.out);have Kgb:=zk Kgb hbelgo;obtain ⟨a0,a1,a2,a3,a4,a5,a6⟩:=zz7 Kgb.out;clear hbelgo hqgo))
  | (go_at_call 11;go_must (refine (HF.out _).mono ?_;rintro e w3 ⟨rfl,hb⟩;have hb:=outD hb;have HB:=keepB HB hb;have Kgb:=zk Kgb hb;have Kgo:=zk Kgo hb;clear hb a0 a1 a2 a3 a4 a5 a6))
  | ((with_reducible refine gate_store (t:=9) (p:=6) (v:=.tmp 5) rfl ?_);go_must (refine zq 9 (.tmp 6) (.tmp 5) gb 1 59 (.string (cutS 80 key)) Kgb (by kernel_rfl) ?_;intro w4 hk ho;have Kgb : Hid (w4.heap[gb]? = some (.cells #[.int .u8 kd,.string (cutS 80 key),.string data,.int .u64 id,.int .i64 n,.int .i64 q,.slice A m c] 59 (0,0))):=hk;have HB:=zo ho HB Lgb;have Kgo:=zl ho Kgo (by have:=M2.out;omega);obtain ⟨b0,b1,b2,b3,b4,b5,b6⟩:=zz7 Kgb.out;clear hk ho))
  | ((with_reducible refine gate_store (t:=35) (p:=22) (v:=.tmp 21) rfl ?_);go_must (refine zq 35 (.tmp 22) (.tmp 21) gb 6 59 (.slice A 40 c) Kgb (by kernel_rfl) ?_;intro w6 hk ho;have Kgb : Hid (w6.heap[gb]? = some (.cells #[.int .u8 kd,.string (cutS 80 key),.string data,.int .u64 id,.int .i64 n,.int .i64 q,.slice A 40 c] 59 (0,0))):=hk;have HB:=zo ho HB Lgb;have Kgo:=zl ho Kgo (by have:=M2.out;omega);clear b0 b1 b2 b3 b4 b5 b6;obtain ⟨b0,b1,b2,b3,b4,b5,b6⟩:=zz7 Kgb.out;clear hk ho))
  | ((with_reducible refine gate_store (t:=59) (p:=2) (v:=.tmp 23) rfl ?_);go_must (refine zs 59 (.tmp 2) (.tmp 23) go 0 59 [.int .u8 kd,.string (cutS 80 key),.string data,.int .u64 id,.int .i64 n,.int .i64 q,.slice A 40 c] Kgo (by kernel_rfl) ?_;intro w7 hk ho;have HB:=zo ho HB Lgo;obtain ⟨z0,z1,z2,z3,z4,z5,z6⟩:=zz7 hk.out;clear hk ho)))
 refine bodyPost_ret (v:=.agg #[.int .u8 kd,.string (cutS 80 key),.string data,.int .u64 id,.int .i64 n,.int .i64 q,.slice A 40 c]) (by simp [results,Tryz.results22,go_sem,z0,z1,z2,z3,z4,z5,z6]) rfl ?_
 exact ⟨rfl,HB.out⟩
theorem cut_11 (kd id n q : Int) (key data : ByteArray) (A : Option Addr) (m c : Nat) (w : World) (hm : m ≤ c) (hd : 2001 < data.size) (hp : 40 < m) :
  Calls Tryz.prog 22 #[.agg #[.int .u8 kd,.string key,.string data,.int .u64 id,.int .i64 n,.int .i64 q,.slice A m c]] w fun e w'=>e = .returned (.agg #[.int .u8 kd,.string (cutS 80 key),.string (data.extract 0 2001),.int .u64 id,.int .i64 n,.int .i64 q,.slice A 40 c]) ∧ Below w.heap.size w w':=by
 have HF:=zh (fun (W : World)=>cellarerlaw01_Few.calls key _ W (few_cut key))
 have d0 : decide ((2001 : Int) < (data.size : Int)) = true:=decide_eq_true (by omega)
 have d1 : decide ((data.size : Int) > 2001) = true:=decide_eq_true (by omega)
 have d2 : 2001 < data.size:=by omega
 have p0 : decide ((40 : Int) < (m : Int)) = true:=decide_eq_true (by omega)
 have p1 : decide ((m : Int) > 40) = true:=decide_eq_true (by omega)
 have p2 : 40 < m:=by omega
 have HB:=zh (Below.refl w.heap.size w)
 have l1 : 2001 ≤ data.size:=by omega
 have l2 : 40 ≤ c:=by omega
 have l3 : 40 ≤ m:=by omega
 go_enter Tryz.func22,Tryz.ntmps22
 go_wp2_with (first
  | ((with_reducible refine gate_dst (N:=1) rfl ?_);go_must (refine zx HB (N:=1) (cs:=#[.int .u8 kd,.string key,.string data,.int .u64 id,.int .i64 n,.int .i64 q,.slice A m c]) (t:=59) ?hr ?_;(case hr=>first | (go_simp;done) | (go_simp;rfl));intro gb w1 Kgb Lgb HB hbelgb hqgb;clear hbelgb hqgb))
  | ((with_reducible refine gate_dst (N:=2) rfl ?_);go_must (refine zx HB (N:=2) (cs:=#[.int .u8 0,.string ⟨#[]⟩,.string ⟨#[]⟩,.int .u64 0,.int .i64 0,.int .i64 0,.slice none 0 0]) (t:=59) ?hr ?_;(case hr=>first | (go_simp;done) | (go_simp;rfl));intro go w2 Kgo Lgo HB hbelgo hqgo;have M2:=zh (show gb < go by rw [hqgo];exact blk_lt Kgb.out);have Kgb:=zk Kgb hbelgo;obtain ⟨a0,a1,a2,a3,a4,a5,a6⟩:=zz7 Kgb.out;clear hbelgo hqgo))
  | (go_at_call 11;go_must (refine (HF.out _).mono ?_;rintro e w3 ⟨rfl,hb⟩;have hb:=outD hb;have HB:=keepB HB hb;have Kgb:=zk Kgb hb;have Kgo:=zk Kgo hb;clear hb a0 a1 a2 a3 a4 a5 a6))
  | ((with_reducible refine gate_store (t:=9) (p:=6) (v:=.tmp 5) rfl ?_);go_must (refine zq 9 (.tmp 6) (.tmp 5) gb 1 59 (.string (cutS 80 key)) Kgb (by kernel_rfl) ?_;intro w4 hk ho;have Kgb : Hid (w4.heap[gb]? = some (.cells #[.int .u8 kd,.string (cutS 80 key),.string data,.int .u64 id,.int .i64 n,.int .i64 q,.slice A m c] 59 (0,0))):=hk;have HB:=zo ho HB Lgb;have Kgo:=zl ho Kgo (by have:=M2.out;omega);obtain ⟨b0,b1,b2,b3,b4,b5,b6⟩:=zz7 Kgb.out;clear hk ho))
  | ((with_reducible refine gate_store (t:=9) (p:=14) (v:=.tmp 13) rfl ?_);go_must (refine zq 9 (.tmp 14) (.tmp 13) gb 2 59 (.string (data.extract 0 2001)) Kgb (by kernel_rfl) ?_;intro w5 hk ho;have Kgb : Hid (w5.heap[gb]? = some (.cells #[.int .u8 kd,.string (cutS 80 key),.string (data.extract 0 2001),.int .u64 id,.int .i64 n,.int .i64 q,.slice A m c] 59 (0,0))):=hk;have HB:=zo ho HB Lgb;have Kgo:=zl ho Kgo (by have:=M2.out;omega);clear b0 b1 b2 b3 b4 b5 b6;obtain ⟨b0,b1,b2,b3,b4,b5,b6⟩:=zz7 Kgb.out;clear hk ho))
  | ((with_reducible refine gate_store (t:=35) (p:=22) (v:=.tmp 21) rfl ?_);go_must (refine zq 35 (.tmp 22) (.tmp 21) gb 6 59 (.slice A 40 c) Kgb (by kernel_rfl) ?_;intro w6 hk ho;have Kgb : Hid (w6.heap[gb]? = some (.cells #[.int .u8 kd,.string (cutS 80 key),.string (data.extract 0 2001),.int .u64 id,.int .i64 n,.int .i64 q,.slice A 40 c] 59 (0,0))):=hk;have HB:=zo ho HB Lgb;have Kgo:=zl ho Kgo (by have:=M2.out;omega);clear b0 b1 b2 b3 b4 b5 b6;obtain ⟨b0,b1,b2,b3,b4,b5,b6⟩:=zz7 Kgb.out;clear hk ho))
  | ((with_reducible refine gate_store (t:=59) (p:=2) (v:=.tmp 23) rfl ?_);go_must (refine zs 59 (.tmp 2) (.tmp 23) go 0 59 [.int .u8 kd,.string (cutS 80 key),.string (data.extract 0 2001),.int .u64 id,.int .i64 n,.int .i64 q,.slice A 40 c] Kgo (by kernel_rfl) ?_;intro w7 hk ho;have HB:=zo ho HB Lgo;obtain ⟨z0,z1,z2,z3,z4,z5,z6⟩:=zz7 hk.out;clear hk ho)))
 refine bodyPost_ret (v:=.agg #[.int .u8 kd,.string (cutS 80 key),.string (data.extract 0 2001),.int .u64 id,.int .i64 n,.int .i64 q,.slice A 40 c]) (by simp [results,Tryz.results22,go_sem,z0,z1,z2,z3,z4,z5,z6]) rfl ?_
 exact ⟨rfl,HB.out⟩
theorem cut.walk (kd id n q : Int) (key data : ByteArray) (A : Option Addr) (ps : List S43) (c : Nat) (w : World) (hm : ps.length ≤ c) :
  Calls Tryz.prog 22 #[.agg #[.int .u8 kd,.string key,.string data,.int .u64 id,.int .i64 n,.int .i64 q,.slice A ps.length c]] w fun e w'=>e = .returned (.agg #[.int .u8 kd,.string (cutS 80 key),.string (cutS 2001 data),.int .u64 id,.int .i64 n,.int .i64 q,.slice A (ps.take 40).length c]) ∧ Below w.heap.size w w':=by
 by_cases hd : 2001 < data.size
 ·have e1 : cutS 2001 data = data.extract 0 2001:=by unfold cutS;rw [if_pos hd]
  by_cases hp : 40 < ps.length
  ·have e2 : (ps.take 40).length = 40:=by rw [List.length_take];omega
   rw [e1,e2];exact cut_11 kd id n q key data A ps.length c w hm hd hp
  ·have e2 : (ps.take 40).length = ps.length:=by rw [List.length_take];omega
   rw [e1,e2];exact cut_10 kd id n q key data A ps.length c w hm hd (by omega)
 ·have e1 : cutS 2001 data = data:=by unfold cutS;rw [if_neg hd]
  by_cases hp : 40 < ps.length
  ·have e2 : (ps.take 40).length = 40:=by rw [List.length_take];omega
   rw [e1,e2];exact cut_01 kd id n q key data A ps.length c w hm (by omega) hp
  ·have e2 : (ps.take 40).length = ps.length:=by rw [List.length_take];omega
   rw [e1,e2];exact cut_00 kd id n q key data A ps.length c w hm (by omega) (by omega)
end
section
open Go.WideMaps Go.Maps
def DidLike (cs : Array Value) : Prop:=∃ (s : ByteArray) (i : Int) (A2 : Option Addr) (n2 c2 : Nat) (A3 : Option Addr) (n3 c3 : Nat) (l d : Int) (x : ByteArray) (e : Int),cs = #[.string s,.int .i64 i,.slice A2 n2 c2,.slice A3 n3 c3,.int .u64 l,.int .u64 d,.string x,.int .i64 e]
section
variable {w w1 : World} {g : Nat} {cs : Array Value} {t : TypeId} {fr : Nat × Nat} {A : Option Addr} {n : Nat}
theorem didV {l : List S47} (h : Kd.C k47 w A n l) (hg : w.heap[g]? = some (.cells cs t fr)) (hw : DidLike cs) (ho : Only g w w1) : Kd.C k47 w1 A n l :=
 C_sep h hg ho (fun x c o hk hc=>by
  obtain rfl:=k47_open hk
  obtain ⟨_,_,_,_,_,_,_,_,_,_,_,_,rfl⟩:=hw
  have h2:=hc 2 _ rfl
  rcases o with _ | _ | _ | _ | _ | _ | o <;> simp at h2) (fun x c hk=>by obtain rfl:=k47_open hk;exact k47_mk w1 x)
theorem didPt {l : List S40} (h : Kd.C k40 w A n l) (hg : w.heap[g]? = some (.cells cs t fr)) (hw : DidLike cs) (ho : Only g w w1) : Kd.C k40 w1 A n l :=
 C_sep h hg ho (fun x c o hk hc=>by
  obtain rfl:=k40_open hk
  obtain ⟨_,_,_,_,_,_,_,_,_,_,_,_,rfl⟩:=hw
  have h0:=hc 0 _ rfl
  have h1:=hc 1 _ rfl
  rcases o with _ | _ | _ | _ | _ | _ | _ | _ | o <;> simp at h0 h1) (fun x c hk=>by obtain rfl:=k40_open hk;exact k40_mk w1 x)
theorem didE {l : List S56} (h : Kd.C k56 w A n l) (hg : w.heap[g]? = some (.cells cs t fr)) (hw : DidLike cs) (ho : Only g w w1) : Kd.C k56 w1 A n l :=
 C_sep h hg ho (fun x c o hk hc=>by
  obtain ⟨A1,c1,rfl,_,_⟩:=k56_open hk
  obtain ⟨_,_,_,_,_,_,_,_,_,_,_,_,rfl⟩:=hw
  have h0:=hc 0 _ rfl
  have h1:=hc 1 _ rfl
  rcases o with _ | _ | _ | _ | _ | _ | _ | _ | o <;> simp at h0 h1) (fun x c hk=>by obtain ⟨A1,c1,rfl,h1,h2⟩:=k56_open hk;exact k56_mk w1 x h1 (didV h2 hg hw ho))
theorem didU {l : List S101} (h : Kd.C k101 w A n l) (hg : w.heap[g]? = some (.cells cs t fr)) (hw : DidLike cs) (ho : Only g w w1) : Kd.C k101 w1 A n l :=
 C_sep h hg ho (fun x c o hk hc=>by
  obtain ⟨A1,c1,rfl,_,_⟩:=k101_open hk
  obtain ⟨_,_,_,_,_,_,_,_,_,_,_,_,rfl⟩:=hw
  have h1:=hc 1 _ rfl
  have h2:=hc 2 _ rfl
  rcases o with _ | _ | _ | _ | _ | _ | _ | o <;> simp at h1 h2) (fun x c hk=>by obtain ⟨A1,c1,rfl,h1,h2⟩:=k101_open hk;exact k101_mk w1 x h1 (didPt h2 hg hw ho))
end
end
section
open Go.WideMaps Go.Maps
attribute [local go_sem] Oper.semAt_some
def DoPost (x : S26) (id : Int) (tg : ByteArray) (er : Int) (w : World) (e : Ending) (w' : World) : Prop :=
 ∃ A5 c5 A6 c6,e = .returned (.agg #[.string x.f0,.int .i64 x.f1,.slice A5 x.f2.length c5,.slice A6 x.f3.length c6,.int .u64 x.f4,.int .u64 id,.string tg,.int .i64 er]) ∧ x.f2.length ≤ c5 ∧ x.f3.length ≤ c6 ∧ Kd.C k56 w' A5 x.f2.length x.f2 ∧ Kd.C k101 w' A6 x.f3.length x.f3 ∧ Below w.heap.size w w'
theorem did_like (s : ByteArray) (i : Int) (A2 : Option Addr) (n2 c2 : Nat) (A3 : Option Addr) (n3 c3 : Nat) (l d : Int) (x : ByteArray) (e : Int) : DidLike #[.string s,.int .i64 i,.slice A2 n2 c2,.slice A3 n3 c3,.int .u64 l,.int .u64 d,.string x,.int .i64 e]:=⟨s,i,A2,n2,c2,A3,n3,c3,l,d,x,e,rfl⟩
theorem do_put0 (b : S26) (A2 A3 : Option Addr) (c2 c3 : Nat) (kd id n q : Int) (key data : ByteArray) (A : Option Addr) (ps : List S43) (c : Nat) (w : World) (h2 : Kd.C k56 w A2 b.f2.length b.f2) (g2 : b.f2.length ≤ c2) (h3 : Kd.C k101 w A3 b.f3.length b.f3) (g3 : b.f3.length ≤ c3) (hk : Int.tmod kd 9 = 0) :
  Calls Tryz.prog 23 #[.agg #[.string b.f0,.int .i64 b.f1,.slice A2 b.f2.length c2,.slice A3 b.f3.length c3,.int .u64 b.f4],.agg #[.int .u8 kd,.string key,.string data,.int .u64 id,.int .i64 n,.int .i64 q,.slice A ps.length c]] w (DoPost (laidR b key (fun l id=>putV l b.f1 ⟨id,data,false,q⟩)).1 (laidR b key (fun l id=>putV l b.f1 ⟨id,data,false,q⟩)).2.1 ⟨#[]⟩ (laidR b key (fun l id=>putV l b.f1 ⟨id,data,false,q⟩)).2.2 w):=by
 have HC:=zh (fun (W : World) (h : Below w.heap.size w W)=>putB.walk b A2 A3 c2 c3 key data q W (Kd.C_below h2 h) g2 (Kd.C_below h3 h) g3)
 generalize laidR b key (fun l id=>putV l b.f1 ⟨id,data,false,q⟩) = r at *
 obtain ⟨kb,li,er⟩:=r
 have HB:=zh (Below.refl w.heap.size w)
 have kf : ∀ j : Int,(Int.tmod kd 9 == j) = ((0 : Int) == j):=fun j=>by rw [hk]
 have e0 : (Int.tmod kd 9 == 0) = true:=kf 0
 have e1 : (Int.tmod kd 9 == 1) = false:=kf 1
 have e2 : (Int.tmod kd 9 == 2) = false:=kf 2
 have e3 : (Int.tmod kd 9 == 3) = false:=kf 3
 have e4 : (Int.tmod kd 9 == 4) = false:=kf 4
 have e5 : (Int.tmod kd 9 == 5) = false:=kf 5
 have e6 : (Int.tmod kd 9 == 6) = false:=kf 6
 have e7 : (Int.tmod kd 9 == 7) = false:=kf 7
 clear h2 h3 g2 g3 kf hk
 go_enter Tryz.func23,Tryz.ntmps23
 go_wp2_with (first
  | ((with_reducible refine gate_dst (N:=2) rfl ?_);go_must (refine zx HB (N:=2) (cs:=#[.string b.f0,.int .i64 b.f1,.slice A2 b.f2.length c2,.slice A3 b.f3.length c3,.int .u64 b.f4]) (t:=26) ?hr ?_;(case hr=>first | (go_simp;done) | (go_simp;rfl));intro gb w1 Kgb Lgb HB hbelgb hqgb;clear hbelgb hqgb))
  | ((with_reducible refine gate_dst (N:=3) rfl ?_);go_must (refine zx HB (N:=3) (cs:=#[.int .u8 kd,.string key,.string data,.int .u64 id,.int .i64 n,.int .i64 q,.slice A ps.length c]) (t:=59) ?hr ?_;(case hr=>first | (go_simp;done) | (go_simp;rfl));intro ga w2 Kga Lga HB hbelga hqga;have M1:=zh (show gb < ga by rw [hqga];exact blk_lt Kgb.out);have Kgb:=zk Kgb hbelga;clear hbelga hqga))
  | ((with_reducible refine gate_dst (N:=4) rfl ?_);go_must (refine zx HB (N:=4) (cs:=#[.string ⟨#[]⟩,.int .i64 0,.slice none 0 0,.slice none 0 0,.int .u64 0,.int .u64 0,.string ⟨#[]⟩,.int .i64 0]) (t:=62) ?hr ?_;(case hr=>first | (go_simp;done) | (go_simp;rfl));intro go w3 Kgo Lgo HB hbelgo hqgo;have M2:=zh (show ga < go by rw [hqgo];exact blk_lt Kga.out);have Kgb:=zk Kgb hbelgo;have Kga:=zk Kga hbelgo;clear hbelgo hqgo))
  | ((with_reducible refine gate_dst (N:=5) rfl ?_);go_must (refine zx HB (N:=5) (cs:=#[.string ⟨#[]⟩,.int .i64 0,.slice none 0 0,.slice none 0 0,.int .u64 0,.int .u64 0,.string ⟨#[]⟩,.int .i64 0]) (t:=62) ?hr ?_;(case hr=>first | (go_simp;done) | (go_simp;rfl));intro gd w4 Kgd Lgd HB hbelgd hqgd;have M3:=zh (show go < gd by rw [hqgd];exact blk_lt Kgo.out);have Kgb:=zk Kgb hbelgd;have Kga:=zk Kga hbelgd;have Kgo:=zk Kgo hbelgd;clear hbelgd hqgd))
  | ((with_reducible refine gate_store (t:=62) (p:=5) (v:=.tmp 9) rfl ?_);go_must (refine zs 62 (.tmp 5) (.tmp 9) gd 0 62 [.string ⟨#[]⟩,.int .i64 0,.slice none 0 0,.slice none 0 0,.int .u64 0,.int .u64 0,.string ⟨#[]⟩,.int .i64 0] Kgd (by kernel_rfl) ?_;intro w5 hk ho;have Kgd : Hid (w5.heap[gd]? = some (.cells #[.string ⟨#[]⟩,.int .i64 0,.slice none 0 0,.slice none 0 0,.int .u64 0,.int .u64 0,.string ⟨#[]⟩,.int .i64 0] 62 (0,0))):=hk;have HB:=zo ho HB Lgd;have Kgb:=zl ho Kgb (by have:=M1.out;have:=M2.out;have:=M3.out;omega);have Kga:=zl ho Kga (by have:=M1.out;have:=M2.out;have:=M3.out;omega);have Kgo:=zl ho Kgo (by have:=M1.out;have:=M2.out;have:=M3.out;omega);obtain ⟨a0,a1,a2,a3,a4⟩:=zz5 Kgb.out;obtain ⟨b0,b1,b2,b3,b4,b5,b6⟩:=zz7 Kga.out;clear hk ho))
  | (go_at_call 19;go_must (refine (HC.out _ HB.out).mono ?_;rintro e w6 ⟨v,rfl,⟨A5,c5,A6,c6,rfl,y1,y2,y3,y4⟩,hb⟩;have Y3:=zh y3;have Y4:=zh y4;have HB:=keepB HB hb;have Kgo:=zk Kgo hb;have Kgd:=zk Kgd hb;clear hb y3 y4 a0 a1 a2 a3 a4 b0 b1 b2 b3 b4 b5 b6))
  | ((with_reducible refine gate_store (t:=26) (p:=45) (v:=.tmp 42) rfl ?_);go_must (refine zs 26 (.tmp 45) (.tmp 42) gd 0 62 [.string kb.f0,.int .i64 kb.f1,.slice A5 kb.f2.length c5,.slice A6 kb.f3.length c6,.int .u64 kb.f4] Kgd isz_bucket ?_;intro x0 hk ho;have Y3:=zh (didE Y3.out Kgd.out (did_like _ _ _ _ _ _ _ _ _ _ _ _) ho.out);have Y4:=zh (didU Y4.out Kgd.out (did_like _ _ _ _ _ _ _ _ _ _ _ _) ho.out);have Kgd : Hid (x0.heap[gd]? = some (.cells #[.string kb.f0,.int .i64 kb.f1,.slice A5 kb.f2.length c5,.slice A6 kb.f3.length c6,.int .u64 kb.f4,.int .u64 0,.string ⟨#[]⟩,.int .i64 0] 62 (0,0))):=hk;have HB:=zo ho HB Lgd;have Kgo:=zl ho Kgo (by have:=M3.out;omega);clear hk ho))
  | ((with_reducible refine gate_store (t:=24) (p:=46) (v:=.tmp 43) rfl ?_);go_must (refine zq 24 (.tmp 46) (.tmp 43) gd 5 62 (.int .u64 li) Kgd (by kernel_rfl) ?_;intro x1 hk ho;have Y3:=zh (didE Y3.out Kgd.out (did_like _ _ _ _ _ _ _ _ _ _ _ _) ho.out);have Y4:=zh (didU Y4.out Kgd.out (did_like _ _ _ _ _ _ _ _ _ _ _ _) ho.out);have Kgd : Hid (x1.heap[gd]? = some (.cells #[.string kb.f0,.int .i64 kb.f1,.slice A5 kb.f2.length c5,.slice A6 kb.f3.length c6,.int .u64 kb.f4,.int .u64 li,.string ⟨#[]⟩,.int .i64 0] 62 (0,0))):=hk;have HB:=zo ho HB Lgd;have Kgo:=zl ho Kgo (by have:=M3.out;omega);clear hk ho))
  | ((with_reducible refine gate_store (t:=30) (p:=47) (v:=.tmp 44) rfl ?_);go_must (refine zq 30 (.tmp 47) (.tmp 44) gd 7 62 (.int .i64 er) Kgd (by kernel_rfl) ?_;intro x2 hk ho;have Y3:=zh (didE Y3.out Kgd.out (did_like _ _ _ _ _ _ _ _ _ _ _ _) ho.out);have Y4:=zh (didU Y4.out Kgd.out (did_like _ _ _ _ _ _ _ _ _ _ _ _) ho.out);have Kgd : Hid (x2.heap[gd]? = some (.cells #[.string kb.f0,.int .i64 kb.f1,.slice A5 kb.f2.length c5,.slice A6 kb.f3.length c6,.int .u64 kb.f4,.int .u64 li,.string ⟨#[]⟩,.int .i64 er] 62 (0,0))):=hk;have HB:=zo ho HB Lgd;have Kgo:=zl ho Kgo (by have:=M3.out;omega);obtain ⟨d0,d1,d2,d3,d4,d5,d6,d7⟩:=zz8 Kgd.out;clear hk ho))
  | ((with_reducible refine gate_store (t:=62) (p:=4) (v:=.tmp 133) rfl ?_);go_must (refine zs 62 (.tmp 4) (.tmp 133) go 0 62 [.string kb.f0,.int .i64 kb.f1,.slice A5 kb.f2.length c5,.slice A6 kb.f3.length c6,.int .u64 kb.f4,.int .u64 li,.string ⟨#[]⟩,.int .i64 er] Kgo (by kernel_rfl) ?_;intro x9 hk ho;have Y3:=zh (didE Y3.out Kgo.out (did_like _ _ _ _ _ _ _ _ _ _ _ _) ho.out);have Y4:=zh (didU Y4.out Kgo.out (did_like _ _ _ _ _ _ _ _ _ _ _ _) ho.out);have HB:=zo ho HB Lgo;obtain ⟨z0,z1,z2,z3,z4,z5,z6,z7⟩:=zz8 hk.out;clear hk ho)))
 refine bodyPost_ret (v:=.agg #[.string kb.f0,.int .i64 kb.f1,.slice A5 kb.f2.length c5,.slice A6 kb.f3.length c6,.int .u64 kb.f4,.int .u64 li,.string ⟨#[]⟩,.int .i64 er]) (by simp [results,Tryz.results23,go_sem,z0,z1,z2,z3,z4,z5,z6,z7]) rfl ?_
 exact ⟨A5,c5,A6,c6,rfl,y1,y2,Y3.out,Y4.out,HB.out⟩
theorem do_put1 (b : S26) (A2 A3 : Option Addr) (c2 c3 : Nat) (kd id n q : Int) (key data : ByteArray) (A : Option Addr) (ps : List S43) (c : Nat) (w : World) (h2 : Kd.C k56 w A2 b.f2.length b.f2) (g2 : b.f2.length ≤ c2) (h3 : Kd.C k101 w A3 b.f3.length b.f3) (g3 : b.f3.length ≤ c3) (hk : Int.tmod kd 9 = 1) :
  Calls Tryz.prog 23 #[.agg #[.string b.f0,.int .i64 b.f1,.slice A2 b.f2.length c2,.slice A3 b.f3.length c3,.int .u64 b.f4],.agg #[.int .u8 kd,.string key,.string data,.int .u64 id,.int .i64 n,.int .i64 q,.slice A ps.length c]] w (DoPost (laidR b key (fun l id=>putV l b.f1 ⟨id,data,false,q⟩)).1 (laidR b key (fun l id=>putV l b.f1 ⟨id,data,false,q⟩)).2.1 ⟨#[]⟩ (laidR b key (fun l id=>putV l b.f1 ⟨id,data,false,q⟩)).2.2 w):=by
 have HC:=zh (fun (W : World) (h : Below w.heap.size w W)=>putB.walk b A2 A3 c2 c3 key data q W (Kd.C_below h2 h) g2 (Kd.C_below h3 h) g3)
 generalize laidR b key (fun l id=>putV l b.f1 ⟨id,data,false,q⟩) = r at *
 obtain ⟨kb,li,er⟩:=r
 have HB:=zh (Below.refl w.heap.size w)
 have kf : ∀ j : Int,(Int.tmod kd 9 == j) = ((1 : Int) == j):=fun j=>by rw [hk]
 have e0 : (Int.tmod kd 9 == 0) = false:=kf 0
 have e1 : (Int.tmod kd 9 == 1) = true:=kf 1
 have e2 : (Int.tmod kd 9 == 2) = false:=kf 2
 have e3 : (Int.tmod kd 9 == 3) = false:=kf 3
 have e4 : (Int.tmod kd 9 == 4) = false:=kf 4
 have e5 : (Int.tmod kd 9 == 5) = false:=kf 5
 have e6 : (Int.tmod kd 9 == 6) = false:=kf 6
 have e7 : (Int.tmod kd 9 == 7) = false:=kf 7
 clear h2 h3 g2 g3 kf hk
 go_enter Tryz.func23,Tryz.ntmps23
 go_wp2_with (first
  | ((with_reducible refine gate_dst (N:=2) rfl ?_);go_must (refine zx HB (N:=2) (cs:=#[.string b.f0,.int .i64 b.f1,.slice A2 b.f2.length c2,.slice A3 b.f3.length c3,.int .u64 b.f4]) (t:=26) ?hr ?_;(case hr=>first | (go_simp;done) | (go_simp;rfl));intro gb w1 Kgb Lgb HB hbelgb hqgb;clear hbelgb hqgb))
  | ((with_reducible refine gate_dst (N:=3) rfl ?_);go_must (refine zx HB (N:=3) (cs:=#[.int .u8 kd,.string key,.string data,.int .u64 id,.int .i64 n,.int .i64 q,.slice A ps.length c]) (t:=59) ?hr ?_;(case hr=>first | (go_simp;done) | (go_simp;rfl));intro ga w2 Kga Lga HB hbelga hqga;have M1:=zh (show gb < ga by rw [hqga];exact blk_lt Kgb.out);have Kgb:=zk Kgb hbelga;clear hbelga hqga))
  | ((with_reducible refine gate_dst (N:=4) rfl ?_);go_must (refine zx HB (N:=4) (cs:=#[.string ⟨#[]⟩,.int .i64 0,.slice none 0 0,.slice none 0 0,.int .u64 0,.int .u64 0,.string ⟨#[]⟩,.int .i64 0]) (t:=62) ?hr ?_;(case hr=>first | (go_simp;done) | (go_simp;rfl));intro go w3 Kgo Lgo HB hbelgo hqgo;have M2:=zh (show ga < go by rw [hqgo];exact blk_lt Kga.out);have Kgb:=zk Kgb hbelgo;have Kga:=zk Kga hbelgo;clear hbelgo hqgo))
  | ((with_reducible refine gate_dst (N:=5) rfl ?_);go_must (refine zx HB (N:=5) (cs:=#[.string ⟨#[]⟩,.int .i64 0,.slice none 0 0,.slice none 0 0,.int .u64 0,.int .u64 0,.string ⟨#[]⟩,.int .i64 0]) (t:=62) ?hr ?_;(case hr=>first | (go_simp;done) | (go_simp;rfl));intro gd w4 Kgd Lgd HB hbelgd hqgd;have M3:=zh (show go < gd by rw [hqgd];exact blk_lt Kgo.out);have Kgb:=zk Kgb hbelgd;have Kga:=zk Kga hbelgd;have Kgo:=zk Kgo hbelgd;clear hbelgd hqgd))
  | ((with_reducible refine gate_store (t:=62) (p:=5) (v:=.tmp 9) rfl ?_);go_must (refine zs 62 (.tmp 5) (.tmp 9) gd 0 62 [.string ⟨#[]⟩,.int .i64 0,.slice none 0 0,.slice none 0 0,.int .u64 0,.int .u64 0,.string ⟨#[]⟩,.int .i64 0] Kgd (by kernel_rfl) ?_;intro w5 hk ho;have Kgd : Hid (w5.heap[gd]? = some (.cells #[.string ⟨#[]⟩,.int .i64 0,.slice none 0 0,.slice none 0 0,.int .u64 0,.int .u64 0,.string ⟨#[]⟩,.int .i64 0] 62 (0,0))):=hk;have HB:=zo ho HB Lgd;have Kgb:=zl ho Kgb (by have:=M1.out;have:=M2.out;have:=M3.out;omega);have Kga:=zl ho Kga (by have:=M1.out;have:=M2.out;have:=M3.out;omega);have Kgo:=zl ho Kgo (by have:=M1.out;have:=M2.out;have:=M3.out;omega);obtain ⟨a0,a1,a2,a3,a4⟩:=zz5 Kgb.out;obtain ⟨b0,b1,b2,b3,b4,b5,b6⟩:=zz7 Kga.out;clear hk ho))
  | (go_at_call 19;go_must (refine (HC.out _ HB.out).mono ?_;rintro e w6 ⟨v,rfl,⟨A5,c5,A6,c6,rfl,y1,y2,y3,y4⟩,hb⟩;have Y3:=zh y3;have Y4:=zh y4;have HB:=keepB HB hb;have Kgo:=zk Kgo hb;have Kgd:=zk Kgd hb;clear hb y3 y4 a0 a1 a2 a3 a4 b0 b1 b2 b3 b4 b5 b6))
  | ((with_reducible refine gate_store (t:=26) (p:=45) (v:=.tmp 42) rfl ?_);go_must (refine zs 26 (.tmp 45) (.tmp 42) gd 0 62 [.string kb.f0,.int .i64 kb.f1,.slice A5 kb.f2.length c5,.slice A6 kb.f3.length c6,.int .u64 kb.f4] Kgd isz_bucket ?_;intro x0 hk ho;have Y3:=zh (didE Y3.out Kgd.out (did_like _ _ _ _ _ _ _ _ _ _ _ _) ho.out);have Y4:=zh (didU Y4.out Kgd.out (did_like _ _ _ _ _ _ _ _ _ _ _ _) ho.out);have Kgd : Hid (x0.heap[gd]? = some (.cells #[.string kb.f0,.int .i64 kb.f1,.slice A5 kb.f2.length c5,.slice A6 kb.f3.length c6,.int .u64 kb.f4,.int .u64 0,.string ⟨#[]⟩,.int .i64 0] 62 (0,0))):=hk;have HB:=zo ho HB Lgd;have Kgo:=zl ho Kgo (by have:=M3.out;omega);clear hk ho))
  | ((with_reducible refine gate_store (t:=24) (p:=46) (v:=.tmp 43) rfl ?_);go_must (refine zq 24 (.tmp 46) (.tmp 43) gd 5 62 (.int .u64 li) Kgd (by kernel_rfl) ?_;intro x1 hk ho;have Y3:=zh (didE Y3.out Kgd.out (did_like _ _ _ _ _ _ _ _ _ _ _ _) ho.out);have Y4:=zh (didU Y4.out Kgd.out (did_like _ _ _ _ _ _ _ _ _ _ _ _) ho.out);have Kgd : Hid (x1.heap[gd]? = some (.cells #[.string kb.f0,.int .i64 kb.f1,.slice A5 kb.f2.length c5,.slice A6 kb.f3.length c6,.int .u64 kb.f4,.int .u64 li,.string ⟨#[]⟩,.int .i64 0] 62 (0,0))):=hk;have HB:=zo ho HB Lgd;have Kgo:=zl ho Kgo (by have:=M3.out;omega);clear hk ho))
  | ((with_reducible refine gate_store (t:=30) (p:=47) (v:=.tmp 44) rfl ?_);go_must (refine zq 30 (.tmp 47) (.tmp 44) gd 7 62 (.int .i64 er) Kgd (by kernel_rfl) ?_;intro x2 hk ho;have Y3:=zh (didE Y3.out Kgd.out (did_like _ _ _ _ _ _ _ _ _ _ _ _) ho.out);have Y4:=zh (didU Y4.out Kgd.out (did_like _ _ _ _ _ _ _ _ _ _ _ _) ho.out);have Kgd : Hid (x2.heap[gd]? = some (.cells #[.string kb.f0,.int .i64 kb.f1,.slice A5 kb.f2.length c5,.slice A6 kb.f3.length c6,.int .u64 kb.f4,.int .u64 li,.string ⟨#[]⟩,.int .i64 er] 62 (0,0))):=hk;have HB:=zo ho HB Lgd;have Kgo:=zl ho Kgo (by have:=M3.out;omega);obtain ⟨d0,d1,d2,d3,d4,d5,d6,d7⟩:=zz8 Kgd.out;clear hk ho))
  | ((with_reducible refine gate_store (t:=62) (p:=4) (v:=.tmp 133) rfl ?_);go_must (refine zs 62 (.tmp 4) (.tmp 133) go 0 62 [.string kb.f0,.int .i64 kb.f1,.slice A5 kb.f2.length c5,.slice A6 kb.f3.length c6,.int .u64 kb.f4,.int .u64 li,.string ⟨#[]⟩,.int .i64 er] Kgo (by kernel_rfl) ?_;intro x9 hk ho;have Y3:=zh (didE Y3.out Kgo.out (did_like _ _ _ _ _ _ _ _ _ _ _ _) ho.out);have Y4:=zh (didU Y4.out Kgo.out (did_like _ _ _ _ _ _ _ _ _ _ _ _) ho.out);have HB:=zo ho HB Lgo;obtain ⟨z0,z1,z2,z3,z4,z5,z6,z7⟩:=zz8 hk.out;clear hk ho)))
 refine bodyPost_ret (v:=.agg #[.string kb.f0,.int .i64 kb.f1,.slice A5 kb.f2.length c5,.slice A6 kb.f3.length c6,.int .u64 kb.f4,.int .u64 li,.string ⟨#[]⟩,.int .i64 er]) (by simp [results,Tryz.results23,go_sem,z0,z1,z2,z3,z4,z5,z6,z7]) rfl ?_
 exact ⟨A5,c5,A6,c6,rfl,y1,y2,Y3.out,Y4.out,HB.out⟩
end
section
open Go.WideMaps Go.Maps
attribute [local go_sem] Oper.semAt_some
theorem do_del (b : S26) (A2 A3 : Option Addr) (c2 c3 : Nat) (kd id n q : Int) (key data : ByteArray) (A : Option Addr) (ps : List S43) (c : Nat) (w : World) (h2 : Kd.C k56 w A2 b.f2.length b.f2) (g2 : b.f2.length ≤ c2) (h3 : Kd.C k101 w A3 b.f3.length b.f3) (g3 : b.f3.length ≤ c3) (hk : Int.tmod kd 9 = 2) :
  Calls Tryz.prog 23 #[.agg #[.string b.f0,.int .i64 b.f1,.slice A2 b.f2.length c2,.slice A3 b.f3.length c3,.int .u64 b.f4],.agg #[.int .u8 kd,.string key,.string data,.int .u64 id,.int .i64 n,.int .i64 q,.slice A ps.length c]] w (DoPost (laidR b key (fun l id=>deleteV l b.f1 id q)).1 (laidR b key (fun l id=>deleteV l b.f1 id q)).2.1 ⟨#[]⟩ (laidR b key (fun l id=>deleteV l b.f1 id q)).2.2 w):=by
 have HC:=zh (fun (W : World) (h : Below w.heap.size w W)=>delB.walk b A2 A3 c2 c3 key q W (Kd.C_below h2 h) g2 (Kd.C_below h3 h) g3)
 generalize laidR b key (fun l id=>deleteV l b.f1 id q) = r at *
 obtain ⟨kb,li,er⟩:=r
 have HB:=zh (Below.refl w.heap.size w)
 have kf : ∀ j : Int,(Int.tmod kd 9 == j) = ((2 : Int) == j):=fun j=>by rw [hk]
 have e0 : (Int.tmod kd 9 == 0) = false:=kf 0
 have e1 : (Int.tmod kd 9 == 1) = false:=kf 1
 have e2 : (Int.tmod kd 9 == 2) = true:=kf 2
 have e3 : (Int.tmod kd 9 == 3) = false:=kf 3
 have e4 : (Int.tmod kd 9 == 4) = false:=kf 4
 have e5 : (Int.tmod kd 9 == 5) = false:=kf 5
 have e6 : (Int.tmod kd 9 == 6) = false:=kf 6
 have e7 : (Int.tmod kd 9 == 7) = false:=kf 7
 clear h2 h3 g2 g3 kf hk
 go_enter Tryz.func23,Tryz.ntmps23
 go_wp2_with (first
  | ((with_reducible refine gate_dst (N:=2) rfl ?_);go_must (refine zx HB (N:=2) (cs:=#[.string b.f0,.int .i64 b.f1,.slice A2 b.f2.length c2,.slice A3 b.f3.length c3,.int .u64 b.f4]) (t:=26) ?hr ?_;(case hr=>first | (go_simp;done) | (go_simp;rfl));intro gb w1 Kgb Lgb HB hbelgb hqgb;clear hbelgb hqgb))
  | ((with_reducible refine gate_dst (N:=3) rfl ?_);go_must (refine zx HB (N:=3) (cs:=#[.int .u8 kd,.string key,.string data,.int .u64 id,.int .i64 n,.int .i64 q,.slice A ps.length c]) (t:=59) ?hr ?_;(case hr=>first | (go_simp;done) | (go_simp;rfl));intro ga w2 Kga Lga HB hbelga hqga;have M1:=zh (show gb < ga by rw [hqga];exact blk_lt Kgb.out);have Kgb:=zk Kgb hbelga;clear hbelga hqga))
  | ((with_reducible refine gate_dst (N:=4) rfl ?_);go_must (refine zx HB (N:=4) (cs:=#[.string ⟨#[]⟩,.int .i64 0,.slice none 0 0,.slice none 0 0,.int .u64 0,.int .u64 0,.string ⟨#[]⟩,.int .i64 0]) (t:=62) ?hr ?_;(case hr=>first | (go_simp;done) | (go_simp;rfl));intro go w3 Kgo Lgo HB hbelgo hqgo;have M2:=zh (show ga < go by rw [hqgo];exact blk_lt Kga.out);have Kgb:=zk Kgb hbelgo;have Kga:=zk Kga hbelgo;clear hbelgo hqgo))
  | ((with_reducible refine gate_dst (N:=5) rfl ?_);go_must (refine zx HB (N:=5) (cs:=#[.string ⟨#[]⟩,.int .i64 0,.slice none 0 0,.slice none 0 0,.int .u64 0,.int .u64 0,.string ⟨#[]⟩,.int .i64 0]) (t:=62) ?hr ?_;(case hr=>first | (go_simp;done) | (go_simp;rfl));intro gd w4 Kgd Lgd HB hbelgd hqgd;have M3:=zh (show go < gd by rw [hqgd];exact blk_lt Kgo.out);have Kgb:=zk Kgb hbelgd;have Kga:=zk Kga hbelgd;have Kgo:=zk Kgo hbelgd;clear hbelgd hqgd))
  | ((with_reducible refine gate_store (t:=62) (p:=5) (v:=.tmp 9) rfl ?_);go_must (refine zs 62 (.tmp 5) (.tmp 9) gd 0 62 [.string ⟨#[]⟩,.int .i64 0,.slice none 0 0,.slice none 0 0,.int .u64 0,.int .u64 0,.string ⟨#[]⟩,.int .i64 0] Kgd (by kernel_rfl) ?_;intro w5 hk ho;have Kgd : Hid (w5.heap[gd]? = some (.cells #[.string ⟨#[]⟩,.int .i64 0,.slice none 0 0,.slice none 0 0,.int .u64 0,.int .u64 0,.string ⟨#[]⟩,.int .i64 0] 62 (0,0))):=hk;have HB:=zo ho HB Lgd;have Kgb:=zl ho Kgb (by have:=M1.out;have:=M2.out;have:=M3.out;omega);have Kga:=zl ho Kga (by have:=M1.out;have:=M2.out;have:=M3.out;omega);have Kgo:=zl ho Kgo (by have:=M1.out;have:=M2.out;have:=M3.out;omega);obtain ⟨a0,a1,a2,a3,a4⟩:=zz5 Kgb.out;obtain ⟨b0,b1,b2,b3,b4,b5,b6⟩:=zz7 Kga.out;clear hk ho))
  | (go_at_call 39;go_must (refine (HC.out _ HB.out).mono ?_;rintro e w6 ⟨v,rfl,⟨A5,c5,A6,c6,rfl,y1,y2,y3,y4⟩,hb⟩;have Y3:=zh y3;have Y4:=zh y4;have HB:=keepB HB hb;have Kgo:=zk Kgo hb;have Kgd:=zk Kgd hb;clear hb y3 y4 a0 a1 a2 a3 a4 b0 b1 b2 b3 b4 b5 b6))
  | ((with_reducible refine gate_store (t:=26) (p:=60) (v:=.tmp 57) rfl ?_);go_must (refine zs 26 (.tmp 60) (.tmp 57) gd 0 62 [.string kb.f0,.int .i64 kb.f1,.slice A5 kb.f2.length c5,.slice A6 kb.f3.length c6,.int .u64 kb.f4] Kgd isz_bucket ?_;intro x0 hk ho;have Y3:=zh (didE Y3.out Kgd.out (did_like _ _ _ _ _ _ _ _ _ _ _ _) ho.out);have Y4:=zh (didU Y4.out Kgd.out (did_like _ _ _ _ _ _ _ _ _ _ _ _) ho.out);have Kgd : Hid (x0.heap[gd]? = some (.cells #[.string kb.f0,.int .i64 kb.f1,.slice A5 kb.f2.length c5,.slice A6 kb.f3.length c6,.int .u64 kb.f4,.int .u64 0,.string ⟨#[]⟩,.int .i64 0] 62 (0,0))):=hk;have HB:=zo ho HB Lgd;have Kgo:=zl ho Kgo (by have:=M3.out;omega);clear hk ho))
  | ((with_reducible refine gate_store (t:=24) (p:=61) (v:=.tmp 58) rfl ?_);go_must (refine zq 24 (.tmp 61) (.tmp 58) gd 5 62 (.int .u64 li) Kgd (by kernel_rfl) ?_;intro x1 hk ho;have Y3:=zh (didE Y3.out Kgd.out (did_like _ _ _ _ _ _ _ _ _ _ _ _) ho.out);have Y4:=zh (didU Y4.out Kgd.out (did_like _ _ _ _ _ _ _ _ _ _ _ _) ho.out);have Kgd : Hid (x1.heap[gd]? = some (.cells #[.string kb.f0,.int .i64 kb.f1,.slice A5 kb.f2.length c5,.slice A6 kb.f3.length c6,.int .u64 kb.f4,.int .u64 li,.string ⟨#[]⟩,.int .i64 0] 62 (0,0))):=hk;have HB:=zo ho HB Lgd;have Kgo:=zl ho Kgo (by have:=M3.out;omega);clear hk ho))
  | ((with_reducible refine gate_store (t:=30) (p:=62) (v:=.tmp 59) rfl ?_);go_must (refine zq 30 (.tmp 62) (.tmp 59) gd 7 62 (.int .i64 er) Kgd (by kernel_rfl) ?_;intro x2 hk ho;have Y3:=zh (didE Y3.out Kgd.out (did_like _ _ _ _ _ _ _ _ _ _ _ _) ho.out);have Y4:=zh (didU Y4.out Kgd.out (did_like _ _ _ _ _ _ _ _ _ _ _ _) ho.out);have Kgd : Hid (x2.heap[gd]? = some (.cells #[.string kb.f0,.int .i64 kb.f1,.slice A5 kb.f2.length c5,.slice A6 kb.f3.length c6,.int .u64 kb.f4,.int .u64 li,.string ⟨#[]⟩,.int .i64 er] 62 (0,0))):=hk;have HB:=zo ho HB Lgd;have Kgo:=zl ho Kgo (by have:=M3.out;omega);obtain ⟨d0,d1,d2,d3,d4,d5,d6,d7⟩:=zz8 Kgd.out;clear hk ho))
  | ((with_reducible refine gate_store (t:=62) (p:=4) (v:=.tmp 133) rfl ?_);go_must (refine zs 62 (.tmp 4) (.tmp 133) go 0 62 [.string kb.f0,.int .i64 kb.f1,.slice A5 kb.f2.length c5,.slice A6 kb.f3.length c6,.int .u64 kb.f4,.int .u64 li,.string ⟨#[]⟩,.int .i64 er] Kgo (by kernel_rfl) ?_;intro x9 hk ho;have Y3:=zh (didE Y3.out Kgo.out (did_like _ _ _ _ _ _ _ _ _ _ _ _) ho.out);have Y4:=zh (didU Y4.out Kgo.out (did_like _ _ _ _ _ _ _ _ _ _ _ _) ho.out);have HB:=zo ho HB Lgo;obtain ⟨z0,z1,z2,z3,z4,z5,z6,z7⟩:=zz8 hk.out;clear hk ho)))
 refine bodyPost_ret (v:=.agg #[.string kb.f0,.int .i64 kb.f1,.slice A5 kb.f2.length c5,.slice A6 kb.f3.length c6,.int .u64 kb.f4,.int .u64 li,.string ⟨#[]⟩,.int .i64 er]) (by simp [results,Tryz.results23,go_sem,z0,z1,z2,z3,z4,z5,z6,z7]) rfl ?_
 exact ⟨A5,c5,A6,c6,rfl,y1,y2,Y3.out,Y4.out,HB.out⟩
theorem do_drop (b : S26) (A2 A3 : Option Addr) (c2 c3 : Nat) (kd id n q : Int) (key data : ByteArray) (A : Option Addr) (ps : List S43) (c : Nat) (w : World) (h2 : Kd.C k56 w A2 b.f2.length b.f2) (g2 : b.f2.length ≤ c2) (h3 : Kd.C k101 w A3 b.f3.length b.f3) (g3 : b.f3.length ≤ c3) (hk : Int.tmod kd 9 = 3) :
  Calls Tryz.prog 23 #[.agg #[.string b.f0,.int .i64 b.f1,.slice A2 b.f2.length c2,.slice A3 b.f3.length c3,.int .u64 b.f4],.agg #[.int .u8 kd,.string key,.string data,.int .u64 id,.int .i64 n,.int .i64 q,.slice A ps.length c]] w (DoPost (dropB b key id).1 0 ⟨#[]⟩ (dropB b key id).2 w):=by
 have HC:=zh (fun (W : World) (h : Below w.heap.size w W)=>dropB.walk b A2 A3 c2 c3 key id W (Kd.C_below h2 h) g2 (Kd.C_below h3 h) g3)
 generalize dropB b key id = r at *
 obtain ⟨kb,er⟩:=r
 have HB:=zh (Below.refl w.heap.size w)
 have kf : ∀ j : Int,(Int.tmod kd 9 == j) = ((3 : Int) == j):=fun j=>by rw [hk]
 have e0 : (Int.tmod kd 9 == 0) = false:=kf 0
 have e1 : (Int.tmod kd 9 == 1) = false:=kf 1
 have e2 : (Int.tmod kd 9 == 2) = false:=kf 2
 have e3 : (Int.tmod kd 9 == 3) = true:=kf 3
 have e4 : (Int.tmod kd 9 == 4) = false:=kf 4
 have e5 : (Int.tmod kd 9 == 5) = false:=kf 5
 have e6 : (Int.tmod kd 9 == 6) = false:=kf 6
 have e7 : (Int.tmod kd 9 == 7) = false:=kf 7
 clear h2 h3 g2 g3 kf hk
 go_enter Tryz.func23,Tryz.ntmps23
 go_wp2_with (first
  | ((with_reducible refine gate_dst (N:=2) rfl ?_);go_must (refine zx HB (N:=2) (cs:=#[.string b.f0,.int .i64 b.f1,.slice A2 b.f2.length c2,.slice A3 b.f3.length c3,.int .u64 b.f4]) (t:=26) ?hr ?_;(case hr=>first | (go_simp;done) | (go_simp;rfl));intro gb w1 Kgb Lgb HB hbelgb hqgb;clear hbelgb hqgb))
  | ((with_reducible refine gate_dst (N:=3) rfl ?_);go_must (refine zx HB (N:=3) (cs:=#[.int .u8 kd,.string key,.string data,.int .u64 id,.int .i64 n,.int .i64 q,.slice A ps.length c]) (t:=59) ?hr ?_;(case hr=>first | (go_simp;done) | (go_simp;rfl));intro ga w2 Kga Lga HB hbelga hqga;have M1:=zh (show gb < ga by rw [hqga];exact blk_lt Kgb.out);have Kgb:=zk Kgb hbelga;clear hbelga hqga))
  | ((with_reducible refine gate_dst (N:=4) rfl ?_);go_must (refine zx HB (N:=4) (cs:=#[.string ⟨#[]⟩,.int .i64 0,.slice none 0 0,.slice none 0 0,.int .u64 0,.int .u64 0,.string ⟨#[]⟩,.int .i64 0]) (t:=62) ?hr ?_;(case hr=>first | (go_simp;done) | (go_simp;rfl));intro go w3 Kgo Lgo HB hbelgo hqgo;have M2:=zh (show ga < go by rw [hqgo];exact blk_lt Kga.out);have Kgb:=zk Kgb hbelgo;have Kga:=zk Kga hbelgo;clear hbelgo hqgo))
  | ((with_reducible refine gate_dst (N:=5) rfl ?_);go_must (refine zx HB (N:=5) (cs:=#[.string ⟨#[]⟩,.int .i64 0,.slice none 0 0,.slice none 0 0,.int .u64 0,.int .u64 0,.string ⟨#[]⟩,.int .i64 0]) (t:=62) ?hr ?_;(case hr=>first | (go_simp;done) | (go_simp;rfl));intro gd w4 Kgd Lgd HB hbelgd hqgd;have M3:=zh (show go < gd by rw [hqgd];exact blk_lt Kgo.out);have Kgb:=zk Kgb hbelgd;have Kga:=zk Kga hbelgd;have Kgo:=zk Kgo hbelgd;clear hbelgd hqgd))
  | ((with_reducible refine gate_store (t:=62) (p:=5) (v:=.tmp 9) rfl ?_);go_must (refine zs 62 (.tmp 5) (.tmp 9) gd 0 62 [.string ⟨#[]⟩,.int .i64 0,.slice none 0 0,.slice none 0 0,.int .u64 0,.int .u64 0,.string ⟨#[]⟩,.int .i64 0] Kgd (by kernel_rfl) ?_;intro w5 hk ho;have Kgd : Hid (w5.heap[gd]? = some (.cells #[.string ⟨#[]⟩,.int .i64 0,.slice none 0 0,.slice none 0 0,.int .u64 0,.int .u64 0,.string ⟨#[]⟩,.int .i64 0] 62 (0,0))):=hk;have HB:=zo ho HB Lgd;have Kgb:=zl ho Kgb (by have:=M1.out;have:=M2.out;have:=M3.out;omega);have Kga:=zl ho Kga (by have:=M1.out;have:=M2.out;have:=M3.out;omega);have Kgo:=zl ho Kgo (by have:=M1.out;have:=M2.out;have:=M3.out;omega);obtain ⟨a0,a1,a2,a3,a4⟩:=zz5 Kgb.out;obtain ⟨b0,b1,b2,b3,b4,b5,b6⟩:=zz7 Kga.out;clear hk ho))
  | (go_at_call 40;go_must (refine (HC.out _ HB.out).mono ?_;rintro e w6 ⟨v,rfl,⟨A5,c5,A6,c6,rfl,y1,y2,y3,y4⟩,hb⟩;have Y3:=zh y3;have Y4:=zh y4;have HB:=keepB HB hb;have Kgo:=zk Kgo hb;have Kgd:=zk Kgd hb;clear hb y3 y4 a0 a1 a2 a3 a4 b0 b1 b2 b3 b4 b5 b6))
  | ((with_reducible refine gate_store (t:=26) (p:=74) (v:=.tmp 72) rfl ?_);go_must (refine zs 26 (.tmp 74) (.tmp 72) gd 0 62 [.string kb.f0,.int .i64 kb.f1,.slice A5 kb.f2.length c5,.slice A6 kb.f3.length c6,.int .u64 kb.f4] Kgd isz_bucket ?_;intro x0 hk ho;have Y3:=zh (didE Y3.out Kgd.out (did_like _ _ _ _ _ _ _ _ _ _ _ _) ho.out);have Y4:=zh (didU Y4.out Kgd.out (did_like _ _ _ _ _ _ _ _ _ _ _ _) ho.out);have Kgd : Hid (x0.heap[gd]? = some (.cells #[.string kb.f0,.int .i64 kb.f1,.slice A5 kb.f2.length c5,.slice A6 kb.f3.length c6,.int .u64 kb.f4,.int .u64 0,.string ⟨#[]⟩,.int .i64 0] 62 (0,0))):=hk;have HB:=zo ho HB Lgd;have Kgo:=zl ho Kgo (by have:=M3.out;omega);clear hk ho))
  | ((with_reducible refine gate_store (t:=30) (p:=75) (v:=.tmp 73) rfl ?_);go_must (refine zq 30 (.tmp 75) (.tmp 73) gd 7 62 (.int .i64 er) Kgd (by kernel_rfl) ?_;intro x1 hk ho;have Y3:=zh (didE Y3.out Kgd.out (did_like _ _ _ _ _ _ _ _ _ _ _ _) ho.out);have Y4:=zh (didU Y4.out Kgd.out (did_like _ _ _ _ _ _ _ _ _ _ _ _) ho.out);have Kgd : Hid (x1.heap[gd]? = some (.cells #[.string kb.f0,.int .i64 kb.f1,.slice A5 kb.f2.length c5,.slice A6 kb.f3.length c6,.int .u64 kb.f4,.int .u64 0,.string ⟨#[]⟩,.int .i64 er] 62 (0,0))):=hk;have HB:=zo ho HB Lgd;have Kgo:=zl ho Kgo (by have:=M3.out;omega);obtain ⟨d0,d1,d2,d3,d4,d5,d6,d7⟩:=zz8 Kgd.out;clear hk ho))
  | ((with_reducible refine gate_store (t:=62) (p:=4) (v:=.tmp 133) rfl ?_);go_must (refine zs 62 (.tmp 4) (.tmp 133) go 0 62 [.string kb.f0,.int .i64 kb.f1,.slice A5 kb.f2.length c5,.slice A6 kb.f3.length c6,.int .u64 kb.f4,.int .u64 0,.string ⟨#[]⟩,.int .i64 er] Kgo (by kernel_rfl) ?_;intro x9 hk ho;have Y3:=zh (didE Y3.out Kgo.out (did_like _ _ _ _ _ _ _ _ _ _ _ _) ho.out);have Y4:=zh (didU Y4.out Kgo.out (did_like _ _ _ _ _ _ _ _ _ _ _ _) ho.out);have HB:=zo ho HB Lgo;obtain ⟨z0,z1,z2,z3,z4,z5,z6,z7⟩:=zz8 hk.out;clear hk ho)))
 refine bodyPost_ret (v:=.agg #[.string kb.f0,.int .i64 kb.f1,.slice A5 kb.f2.length c5,.slice A6 kb.f3.length c6,.int .u64 kb.f4,.int .u64 0,.string ⟨#[]⟩,.int .i64 er]) (by simp [results,Tryz.results23,go_sem,z0,z1,z2,z3,z4,z5,z6,z7]) rfl ?_
 exact ⟨A5,c5,A6,c6,rfl,y1,y2,Y3.out,Y4.out,HB.out⟩
theorem do_turn (b : S26) (A2 A3 : Option Addr) (c2 c3 : Nat) (kd id n q : Int) (key data : ByteArray) (A : Option Addr) (ps : List S43) (c : Nat) (w : World) (h2 : Kd.C k56 w A2 b.f2.length b.f2) (g2 : b.f2.length ≤ c2) (h3 : Kd.C k101 w A3 b.f3.length b.f3) (g3 : b.f3.length ≤ c3) (hk : Int.tmod kd 9 = 4) :
  Calls Tryz.prog 23 #[.agg #[.string b.f0,.int .i64 b.f1,.slice A2 b.f2.length c2,.slice A3 b.f3.length c3,.int .u64 b.f4],.agg #[.int .u8 kd,.string key,.string data,.int .u64 id,.int .i64 n,.int .i64 q,.slice A ps.length c]] w (DoPost (turnB b n).1 0 ⟨#[]⟩ (turnB b n).2 w):=by
 have HC:=zh (fun (W : World) (h : Below w.heap.size w W)=>turnB.walk b A2 A3 c2 c3 n W (Kd.C_below h2 h) g2 (Kd.C_below h3 h) g3)
 generalize turnB b n = r at *
 obtain ⟨kb,er⟩:=r
 have HB:=zh (Below.refl w.heap.size w)
 have kf : ∀ j : Int,(Int.tmod kd 9 == j) = ((4 : Int) == j):=fun j=>by rw [hk]
 have e0 : (Int.tmod kd 9 == 0) = false:=kf 0
 have e1 : (Int.tmod kd 9 == 1) = false:=kf 1
 have e2 : (Int.tmod kd 9 == 2) = false:=kf 2
 have e3 : (Int.tmod kd 9 == 3) = false:=kf 3
 have e4 : (Int.tmod kd 9 == 4) = true:=kf 4
 have e5 : (Int.tmod kd 9 == 5) = false:=kf 5
 have e6 : (Int.tmod kd 9 == 6) = false:=kf 6
 have e7 : (Int.tmod kd 9 == 7) = false:=kf 7
 clear h2 h3 g2 g3 kf hk
 go_enter Tryz.func23,Tryz.ntmps23
 go_wp2_with (first
  | ((with_reducible refine gate_dst (N:=2) rfl ?_);go_must (refine zx HB (N:=2) (cs:=#[.string b.f0,.int .i64 b.f1,.slice A2 b.f2.length c2,.slice A3 b.f3.length c3,.int .u64 b.f4]) (t:=26) ?hr ?_;(case hr=>first | (go_simp;done) | (go_simp;rfl));intro gb w1 Kgb Lgb HB hbelgb hqgb;clear hbelgb hqgb))
  | ((with_reducible refine gate_dst (N:=3) rfl ?_);go_must (refine zx HB (N:=3) (cs:=#[.int .u8 kd,.string key,.string data,.int .u64 id,.int .i64 n,.int .i64 q,.slice A ps.length c]) (t:=59) ?hr ?_;(case hr=>first | (go_simp;done) | (go_simp;rfl));intro ga w2 Kga Lga HB hbelga hqga;have M1:=zh (show gb < ga by rw [hqga];exact blk_lt Kgb.out);have Kgb:=zk Kgb hbelga;clear hbelga hqga))
  | ((with_reducible refine gate_dst (N:=4) rfl ?_);go_must (refine zx HB (N:=4) (cs:=#[.string ⟨#[]⟩,.int .i64 0,.slice none 0 0,.slice none 0 0,.int .u64 0,.int .u64 0,.string ⟨#[]⟩,.int .i64 0]) (t:=62) ?hr ?_;(case hr=>first | (go_simp;done) | (go_simp;rfl));intro go w3 Kgo Lgo HB hbelgo hqgo;have M2:=zh (show ga < go by rw [hqgo];exact blk_lt Kga.out);have Kgb:=zk Kgb hbelgo;have Kga:=zk Kga hbelgo;clear hbelgo hqgo))
  | ((with_reducible refine gate_dst (N:=5) rfl ?_);go_must (refine zx HB (N:=5) (cs:=#[.string ⟨#[]⟩,.int .i64 0,.slice none 0 0,.slice none 0 0,.int .u64 0,.int .u64 0,.string ⟨#[]⟩,.int .i64 0]) (t:=62) ?hr ?_;(case hr=>first | (go_simp;done) | (go_simp;rfl));intro gd w4 Kgd Lgd HB hbelgd hqgd;have M3:=zh (show go < gd by rw [hqgd];exact blk_lt Kgo.out);have Kgb:=zk Kgb hbelgd;have Kga:=zk Kga hbelgd;have Kgo:=zk Kgo hbelgd;clear hbelgd hqgd))
  | ((with_reducible refine gate_store (t:=62) (p:=5) (v:=.tmp 9) rfl ?_);go_must (refine zs 62 (.tmp 5) (.tmp 9) gd 0 62 [.string ⟨#[]⟩,.int .i64 0,.slice none 0 0,.slice none 0 0,.int .u64 0,.int .u64 0,.string ⟨#[]⟩,.int .i64 0] Kgd (by kernel_rfl) ?_;intro w5 hk ho;have Kgd : Hid (w5.heap[gd]? = some (.cells #[.string ⟨#[]⟩,.int .i64 0,.slice none 0 0,.slice none 0 0,.int .u64 0,.int .u64 0,.string ⟨#[]⟩,.int .i64 0] 62 (0,0))):=hk;have HB:=zo ho HB Lgd;have Kgb:=zl ho Kgb (by have:=M1.out;have:=M2.out;have:=M3.out;omega);have Kga:=zl ho Kga (by have:=M1.out;have:=M2.out;have:=M3.out;omega);have Kgo:=zl ho Kgo (by have:=M1.out;have:=M2.out;have:=M3.out;omega);obtain ⟨a0,a1,a2,a3,a4⟩:=zz5 Kgb.out;obtain ⟨b0,b1,b2,b3,b4,b5,b6⟩:=zz7 Kga.out;clear hk ho))
  | (go_at_call 27;go_must (refine (HC.out _ HB.out).mono ?_;rintro e w6 ⟨v,rfl,⟨A5,c5,A6,c6,rfl,y1,y2,y3,y4⟩,hb⟩;have Y3:=zh y3;have Y4:=zh y4;have HB:=keepB HB hb;have Kgo:=zk Kgo hb;have Kgd:=zk Kgd hb;clear hb y3 y4 a0 a1 a2 a3 a4 b0 b1 b2 b3 b4 b5 b6))
  | ((with_reducible refine gate_store (t:=26) (p:=85) (v:=.tmp 83) rfl ?_);go_must (refine zs 26 (.tmp 85) (.tmp 83) gd 0 62 [.string kb.f0,.int .i64 kb.f1,.slice A5 kb.f2.length c5,.slice A6 kb.f3.length c6,.int .u64 kb.f4] Kgd isz_bucket ?_;intro x0 hk ho;have Y3:=zh (didE Y3.out Kgd.out (did_like _ _ _ _ _ _ _ _ _ _ _ _) ho.out);have Y4:=zh (didU Y4.out Kgd.out (did_like _ _ _ _ _ _ _ _ _ _ _ _) ho.out);have Kgd : Hid (x0.heap[gd]? = some (.cells #[.string kb.f0,.int .i64 kb.f1,.slice A5 kb.f2.length c5,.slice A6 kb.f3.length c6,.int .u64 kb.f4,.int .u64 0,.string ⟨#[]⟩,.int .i64 0] 62 (0,0))):=hk;have HB:=zo ho HB Lgd;have Kgo:=zl ho Kgo (by have:=M3.out;omega);clear hk ho))
  | ((with_reducible refine gate_store (t:=30) (p:=86) (v:=.tmp 84) rfl ?_);go_must (refine zq 30 (.tmp 86) (.tmp 84) gd 7 62 (.int .i64 er) Kgd (by kernel_rfl) ?_;intro x1 hk ho;have Y3:=zh (didE Y3.out Kgd.out (did_like _ _ _ _ _ _ _ _ _ _ _ _) ho.out);have Y4:=zh (didU Y4.out Kgd.out (did_like _ _ _ _ _ _ _ _ _ _ _ _) ho.out);have Kgd : Hid (x1.heap[gd]? = some (.cells #[.string kb.f0,.int .i64 kb.f1,.slice A5 kb.f2.length c5,.slice A6 kb.f3.length c6,.int .u64 kb.f4,.int .u64 0,.string ⟨#[]⟩,.int .i64 er] 62 (0,0))):=hk;have HB:=zo ho HB Lgd;have Kgo:=zl ho Kgo (by have:=M3.out;omega);obtain ⟨d0,d1,d2,d3,d4,d5,d6,d7⟩:=zz8 Kgd.out;clear hk ho))
  | ((with_reducible refine gate_store (t:=62) (p:=4) (v:=.tmp 133) rfl ?_);go_must (refine zs 62 (.tmp 4) (.tmp 133) go 0 62 [.string kb.f0,.int .i64 kb.f1,.slice A5 kb.f2.length c5,.slice A6 kb.f3.length c6,.int .u64 kb.f4,.int .u64 0,.string ⟨#[]⟩,.int .i64 er] Kgo (by kernel_rfl) ?_;intro x9 hk ho;have Y3:=zh (didE Y3.out Kgo.out (did_like _ _ _ _ _ _ _ _ _ _ _ _) ho.out);have Y4:=zh (didU Y4.out Kgo.out (did_like _ _ _ _ _ _ _ _ _ _ _ _) ho.out);have HB:=zo ho HB Lgo;obtain ⟨z0,z1,z2,z3,z4,z5,z6,z7⟩:=zz8 hk.out;clear hk ho)))
 refine bodyPost_ret (v:=.agg #[.string kb.f0,.int .i64 kb.f1,.slice A5 kb.f2.length c5,.slice A6 kb.f3.length c6,.int .u64 kb.f4,.int .u64 0,.string ⟨#[]⟩,.int .i64 er]) (by simp [results,Tryz.results23,go_sem,z0,z1,z2,z3,z4,z5,z6,z7]) rfl ?_
 exact ⟨A5,c5,A6,c6,rfl,y1,y2,Y3.out,Y4.out,HB.out⟩
theorem do_begin (b : S26) (A2 A3 : Option Addr) (c2 c3 : Nat) (kd id n q : Int) (key data : ByteArray) (A : Option Addr) (ps : List S43) (c : Nat) (w : World) (h2 : Kd.C k56 w A2 b.f2.length b.f2) (g2 : b.f2.length ≤ c2) (h3 : Kd.C k101 w A3 b.f3.length b.f3) (g3 : b.f3.length ≤ c3) (hk : Int.tmod kd 9 = 5) :
  Calls Tryz.prog 23 #[.agg #[.string b.f0,.int .i64 b.f1,.slice A2 b.f2.length c2,.slice A3 b.f3.length c3,.int .u64 b.f4],.agg #[.int .u8 kd,.string key,.string data,.int .u64 id,.int .i64 n,.int .i64 q,.slice A ps.length c]] w (DoPost (beginB b key).1 (beginB b key).2.1 ⟨#[]⟩ (beginB b key).2.2 w):=by
 have HC:=zh (fun (W : World) (h : Below w.heap.size w W)=>beginB.walk b A2 A3 c2 c3 key W (Kd.C_below h2 h) g2 (Kd.C_below h3 h) g3)
 generalize beginB b key = r at *
 obtain ⟨kb,li,er⟩:=r
 have HB:=zh (Below.refl w.heap.size w)
 have kf : ∀ j : Int,(Int.tmod kd 9 == j) = ((5 : Int) == j):=fun j=>by rw [hk]
 have e0 : (Int.tmod kd 9 == 0) = false:=kf 0
 have e1 : (Int.tmod kd 9 == 1) = false:=kf 1
 have e2 : (Int.tmod kd 9 == 2) = false:=kf 2
 have e3 : (Int.tmod kd 9 == 3) = false:=kf 3
 have e4 : (Int.tmod kd 9 == 4) = false:=kf 4
 have e5 : (Int.tmod kd 9 == 5) = true:=kf 5
 have e6 : (Int.tmod kd 9 == 6) = false:=kf 6
 have e7 : (Int.tmod kd 9 == 7) = false:=kf 7
 clear h2 h3 g2 g3 kf hk
 go_enter Tryz.func23,Tryz.ntmps23
 go_wp2_with (first
  | ((with_reducible refine gate_dst (N:=2) rfl ?_);go_must (refine zx HB (N:=2) (cs:=#[.string b.f0,.int .i64 b.f1,.slice A2 b.f2.length c2,.slice A3 b.f3.length c3,.int .u64 b.f4]) (t:=26) ?hr ?_;(case hr=>first | (go_simp;done) | (go_simp;rfl));intro gb w1 Kgb Lgb HB hbelgb hqgb;clear hbelgb hqgb))
  | ((with_reducible refine gate_dst (N:=3) rfl ?_);go_must (refine zx HB (N:=3) (cs:=#[.int .u8 kd,.string key,.string data,.int .u64 id,.int .i64 n,.int .i64 q,.slice A ps.length c]) (t:=59) ?hr ?_;(case hr=>first | (go_simp;done) | (go_simp;rfl));intro ga w2 Kga Lga HB hbelga hqga;have M1:=zh (show gb < ga by rw [hqga];exact blk_lt Kgb.out);have Kgb:=zk Kgb hbelga;clear hbelga hqga))
  | ((with_reducible refine gate_dst (N:=4) rfl ?_);go_must (refine zx HB (N:=4) (cs:=#[.string ⟨#[]⟩,.int .i64 0,.slice none 0 0,.slice none 0 0,.int .u64 0,.int .u64 0,.string ⟨#[]⟩,.int .i64 0]) (t:=62) ?hr ?_;(case hr=>first | (go_simp;done) | (go_simp;rfl));intro go w3 Kgo Lgo HB hbelgo hqgo;have M2:=zh (show ga < go by rw [hqgo];exact blk_lt Kga.out);have Kgb:=zk Kgb hbelgo;have Kga:=zk Kga hbelgo;clear hbelgo hqgo))
  | ((with_reducible refine gate_dst (N:=5) rfl ?_);go_must (refine zx HB (N:=5) (cs:=#[.string ⟨#[]⟩,.int .i64 0,.slice none 0 0,.slice none 0 0,.int .u64 0,.int .u64 0,.string ⟨#[]⟩,.int .i64 0]) (t:=62) ?hr ?_;(case hr=>first | (go_simp;done) | (go_simp;rfl));intro gd w4 Kgd Lgd HB hbelgd hqgd;have M3:=zh (show go < gd by rw [hqgd];exact blk_lt Kgo.out);have Kgb:=zk Kgb hbelgd;have Kga:=zk Kga hbelgd;have Kgo:=zk Kgo hbelgd;clear hbelgd hqgd))
  | ((with_reducible refine gate_store (t:=62) (p:=5) (v:=.tmp 9) rfl ?_);go_must (refine zs 62 (.tmp 5) (.tmp 9) gd 0 62 [.string ⟨#[]⟩,.int .i64 0,.slice none 0 0,.slice none 0 0,.int .u64 0,.int .u64 0,.string ⟨#[]⟩,.int .i64 0] Kgd (by kernel_rfl) ?_;intro w5 hk ho;have Kgd : Hid (w5.heap[gd]? = some (.cells #[.string ⟨#[]⟩,.int .i64 0,.slice none 0 0,.slice none 0 0,.int .u64 0,.int .u64 0,.string ⟨#[]⟩,.int .i64 0] 62 (0,0))):=hk;have HB:=zo ho HB Lgd;have Kgb:=zl ho Kgb (by have:=M1.out;have:=M2.out;have:=M3.out;omega);have Kga:=zl ho Kga (by have:=M1.out;have:=M2.out;have:=M3.out;omega);have Kgo:=zl ho Kgo (by have:=M1.out;have:=M2.out;have:=M3.out;omega);obtain ⟨a0,a1,a2,a3,a4⟩:=zz5 Kgb.out;obtain ⟨b0,b1,b2,b3,b4,b5,b6⟩:=zz7 Kga.out;clear hk ho))
  | (go_at_call 12;go_must (refine (HC.out _ HB.out).mono ?_;rintro e w6 ⟨v,rfl,⟨A5,c5,A6,c6,rfl,y1,y2,y3,y4⟩,hb⟩;have Y3:=zh y3;have Y4:=zh y4;have HB:=keepB HB hb;have Kgo:=zk Kgo hb;have Kgd:=zk Kgd hb;clear hb y3 y4 a0 a1 a2 a3 a4 b0 b1 b2 b3 b4 b5 b6))
  | ((with_reducible refine gate_store (t:=26) (p:=97) (v:=.tmp 94) rfl ?_);go_must (refine zs 26 (.tmp 97) (.tmp 94) gd 0 62 [.string kb.f0,.int .i64 kb.f1,.slice A5 kb.f2.length c5,.slice A6 kb.f3.length c6,.int .u64 kb.f4] Kgd isz_bucket ?_;intro x0 hk ho;have Y3:=zh (didE Y3.out Kgd.out (did_like _ _ _ _ _ _ _ _ _ _ _ _) ho.out);have Y4:=zh (didU Y4.out Kgd.out (did_like _ _ _ _ _ _ _ _ _ _ _ _) ho.out);have Kgd : Hid (x0.heap[gd]? = some (.cells #[.string kb.f0,.int .i64 kb.f1,.slice A5 kb.f2.length c5,.slice A6 kb.f3.length c6,.int .u64 kb.f4,.int .u64 0,.string ⟨#[]⟩,.int .i64 0] 62 (0,0))):=hk;have HB:=zo ho HB Lgd;have Kgo:=zl ho Kgo (by have:=M3.out;omega);clear hk ho))
  | ((with_reducible refine gate_store (t:=24) (p:=98) (v:=.tmp 95) rfl ?_);go_must (refine zq 24 (.tmp 98) (.tmp 95) gd 5 62 (.int .u64 li) Kgd (by kernel_rfl) ?_;intro x1 hk ho;have Y3:=zh (didE Y3.out Kgd.out (did_like _ _ _ _ _ _ _ _ _ _ _ _) ho.out);have Y4:=zh (didU Y4.out Kgd.out (did_like _ _ _ _ _ _ _ _ _ _ _ _) ho.out);have Kgd : Hid (x1.heap[gd]? = some (.cells #[.string kb.f0,.int .i64 kb.f1,.slice A5 kb.f2.length c5,.slice A6 kb.f3.length c6,.int .u64 kb.f4,.int .u64 li,.string ⟨#[]⟩,.int .i64 0] 62 (0,0))):=hk;have HB:=zo ho HB Lgd;have Kgo:=zl ho Kgo (by have:=M3.out;omega);clear hk ho))
  | ((with_reducible refine gate_store (t:=30) (p:=99) (v:=.tmp 96) rfl ?_);go_must (refine zq 30 (.tmp 99) (.tmp 96) gd 7 62 (.int .i64 er) Kgd (by kernel_rfl) ?_;intro x2 hk ho;have Y3:=zh (didE Y3.out Kgd.out (did_like _ _ _ _ _ _ _ _ _ _ _ _) ho.out);have Y4:=zh (didU Y4.out Kgd.out (did_like _ _ _ _ _ _ _ _ _ _ _ _) ho.out);have Kgd : Hid (x2.heap[gd]? = some (.cells #[.string kb.f0,.int .i64 kb.f1,.slice A5 kb.f2.length c5,.slice A6 kb.f3.length c6,.int .u64 kb.f4,.int .u64 li,.string ⟨#[]⟩,.int .i64 er] 62 (0,0))):=hk;have HB:=zo ho HB Lgd;have Kgo:=zl ho Kgo (by have:=M3.out;omega);obtain ⟨d0,d1,d2,d3,d4,d5,d6,d7⟩:=zz8 Kgd.out;clear hk ho))
  | ((with_reducible refine gate_store (t:=62) (p:=4) (v:=.tmp 133) rfl ?_);go_must (refine zs 62 (.tmp 4) (.tmp 133) go 0 62 [.string kb.f0,.int .i64 kb.f1,.slice A5 kb.f2.length c5,.slice A6 kb.f3.length c6,.int .u64 kb.f4,.int .u64 li,.string ⟨#[]⟩,.int .i64 er] Kgo (by kernel_rfl) ?_;intro x9 hk ho;have Y3:=zh (didE Y3.out Kgo.out (did_like _ _ _ _ _ _ _ _ _ _ _ _) ho.out);have Y4:=zh (didU Y4.out Kgo.out (did_like _ _ _ _ _ _ _ _ _ _ _ _) ho.out);have HB:=zo ho HB Lgo;obtain ⟨z0,z1,z2,z3,z4,z5,z6,z7⟩:=zz8 hk.out;clear hk ho)))
 refine bodyPost_ret (v:=.agg #[.string kb.f0,.int .i64 kb.f1,.slice A5 kb.f2.length c5,.slice A6 kb.f3.length c6,.int .u64 kb.f4,.int .u64 li,.string ⟨#[]⟩,.int .i64 er]) (by simp [results,Tryz.results23,go_sem,z0,z1,z2,z3,z4,z5,z6,z7]) rfl ?_
 exact ⟨A5,c5,A6,c6,rfl,y1,y2,Y3.out,Y4.out,HB.out⟩
theorem do_abort (b : S26) (A2 A3 : Option Addr) (c2 c3 : Nat) (kd id n q : Int) (key data : ByteArray) (A : Option Addr) (ps : List S43) (c : Nat) (w : World) (h2 : Kd.C k56 w A2 b.f2.length b.f2) (g2 : b.f2.length ≤ c2) (h3 : Kd.C k101 w A3 b.f3.length b.f3) (g3 : b.f3.length ≤ c3) (hk : Int.tmod kd 9 = 7) :
  Calls Tryz.prog 23 #[.agg #[.string b.f0,.int .i64 b.f1,.slice A2 b.f2.length c2,.slice A3 b.f3.length c3,.int .u64 b.f4],.agg #[.int .u8 kd,.string key,.string data,.int .u64 id,.int .i64 n,.int .i64 q,.slice A ps.length c]] w (DoPost (abortB b id).1 0 ⟨#[]⟩ (abortB b id).2 w):=by
 have HC:=zh (fun (W : World) (h : Below w.heap.size w W)=>abortB.walk b A2 A3 c2 c3 id W (Kd.C_below h2 h) g2 (Kd.C_below h3 h) g3)
 generalize abortB b id = r at *
 obtain ⟨kb,er⟩:=r
 have HB:=zh (Below.refl w.heap.size w)
 have kf : ∀ j : Int,(Int.tmod kd 9 == j) = ((7 : Int) == j):=fun j=>by rw [hk]
 have e0 : (Int.tmod kd 9 == 0) = false:=kf 0
 have e1 : (Int.tmod kd 9 == 1) = false:=kf 1
 have e2 : (Int.tmod kd 9 == 2) = false:=kf 2
 have e3 : (Int.tmod kd 9 == 3) = false:=kf 3
 have e4 : (Int.tmod kd 9 == 4) = false:=kf 4
 have e5 : (Int.tmod kd 9 == 5) = false:=kf 5
 have e6 : (Int.tmod kd 9 == 6) = false:=kf 6
 have e7 : (Int.tmod kd 9 == 7) = true:=kf 7
 clear h2 h3 g2 g3 kf hk
 go_enter Tryz.func23,Tryz.ntmps23
 go_wp2_with (first
  | ((with_reducible refine gate_dst (N:=2) rfl ?_);go_must (refine zx HB (N:=2) (cs:=#[.string b.f0,.int .i64 b.f1,.slice A2 b.f2.length c2,.slice A3 b.f3.length c3,.int .u64 b.f4]) (t:=26) ?hr ?_;(case hr=>first | (go_simp;done) | (go_simp;rfl));intro gb w1 Kgb Lgb HB hbelgb hqgb;clear hbelgb hqgb))
  | ((with_reducible refine gate_dst (N:=3) rfl ?_);go_must (refine zx HB (N:=3) (cs:=#[.int .u8 kd,.string key,.string data,.int .u64 id,.int .i64 n,.int .i64 q,.slice A ps.length c]) (t:=59) ?hr ?_;(case hr=>first | (go_simp;done) | (go_simp;rfl));intro ga w2 Kga Lga HB hbelga hqga;have M1:=zh (show gb < ga by rw [hqga];exact blk_lt Kgb.out);have Kgb:=zk Kgb hbelga;clear hbelga hqga))
  | ((with_reducible refine gate_dst (N:=4) rfl ?_);go_must (refine zx HB (N:=4) (cs:=#[.string ⟨#[]⟩,.int .i64 0,.slice none 0 0,.slice none 0 0,.int .u64 0,.int .u64 0,.string ⟨#[]⟩,.int .i64 0]) (t:=62) ?hr ?_;(case hr=>first | (go_simp;done) | (go_simp;rfl));intro go w3 Kgo Lgo HB hbelgo hqgo;have M2:=zh (show ga < go by rw [hqgo];exact blk_lt Kga.out);have Kgb:=zk Kgb hbelgo;have Kga:=zk Kga hbelgo;clear hbelgo hqgo))
  | ((with_reducible refine gate_dst (N:=5) rfl ?_);go_must (refine zx HB (N:=5) (cs:=#[.string ⟨#[]⟩,.int .i64 0,.slice none 0 0,.slice none 0 0,.int .u64 0,.int .u64 0,.string ⟨#[]⟩,.int .i64 0]) (t:=62) ?hr ?_;(case hr=>first | (go_simp;done) | (go_simp;rfl));intro gd w4 Kgd Lgd HB hbelgd hqgd;have M3:=zh (show go < gd by rw [hqgd];exact blk_lt Kgo.out);have Kgb:=zk Kgb hbelgd;have Kga:=zk Kga hbelgd;have Kgo:=zk Kgo hbelgd;clear hbelgd hqgd))
  | ((with_reducible refine gate_store (t:=62) (p:=5) (v:=.tmp 9) rfl ?_);go_must (refine zs 62 (.tmp 5) (.tmp 9) gd 0 62 [.string ⟨#[]⟩,.int .i64 0,.slice none 0 0,.slice none 0 0,.int .u64 0,.int .u64 0,.string ⟨#[]⟩,.int .i64 0] Kgd (by kernel_rfl) ?_;intro w5 hk ho;have Kgd : Hid (w5.heap[gd]? = some (.cells #[.string ⟨#[]⟩,.int .i64 0,.slice none 0 0,.slice none 0 0,.int .u64 0,.int .u64 0,.string ⟨#[]⟩,.int .i64 0] 62 (0,0))):=hk;have HB:=zo ho HB Lgd;have Kgb:=zl ho Kgb (by have:=M1.out;have:=M2.out;have:=M3.out;omega);have Kga:=zl ho Kga (by have:=M1.out;have:=M2.out;have:=M3.out;omega);have Kgo:=zl ho Kgo (by have:=M1.out;have:=M2.out;have:=M3.out;omega);obtain ⟨a0,a1,a2,a3,a4⟩:=zz5 Kgb.out;obtain ⟨b0,b1,b2,b3,b4,b5,b6⟩:=zz7 Kga.out;clear hk ho))
  | (go_at_call 58;go_must (refine (HC.out _ HB.out).mono ?_;rintro e w6 ⟨v,rfl,⟨A5,c5,A6,c6,rfl,y1,y2,y3,y4⟩,hb⟩;have Y3:=zh y3;have Y4:=zh y4;have HB:=keepB HB hb;have Kgo:=zk Kgo hb;have Kgd:=zk Kgd hb;clear hb y3 y4 a0 a1 a2 a3 a4 b0 b1 b2 b3 b4 b5 b6))
  | ((with_reducible refine gate_store (t:=26) (p:=131) (v:=.tmp 129) rfl ?_);go_must (refine zs 26 (.tmp 131) (.tmp 129) gd 0 62 [.string kb.f0,.int .i64 kb.f1,.slice A5 kb.f2.length c5,.slice A6 kb.f3.length c6,.int .u64 kb.f4] Kgd isz_bucket ?_;intro x0 hk ho;have Y3:=zh (didE Y3.out Kgd.out (did_like _ _ _ _ _ _ _ _ _ _ _ _) ho.out);have Y4:=zh (didU Y4.out Kgd.out (did_like _ _ _ _ _ _ _ _ _ _ _ _) ho.out);have Kgd : Hid (x0.heap[gd]? = some (.cells #[.string kb.f0,.int .i64 kb.f1,.slice A5 kb.f2.length c5,.slice A6 kb.f3.length c6,.int .u64 kb.f4,.int .u64 0,.string ⟨#[]⟩,.int .i64 0] 62 (0,0))):=hk;have HB:=zo ho HB Lgd;have Kgo:=zl ho Kgo (by have:=M3.out;omega);clear hk ho))
  | ((with_reducible refine gate_store (t:=30) (p:=132) (v:=.tmp 130) rfl ?_);go_must (refine zq 30 (.tmp 132) (.tmp 130) gd 7 62 (.int .i64 er) Kgd (by kernel_rfl) ?_;intro x1 hk ho;have Y3:=zh (didE Y3.out Kgd.out (did_like _ _ _ _ _ _ _ _ _ _ _ _) ho.out);have Y4:=zh (didU Y4.out Kgd.out (did_like _ _ _ _ _ _ _ _ _ _ _ _) ho.out);have Kgd : Hid (x1.heap[gd]? = some (.cells #[.string kb.f0,.int .i64 kb.f1,.slice A5 kb.f2.length c5,.slice A6 kb.f3.length c6,.int .u64 kb.f4,.int .u64 0,.string ⟨#[]⟩,.int .i64 er] 62 (0,0))):=hk;have HB:=zo ho HB Lgd;have Kgo:=zl ho Kgo (by have:=M3.out;omega);obtain ⟨d0,d1,d2,d3,d4,d5,d6,d7⟩:=zz8 Kgd.out;clear hk ho))
  | ((with_reducible refine gate_store (t:=62) (p:=4) (v:=.tmp 133) rfl ?_);go_must (refine zs 62 (.tmp 4) (.tmp 133) go 0 62 [.string kb.f0,.int .i64 kb.f1,.slice A5 kb.f2.length c5,.slice A6 kb.f3.length c6,.int .u64 kb.f4,.int .u64 0,.string ⟨#[]⟩,.int .i64 er] Kgo (by kernel_rfl) ?_;intro x9 hk ho;have Y3:=zh (didE Y3.out Kgo.out (did_like _ _ _ _ _ _ _ _ _ _ _ _) ho.out);have Y4:=zh (didU Y4.out Kgo.out (did_like _ _ _ _ _ _ _ _ _ _ _ _) ho.out);have HB:=zo ho HB Lgo;obtain ⟨z0,z1,z2,z3,z4,z5,z6,z7⟩:=zz8 hk.out;clear hk ho)))
 refine bodyPost_ret (v:=.agg #[.string kb.f0,.int .i64 kb.f1,.slice A5 kb.f2.length c5,.slice A6 kb.f3.length c6,.int .u64 kb.f4,.int .u64 0,.string ⟨#[]⟩,.int .i64 er]) (by simp [results,Tryz.results23,go_sem,z0,z1,z2,z3,z4,z5,z6,z7]) rfl ?_
 exact ⟨A5,c5,A6,c6,rfl,y1,y2,Y3.out,Y4.out,HB.out⟩
end
section
open Go.WideMaps Go.Maps
attribute [local go_sem] Oper.semAt_some
theorem do_whole (b : S26) (A2 A3 : Option Addr) (c2 c3 : Nat) (kd id n q : Int) (key data : ByteArray) (A : Option Addr) (ps : List S43) (c : Nat) (w : World) (h2 : Kd.C k56 w A2 b.f2.length b.f2) (g2 : b.f2.length ≤ c2) (h3 : Kd.C k101 w A3 b.f3.length b.f3) (g3 : b.f3.length ≤ c3) (hl : ps.length < 100) (h4 : Kd.C k43 w A ps.length ps) (hk : ∀ j : Int,0 ≤ j → j < 8 → Int.tmod kd 9 ≠ j) :
  Calls Tryz.prog 23 #[.agg #[.string b.f0,.int .i64 b.f1,.slice A2 b.f2.length c2,.slice A3 b.f3.length c3,.int .u64 b.f4],.agg #[.int .u8 kd,.string key,.string data,.int .u64 id,.int .i64 n,.int .i64 q,.slice A ps.length c]] w (DoPost (wholeB b id ps q).1 (wholeB b id ps q).2.1 (wholeB b id ps q).2.2.1 (wholeB b id ps q).2.2.2 w):=by
 have HC:=zh (fun (W : World) (h : Below w.heap.size w W)=>wholeB.walk b A2 A3 c2 c3 id ps A c q W (Kd.C_below h2 h) g2 (Kd.C_below h3 h) g3 hl (Kd.C_below h4 h))
 generalize wholeB b id ps q = r at *
 obtain ⟨kb,li,tx,er⟩:=r
 have HB:=zh (Below.refl w.heap.size w)
 have e0 : (Int.tmod kd 9 == 0) = false:=beq_eq_false_iff_ne.2 (hk 0 (by decide) (by decide))
 have e1 : (Int.tmod kd 9 == 1) = false:=beq_eq_false_iff_ne.2 (hk 1 (by decide) (by decide))
 have e2 : (Int.tmod kd 9 == 2) = false:=beq_eq_false_iff_ne.2 (hk 2 (by decide) (by decide))
 have e3 : (Int.tmod kd 9 == 3) = false:=beq_eq_false_iff_ne.2 (hk 3 (by decide) (by decide))
 have e4 : (Int.tmod kd 9 == 4) = false:=beq_eq_false_iff_ne.2 (hk 4 (by decide) (by decide))
 have e5 : (Int.tmod kd 9 == 5) = false:=beq_eq_false_iff_ne.2 (hk 5 (by decide) (by decide))
 have e6 : (Int.tmod kd 9 == 6) = false:=beq_eq_false_iff_ne.2 (hk 6 (by decide) (by decide))
 have e7 : (Int.tmod kd 9 == 7) = false:=beq_eq_false_iff_ne.2 (hk 7 (by decide) (by decide))
 clear h2 h3 g2 g3 hk hl h4
 go_enter Tryz.func23,Tryz.ntmps23
 go_wp2_with (first
  | ((with_reducible refine gate_dst (N:=2) rfl ?_);go_must (refine zx HB (N:=2) (cs:=#[.string b.f0,.int .i64 b.f1,.slice A2 b.f2.length c2,.slice A3 b.f3.length c3,.int .u64 b.f4]) (t:=26) ?hr ?_;(case hr=>first | (go_simp;done) | (go_simp;rfl));intro gb w1 Kgb Lgb HB hbelgb hqgb;clear hbelgb hqgb))
  | ((with_reducible refine gate_dst (N:=3) rfl ?_);go_must (refine zx HB (N:=3) (cs:=#[.int .u8 kd,.string key,.string data,.int .u64 id,.int .i64 n,.int .i64 q,.slice A ps.length c]) (t:=59) ?hr ?_;(case hr=>first | (go_simp;done) | (go_simp;rfl));intro ga w2 Kga Lga HB hbelga hqga;have M1:=zh (show gb < ga by rw [hqga];exact blk_lt Kgb.out);have Kgb:=zk Kgb hbelga;clear hbelga hqga))
  | ((with_reducible refine gate_dst (N:=4) rfl ?_);go_must (refine zx HB (N:=4) (cs:=#[.string ⟨#[]⟩,.int .i64 0,.slice none 0 0,.slice none 0 0,.int .u64 0,.int .u64 0,.string ⟨#[]⟩,.int .i64 0]) (t:=62) ?hr ?_;(case hr=>first | (go_simp;done) | (go_simp;rfl));intro go w3 Kgo Lgo HB hbelgo hqgo;have M2:=zh (show ga < go by rw [hqgo];exact blk_lt Kga.out);have Kgb:=zk Kgb hbelgo;have Kga:=zk Kga hbelgo;clear hbelgo hqgo))
  | ((with_reducible refine gate_dst (N:=5) rfl ?_);go_must (refine zx HB (N:=5) (cs:=#[.string ⟨#[]⟩,.int .i64 0,.slice none 0 0,.slice none 0 0,.int .u64 0,.int .u64 0,.string ⟨#[]⟩,.int .i64 0]) (t:=62) ?hr ?_;(case hr=>first | (go_simp;done) | (go_simp;rfl));intro gd w4 Kgd Lgd HB hbelgd hqgd;have M3:=zh (show go < gd by rw [hqgd];exact blk_lt Kgo.out);have Kgb:=zk Kgb hbelgd;have Kga:=zk Kga hbelgd;have Kgo:=zk Kgo hbelgd;clear hbelgd hqgd))
  | ((with_reducible refine gate_store (t:=62) (p:=5) (v:=.tmp 9) rfl ?_);go_must (refine zs 62 (.tmp 5) (.tmp 9) gd 0 62 [.string ⟨#[]⟩,.int .i64 0,.slice none 0 0,.slice none 0 0,.int .u64 0,.int .u64 0,.string ⟨#[]⟩,.int .i64 0] Kgd (by kernel_rfl) ?_;intro w5 hk ho;have Kgd : Hid (w5.heap[gd]? = some (.cells #[.string ⟨#[]⟩,.int .i64 0,.slice none 0 0,.slice none 0 0,.int .u64 0,.int .u64 0,.string ⟨#[]⟩,.int .i64 0] 62 (0,0))):=hk;have HB:=zo ho HB Lgd;have Kgb:=zl ho Kgb (by have:=M1.out;have:=M2.out;have:=M3.out;omega);have Kga:=zl ho Kga (by have:=M1.out;have:=M2.out;have:=M3.out;omega);have Kgo:=zl ho Kgo (by have:=M1.out;have:=M2.out;have:=M3.out;omega);obtain ⟨a0,a1,a2,a3,a4⟩:=zz5 Kgb.out;obtain ⟨b0,b1,b2,b3,b4,b5,b6⟩:=zz7 Kga.out;clear hk ho))
  | (go_at_call 17;go_must (refine (HC.out _ HB.out).mono ?_;rintro e w6 ⟨v,rfl,⟨A5,c5,A6,c6,rfl,y1,y2,y3,y4⟩,hb⟩;have Y3:=zh y3;have Y4:=zh y4;have HB:=keepB HB hb;have Kgo:=zk Kgo hb;have Kgd:=zk Kgd hb;clear hb y3 y4 a0 a1 a2 a3 a4 b0 b1 b2 b3 b4 b5 b6))
  | ((with_reducible refine gate_store (t:=26) (p:=26) (v:=.tmp 22) rfl ?_);go_must (refine zs 26 (.tmp 26) (.tmp 22) gd 0 62 [.string kb.f0,.int .i64 kb.f1,.slice A5 kb.f2.length c5,.slice A6 kb.f3.length c6,.int .u64 kb.f4] Kgd isz_bucket ?_;intro x0 hk ho;have Y3:=zh (didE Y3.out Kgd.out (did_like _ _ _ _ _ _ _ _ _ _ _ _) ho.out);have Y4:=zh (didU Y4.out Kgd.out (did_like _ _ _ _ _ _ _ _ _ _ _ _) ho.out);have Kgd : Hid (x0.heap[gd]? = some (.cells #[.string kb.f0,.int .i64 kb.f1,.slice A5 kb.f2.length c5,.slice A6 kb.f3.length c6,.int .u64 kb.f4,.int .u64 0,.string ⟨#[]⟩,.int .i64 0] 62 (0,0))):=hk;have HB:=zo ho HB Lgd;have Kgo:=zl ho Kgo (by have:=M3.out;omega);clear hk ho))
  | ((with_reducible refine gate_store (t:=24) (p:=27) (v:=.tmp 23) rfl ?_);go_must (refine zq 24 (.tmp 27) (.tmp 23) gd 5 62 (.int .u64 li) Kgd (by kernel_rfl) ?_;intro x1 hk ho;have Y3:=zh (didE Y3.out Kgd.out (did_like _ _ _ _ _ _ _ _ _ _ _ _) ho.out);have Y4:=zh (didU Y4.out Kgd.out (did_like _ _ _ _ _ _ _ _ _ _ _ _) ho.out);have Kgd : Hid (x1.heap[gd]? = some (.cells #[.string kb.f0,.int .i64 kb.f1,.slice A5 kb.f2.length c5,.slice A6 kb.f3.length c6,.int .u64 kb.f4,.int .u64 li,.string ⟨#[]⟩,.int .i64 0] 62 (0,0))):=hk;have HB:=zo ho HB Lgd;have Kgo:=zl ho Kgo (by have:=M3.out;omega);clear hk ho))
  | ((with_reducible refine gate_store (t:=9) (p:=28) (v:=.tmp 24) rfl ?_);go_must (refine zq 9 (.tmp 28) (.tmp 24) gd 6 62 (.string tx) Kgd (by kernel_rfl) ?_;intro x2 hk ho;have Y3:=zh (didE Y3.out Kgd.out (did_like _ _ _ _ _ _ _ _ _ _ _ _) ho.out);have Y4:=zh (didU Y4.out Kgd.out (did_like _ _ _ _ _ _ _ _ _ _ _ _) ho.out);have Kgd : Hid (x2.heap[gd]? = some (.cells #[.string kb.f0,.int .i64 kb.f1,.slice A5 kb.f2.length c5,.slice A6 kb.f3.length c6,.int .u64 kb.f4,.int .u64 li,.string tx,.int .i64 0] 62 (0,0))):=hk;have HB:=zo ho HB Lgd;have Kgo:=zl ho Kgo (by have:=M3.out;omega);clear hk ho))
  | ((with_reducible refine gate_store (t:=30) (p:=29) (v:=.tmp 25) rfl ?_);go_must (refine zq 30 (.tmp 29) (.tmp 25) gd 7 62 (.int .i64 er) Kgd (by kernel_rfl) ?_;intro x3 hk ho;have Y3:=zh (didE Y3.out Kgd.out (did_like _ _ _ _ _ _ _ _ _ _ _ _) ho.out);have Y4:=zh (didU Y4.out Kgd.out (did_like _ _ _ _ _ _ _ _ _ _ _ _) ho.out);have Kgd : Hid (x3.heap[gd]? = some (.cells #[.string kb.f0,.int .i64 kb.f1,.slice A5 kb.f2.length c5,.slice A6 kb.f3.length c6,.int .u64 kb.f4,.int .u64 li,.string tx,.int .i64 er] 62 (0,0))):=hk;have HB:=zo ho HB Lgd;have Kgo:=zl ho Kgo (by have:=M3.out;omega);obtain ⟨d0,d1,d2,d3,d4,d5,d6,d7⟩:=zz8 Kgd.out;clear hk ho))
  | ((with_reducible refine gate_store (t:=62) (p:=4) (v:=.tmp 133) rfl ?_);go_must (refine zs 62 (.tmp 4) (.tmp 133) go 0 62 [.string kb.f0,.int .i64 kb.f1,.slice A5 kb.f2.length c5,.slice A6 kb.f3.length c6,.int .u64 kb.f4,.int .u64 li,.string tx,.int .i64 er] Kgo (by kernel_rfl) ?_;intro x9 hk ho;have Y3:=zh (didE Y3.out Kgo.out (did_like _ _ _ _ _ _ _ _ _ _ _ _) ho.out);have Y4:=zh (didU Y4.out Kgo.out (did_like _ _ _ _ _ _ _ _ _ _ _ _) ho.out);have HB:=zo ho HB Lgo;obtain ⟨z0,z1,z2,z3,z4,z5,z6,z7⟩:=zz8 hk.out;clear hk ho)))
 refine bodyPost_ret (v:=.agg #[.string kb.f0,.int .i64 kb.f1,.slice A5 kb.f2.length c5,.slice A6 kb.f3.length c6,.int .u64 kb.f4,.int .u64 li,.string tx,.int .i64 er]) (by simp [results,Tryz.results23,go_sem,z0,z1,z2,z3,z4,z5,z6,z7]) rfl ?_
 exact ⟨A5,c5,A6,c6,rfl,y1,y2,Y3.out,Y4.out,HB.out⟩
theorem do_lay (b : S26) (A2 A3 : Option Addr) (c2 c3 : Nat) (kd id n q : Int) (key data : ByteArray) (A : Option Addr) (ps : List S43) (c : Nat) (w : World) (h2 : Kd.C k56 w A2 b.f2.length b.f2) (g2 : b.f2.length ≤ c2) (h3 : Kd.C k101 w A3 b.f3.length b.f3) (g3 : b.f3.length ≤ c3) (hk : Int.tmod kd 9 = 6) :
  Calls Tryz.prog 23 #[.agg #[.string b.f0,.int .i64 b.f1,.slice A2 b.f2.length c2,.slice A3 b.f3.length c3,.int .u64 b.f4],.agg #[.int .u8 kd,.string key,.string data,.int .u64 id,.int .i64 n,.int .i64 q,.slice A ps.length c]] w (DoPost (layB b id ⟨n,data⟩).1 (IntKind.u64.wrap (layB b id ⟨n,data⟩).2.1) ⟨#[]⟩ (layB b id ⟨n,data⟩).2.2 w):=by
 have HC:=zh (fun (W : World) (h : Below w.heap.size w W)=>layB.walk b A2 A3 c2 c3 id ⟨n,data⟩ W (Kd.C_below h2 h) g2 (Kd.C_below h3 h) g3)
 generalize layB b id ⟨n,data⟩ = r at *
 obtain ⟨kb,li,er⟩:=r
 have HB:=zh (Below.refl w.heap.size w)
 have kf : ∀ j : Int,(Int.tmod kd 9 == j) = ((6 : Int) == j):=fun j=>by rw [hk]
 have e0 : (Int.tmod kd 9 == 0) = false:=kf 0
 have e1 : (Int.tmod kd 9 == 1) = false:=kf 1
 have e2 : (Int.tmod kd 9 == 2) = false:=kf 2
 have e3 : (Int.tmod kd 9 == 3) = false:=kf 3
 have e4 : (Int.tmod kd 9 == 4) = false:=kf 4
 have e5 : (Int.tmod kd 9 == 5) = false:=kf 5
 have e6 : (Int.tmod kd 9 == 6) = true:=kf 6
 have e7 : (Int.tmod kd 9 == 7) = false:=kf 7
 clear h2 h3 g2 g3 kf hk
 go_enter Tryz.func23,Tryz.ntmps23
 go_wp2_with (first
  | ((with_reducible refine gate_dst (N:=2) rfl ?_);go_must (refine zx HB (N:=2) (cs:=#[.string b.f0,.int .i64 b.f1,.slice A2 b.f2.length c2,.slice A3 b.f3.length c3,.int .u64 b.f4]) (t:=26) ?hr ?_;(case hr=>first | (go_simp;done) | (go_simp;rfl));intro gb w1 Kgb Lgb HB hbelgb hqgb;clear hbelgb hqgb))
  | ((with_reducible refine gate_dst (N:=3) rfl ?_);go_must (refine zx HB (N:=3) (cs:=#[.int .u8 kd,.string key,.string data,.int .u64 id,.int .i64 n,.int .i64 q,.slice A ps.length c]) (t:=59) ?hr ?_;(case hr=>first | (go_simp;done) | (go_simp;rfl));intro ga w2 Kga Lga HB hbelga hqga;have M1:=zh (show gb < ga by rw [hqga];exact blk_lt Kgb.out);have Kgb:=zk Kgb hbelga;clear hbelga hqga))
  | ((with_reducible refine gate_dst (N:=4) rfl ?_);go_must (refine zx HB (N:=4) (cs:=#[.string ⟨#[]⟩,.int .i64 0,.slice none 0 0,.slice none 0 0,.int .u64 0,.int .u64 0,.string ⟨#[]⟩,.int .i64 0]) (t:=62) ?hr ?_;(case hr=>first | (go_simp;done) | (go_simp;rfl));intro go w3 Kgo Lgo HB hbelgo hqgo;have M2:=zh (show ga < go by rw [hqgo];exact blk_lt Kga.out);have Kgb:=zk Kgb hbelgo;have Kga:=zk Kga hbelgo;clear hbelgo hqgo))
  | ((with_reducible refine gate_dst (N:=5) rfl ?_);go_must (refine zx HB (N:=5) (cs:=#[.string ⟨#[]⟩,.int .i64 0,.slice none 0 0,.slice none 0 0,.int .u64 0,.int .u64 0,.string ⟨#[]⟩,.int .i64 0]) (t:=62) ?hr ?_;(case hr=>first | (go_simp;done) | (go_simp;rfl));intro gd w4 Kgd Lgd HB hbelgd hqgd;have M3:=zh (show go < gd by rw [hqgd];exact blk_lt Kgo.out);have Kgb:=zk Kgb hbelgd;have Kga:=zk Kga hbelgd;have Kgo:=zk Kgo hbelgd;clear hbelgd hqgd))
  | ((with_reducible refine gate_store (t:=62) (p:=5) (v:=.tmp 9) rfl ?_);go_must (refine zs 62 (.tmp 5) (.tmp 9) gd 0 62 [.string ⟨#[]⟩,.int .i64 0,.slice none 0 0,.slice none 0 0,.int .u64 0,.int .u64 0,.string ⟨#[]⟩,.int .i64 0] Kgd (by kernel_rfl) ?_;intro w5 hk ho;have Kgd : Hid (w5.heap[gd]? = some (.cells #[.string ⟨#[]⟩,.int .i64 0,.slice none 0 0,.slice none 0 0,.int .u64 0,.int .u64 0,.string ⟨#[]⟩,.int .i64 0] 62 (0,0))):=hk;have HB:=zo ho HB Lgd;have Kgb:=zl ho Kgb (by have:=M1.out;have:=M2.out;have:=M3.out;omega);have Kga:=zl ho Kga (by have:=M1.out;have:=M2.out;have:=M3.out;omega);have Kgo:=zl ho Kgo (by have:=M1.out;have:=M2.out;have:=M3.out;omega);obtain ⟨a0,a1,a2,a3,a4⟩:=zz5 Kgb.out;obtain ⟨b0,b1,b2,b3,b4,b5,b6⟩:=zz7 Kga.out;clear hk ho))
  | (go_at_call 15;go_must (refine (HC.out _ HB.out).mono ?_;rintro e w6 ⟨v,rfl,⟨A5,c5,A6,c6,rfl,y1,y2,y3,y4⟩,hb⟩;have Y3:=zh y3;have Y4:=zh y4;have HB:=keepB HB hb;have Kgo:=zk Kgo hb;have Kgd:=zk Kgd hb;clear hb y3 y4 a0 a1 a2 a3 a4 b0 b1 b2 b3 b4 b5 b6))
  | ((with_reducible refine gate_dst (N:=6) rfl ?_);go_must (refine zx HB (N:=6) (cs:=#[.string ⟨#[]⟩,.int .i64 0,.slice none 0 0,.slice none 0 0,.int .u64 0]) (t:=26) ?hr ?_;(case hr=>first | (go_simp;done) | (go_simp;rfl));intro gx wx Kgx Lgx HB hbelgx hqgx;have M4:=zh (show gd < gx by rw [hqgx];exact blk_lt Kgd.out);have Kgo:=zk Kgo hbelgx;have Kgd:=zk Kgd hbelgx;have Y3:=zc Y3 hbelgx;have Y4:=zc Y4 hbelgx;clear hbelgx hqgx))
  | ((with_reducible refine gate_store (t:=26) (p:=6) (v:=.tmp 112) rfl ?_);go_must (refine zs 26 (.tmp 6) (.tmp 112) gx 0 26 [.string kb.f0,.int .i64 kb.f1,.slice A5 kb.f2.length c5,.slice A6 kb.f3.length c6,.int .u64 kb.f4] Kgx isz_bucket ?_;intro wy hk ho;have Y3:=zh (keepE Y3.out Kgx.out (bk_like _ _ _ _ _ _ _ _ _) ho.out);have Y4:=zh (keepU Y4.out Kgx.out (bk_like _ _ _ _ _ _ _ _ _) ho.out);have Kgx : Hid (wy.heap[gx]? = some (.cells #[.string kb.f0,.int .i64 kb.f1,.slice A5 kb.f2.length c5,.slice A6 kb.f3.length c6,.int .u64 kb.f4] 26 (0,0))):=hk;have HB:=zo ho HB Lgx;have Kgo:=zl ho Kgo (by have:=M3.out;have:=M4.out;omega);have Kgd:=zl ho Kgd (by have:=M3.out;have:=M4.out;omega);obtain ⟨f0,f1,f2,f3,f4⟩:=zz5 Kgx.out;clear hk ho))
  | ((with_reducible refine gate_store (t:=26) (p:=119) (v:=.tmp 115) rfl ?_);go_must (refine zs 26 (.tmp 119) (.tmp 115) gd 0 62 [.string kb.f0,.int .i64 kb.f1,.slice A5 kb.f2.length c5,.slice A6 kb.f3.length c6,.int .u64 kb.f4] Kgd isz_bucket ?_;intro x0 hk ho;have Y3:=zh (didE Y3.out Kgd.out (did_like _ _ _ _ _ _ _ _ _ _ _ _) ho.out);have Y4:=zh (didU Y4.out Kgd.out (did_like _ _ _ _ _ _ _ _ _ _ _ _) ho.out);have Kgd : Hid (x0.heap[gd]? = some (.cells #[.string kb.f0,.int .i64 kb.f1,.slice A5 kb.f2.length c5,.slice A6 kb.f3.length c6,.int .u64 kb.f4,.int .u64 0,.string ⟨#[]⟩,.int .i64 0] 62 (0,0))):=hk;have HB:=zo ho HB Lgd;have Kgo:=zl ho Kgo (by have:=M3.out;omega);clear hk ho))
  | ((with_reducible refine gate_store (t:=24) (p:=120) (v:=.tmp 117) rfl ?_);go_must (refine zq 24 (.tmp 120) (.tmp 117) gd 5 62 (.int .u64 (IntKind.u64.wrap li)) Kgd (by kernel_rfl) ?_;intro x1 hk ho;have Y3:=zh (didE Y3.out Kgd.out (did_like _ _ _ _ _ _ _ _ _ _ _ _) ho.out);have Y4:=zh (didU Y4.out Kgd.out (did_like _ _ _ _ _ _ _ _ _ _ _ _) ho.out);have Kgd : Hid (x1.heap[gd]? = some (.cells #[.string kb.f0,.int .i64 kb.f1,.slice A5 kb.f2.length c5,.slice A6 kb.f3.length c6,.int .u64 kb.f4,.int .u64 (IntKind.u64.wrap li),.string ⟨#[]⟩,.int .i64 0] 62 (0,0))):=hk;have HB:=zo ho HB Lgd;have Kgo:=zl ho Kgo (by have:=M3.out;omega);clear hk ho))
  | ((with_reducible refine gate_store (t:=30) (p:=121) (v:=.tmp 118) rfl ?_);go_must (refine zq 30 (.tmp 121) (.tmp 118) gd 7 62 (.int .i64 er) Kgd (by kernel_rfl) ?_;intro x2 hk ho;have Y3:=zh (didE Y3.out Kgd.out (did_like _ _ _ _ _ _ _ _ _ _ _ _) ho.out);have Y4:=zh (didU Y4.out Kgd.out (did_like _ _ _ _ _ _ _ _ _ _ _ _) ho.out);have Kgd : Hid (x2.heap[gd]? = some (.cells #[.string kb.f0,.int .i64 kb.f1,.slice A5 kb.f2.length c5,.slice A6 kb.f3.length c6,.int .u64 kb.f4,.int .u64 (IntKind.u64.wrap li),.string ⟨#[]⟩,.int .i64 er] 62 (0,0))):=hk;have HB:=zo ho HB Lgd;have Kgo:=zl ho Kgo (by have:=M3.out;omega);obtain ⟨d0,d1,d2,d3,d4,d5,d6,d7⟩:=zz8 Kgd.out;clear hk ho))
  | ((with_reducible refine gate_store (t:=62) (p:=4) (v:=.tmp 133) rfl ?_);go_must (refine zs 62 (.tmp 4) (.tmp 133) go 0 62 [.string kb.f0,.int .i64 kb.f1,.slice A5 kb.f2.length c5,.slice A6 kb.f3.length c6,.int .u64 kb.f4,.int .u64 (IntKind.u64.wrap li),.string ⟨#[]⟩,.int .i64 er] Kgo (by kernel_rfl) ?_;intro x9 hk ho;have Y3:=zh (didE Y3.out Kgo.out (did_like _ _ _ _ _ _ _ _ _ _ _ _) ho.out);have Y4:=zh (didU Y4.out Kgo.out (did_like _ _ _ _ _ _ _ _ _ _ _ _) ho.out);have HB:=zo ho HB Lgo;obtain ⟨z0,z1,z2,z3,z4,z5,z6,z7⟩:=zz8 hk.out;clear hk ho)))
 refine bodyPost_ret (v:=.agg #[.string kb.f0,.int .i64 kb.f1,.slice A5 kb.f2.length c5,.slice A6 kb.f3.length c6,.int .u64 kb.f4,.int .u64 (IntKind.u64.wrap li),.string ⟨#[]⟩,.int .i64 er]) (by simp [results,Tryz.results23,go_sem,z0,z1,z2,z3,z4,z5,z6,z7]) rfl ?_
 exact ⟨A5,c5,A6,c6,rfl,y1,y2,Y3.out,Y4.out,HB.out⟩
end
section
open Go.WideMaps Go.Maps
attribute [local go_sem] Oper.semAt_some
structure Did where
 b : S26
 id : Int
 tg : ByteArray
 er : Int
structure Act where
 kd : Int
 key : ByteArray
 data : ByteArray
 id : Int
 n : Int
 q : Int
 ps : List S43
def d3 (r : S26 × Int × Int) : Did:=⟨r.1,r.2.1,⟨#[]⟩,r.2.2⟩
def d2 (r : S26 × Int) : Did:=⟨r.1,0,⟨#[]⟩,r.2⟩
def doR (b : S26) (a : Act) : Did :=
 if Int.tmod a.kd 9 = 0 then d3 (laidR b a.key (fun l id=>putV l b.f1 ⟨id,a.data,false,a.q⟩))
 else if Int.tmod a.kd 9 = 1 then d3 (laidR b a.key (fun l id=>putV l b.f1 ⟨id,a.data,false,a.q⟩))
 else if Int.tmod a.kd 9 = 2 then d3 (laidR b a.key (fun l id=>deleteV l b.f1 id a.q))
 else if Int.tmod a.kd 9 = 3 then d2 (dropB b a.key a.id)
 else if Int.tmod a.kd 9 = 4 then d2 (turnB b a.n)
 else if Int.tmod a.kd 9 = 5 then d3 (beginB b a.key)
 else if Int.tmod a.kd 9 = 6 then ⟨(layB b a.id ⟨a.n,a.data⟩).1,IntKind.u64.wrap (layB b a.id ⟨a.n,a.data⟩).2.1,⟨#[]⟩,(layB b a.id ⟨a.n,a.data⟩).2.2⟩
 else if Int.tmod a.kd 9 = 7 then d2 (abortB b a.id)
 else ⟨(wholeB b a.id a.ps a.q).1,(wholeB b a.id a.ps a.q).2.1,(wholeB b a.id a.ps a.q).2.2.1,(wholeB b a.id a.ps a.q).2.2.2⟩
theorem do.walk (b : S26) (A2 A3 : Option Addr) (c2 c3 : Nat) (a : Act) (A : Option Addr) (c : Nat) (w : World) (h2 : Kd.C k56 w A2 b.f2.length b.f2) (g2 : b.f2.length ≤ c2) (h3 : Kd.C k101 w A3 b.f3.length b.f3) (g3 : b.f3.length ≤ c3) (hl : a.ps.length < 100) (h4 : Kd.C k43 w A a.ps.length a.ps) :
  Calls Tryz.prog 23 #[.agg #[.string b.f0,.int .i64 b.f1,.slice A2 b.f2.length c2,.slice A3 b.f3.length c3,.int .u64 b.f4],.agg #[.int .u8 a.kd,.string a.key,.string a.data,.int .u64 a.id,.int .i64 a.n,.int .i64 a.q,.slice A a.ps.length c]] w (DoPost (doR b a).b (doR b a).id (doR b a).tg (doR b a).er w):=by
 obtain ⟨kd,key,data,id,n,q,ps⟩:=a
 unfold doR
 by_cases k0 : Int.tmod kd 9 = 0
 ·rw [if_pos k0];exact do_put0 b A2 A3 c2 c3 kd id n q key data A ps c w h2 g2 h3 g3 k0
 rw [if_neg k0]
 by_cases k1 : Int.tmod kd 9 = 1
 ·rw [if_pos k1];exact do_put1 b A2 A3 c2 c3 kd id n q key data A ps c w h2 g2 h3 g3 k1
 rw [if_neg k1]
 by_cases k2 : Int.tmod kd 9 = 2
 ·rw [if_pos k2];exact do_del b A2 A3 c2 c3 kd id n q key data A ps c w h2 g2 h3 g3 k2
 rw [if_neg k2]
 by_cases k3 : Int.tmod kd 9 = 3
 ·rw [if_pos k3];exact do_drop b A2 A3 c2 c3 kd id n q key data A ps c w h2 g2 h3 g3 k3
 rw [if_neg k3]
 by_cases k4 : Int.tmod kd 9 = 4
 ·rw [if_pos k4];exact do_turn b A2 A3 c2 c3 kd id n q key data A ps c w h2 g2 h3 g3 k4
 rw [if_neg k4]
 by_cases k5 : Int.tmod kd 9 = 5
 ·rw [if_pos k5];exact do_begin b A2 A3 c2 c3 kd id n q key data A ps c w h2 g2 h3 g3 k5
 rw [if_neg k5]
 by_cases k6 : Int.tmod kd 9 = 6
 ·rw [if_pos k6];exact do_lay b A2 A3 c2 c3 kd id n q key data A ps c w h2 g2 h3 g3 k6
 rw [if_neg k6]
 by_cases k7 : Int.tmod kd 9 = 7
 ·rw [if_pos k7];exact do_abort b A2 A3 c2 c3 kd id n q key data A ps c w h2 g2 h3 g3 k7
 rw [if_neg k7]
 refine do_whole b A2 A3 c2 c3 kd id n q key data A ps c w h2 g2 h3 g3 hl h4 (fun j h0 h8=>?_)
 have : j = 0 ∨ j = 1 ∨ j = 2 ∨ j = 3 ∨ j = 4 ∨ j = 5 ∨ j = 6 ∨ j = 7:=by omega
 rcases this with h | h | h | h | h | h | h | h <;> subst h <;> assumption
end
section
open Go.WideMaps Go.Maps
theorem putV_ok {l : List S47} {st : Int} {x : S47} (h : (putV l st x).2 = 0) :
  chainB l = true ∧ 0 ≤ st ∧ st ≤ 2 ∧ mayV x = true ∧ (0 < l.length → (l.headD z47).f3 ≤ x.f3) ∧ (st = 1 → x.f0 ≠ 0) ∧ (putV l st x).1 = (if st = 1 then x :: l else ⟨0,x.f1,x.f2,x.f3⟩ :: delV 0 l) ∧ (putV l st x).1.length ≤ 20:=by
 unfold putV at h ⊢
 by_cases h1 : chainB l = false ∨ ¬ (0 ≤ st ∧ st ≤ 2) ∨ mayV x = false ∨ (0 < l.length ∧ x.f3 < (l.headD z47).f3)
 ·rw [if_pos h1] at h;cases h
 ·rw [if_neg h1] at h ⊢
  by_cases h2 : (layV st l x).2 ≠ 0
  ·rw [if_pos h2] at h;exact absurd h h2
  ·rw [if_neg h2] at h ⊢
   by_cases h3 : 20 < (layV st l x).1.length
   ·rw [if_pos h3] at h;cases h
   ·rw [if_neg h3]
    have q1 : chainB l = true:=bool_no (fun c=>h1 (Or.inl c))
    have q2 : 0 ≤ st ∧ st ≤ 2:=Decidable.byContradiction (fun c=>h1 (Or.inr (Or.inl c)))
    have q3 : mayV x = true:=bool_no (fun c=>h1 (Or.inr (Or.inr (Or.inl c))))
    refine ⟨q1,q2.1,q2.2,q3,fun hl=>?_,fun hs=>?_,?_,Nat.le_of_not_lt h3⟩
    ·exact Int.not_lt.1 (fun c=>h1 (Or.inr (Or.inr (Or.inr ⟨hl,c⟩))))
    ·intro c
     apply h2
     unfold layV
     rw [if_pos hs,if_pos (by rw [c];rfl)]
     exact (by decide : (1 : Int) ≠ 0)
    ·unfold layV at h2 ⊢
     by_cases hs : st = 1
     ·rw [if_pos hs] at h2
      rw [if_pos hs,if_pos hs]
      by_cases h0 : (x.f0 == 0) = true
      ·rw [if_pos h0] at h2;exact absurd (by decide) h2
      ·rw [if_neg h0] at h2
       rw [if_neg h0]
       by_cases h9 : l.any (geB x.f0) = true
       ·rw [if_pos h9] at h2;exact absurd (by decide) h2
       ·rw [if_neg h9]
     ·rw [if_neg hs,if_neg hs]
theorem dropV_ok {l : List S47} {id : Int} (h : (dropV l id).2 = 0) : chainB l = true ∧ hasId l id = true ∧ (dropV l id).1 = delV id l:=by
 unfold dropV at h ⊢
 by_cases h1 : chainB l = false
 ·rw [if_pos h1] at h;cases h
 ·rw [if_neg h1] at h ⊢
  by_cases h2 : hasId l id = false
  ·rw [if_pos h2] at h;cases h
  ·rw [if_neg h2];exact ⟨bool_no h1,bool_no h2,rfl⟩
theorem delV_mem {id : Int} {l : List S47} {v : S47} (h : v ∈ delV id l) : v ∈ l:=(List.mem_filter.1 h).1
/-- what an act of the first four kinds makes of its key's versions -/
def actC (st : Int) (a : Act) (l : List S47) (id : Int) : List S47 × Int :=
 if Int.tmod a.kd 9 = 2 then deleteV l st id a.q else if Int.tmod a.kd 9 = 3 then dropV l a.id else putV l st ⟨id,a.data,false,a.q⟩
theorem actC_mem {st : Int} {a : Act} {l : List S47} {id : Int} (h : (actC st a l id).2 = 0) : ∀ v ∈ (actC st a l id).1,v ∈ l ∨ v.f0 = 0 ∨ (st = 1 ∧ Int.tmod a.kd 9 ≠ 3 ∧ v.f0 = id):=by
 have hput : ∀ x : S47,(st = 1 → x.f0 = id) → (putV l st x).2 = 0 → ∀ v ∈ (putV l st x).1,v ∈ l ∨ v.f0 = 0 ∨ (st = 1 ∧ v.f0 = id):=by
  intro x hx hp v hv
  obtain ⟨_,_,_,_,_,_,e,_⟩:=putV_ok hp
  rw [e] at hv
  by_cases hs : st = 1
  ·rw [if_pos hs] at hv
   rcases List.mem_cons.1 hv with rfl | hv
   ·exact Or.inr (Or.inr ⟨hs,hx hs⟩)
   ·exact Or.inl hv
  ·rw [if_neg hs] at hv
   rcases List.mem_cons.1 hv with rfl | hv
   ·exact Or.inr (Or.inl rfl)
   ·exact Or.inl (delV_mem hv)
 intro v hv
 unfold actC at h hv
 by_cases h2 : Int.tmod a.kd 9 = 2
 ·rw [if_pos h2] at h hv
  unfold deleteV at h hv
  by_cases hs : st = 0
  ·rw [if_pos hs] at h hv
   rw [(dropV_ok h).2.2] at hv
   exact Or.inl (delV_mem hv)
  ·rw [if_neg hs] at h hv
   rcases hput _ (fun e=>if_neg (by omega)) h v hv with x | x | x
   ·exact Or.inl x
   ·exact Or.inr (Or.inl x)
   ·exact Or.inr (Or.inr ⟨x.1,by omega,x.2⟩)
 ·rw [if_neg h2] at h hv
  by_cases h3 : Int.tmod a.kd 9 = 3
  ·rw [if_pos h3] at h hv
   rw [(dropV_ok h).2.2] at hv
   exact Or.inl (delV_mem hv)
  ·rw [if_neg h3] at h hv
   rcases hput _ (fun _=>rfl) h v hv with x | x | x
   ·exact Or.inl x
   ·exact Or.inr (Or.inl x)
   ·exact Or.inr (Or.inr ⟨x.1,h3,x.2⟩)
/-- the bucket that an act of the first four kinds makes, where it goes -/
def actB (b : S26) (a : Act) : S26:=⟨b.f0,b.f1,putL b.f2 a.key (actC b.f1 a (getE b.f2 a.key) (idR b)).1,b.f3,if Int.tmod a.kd 9 = 3 then b.f4 else lastR b⟩
theorem do4_ok {b : S26} {a : Act} (h0 : 0 ≤ Int.tmod a.kd 9) (h4 : Int.tmod a.kd 9 < 4) (h : (doR b a).er = 0) :
  bucketB b = true ∧ keyB a.key = true ∧ (actC b.f1 a (getE b.f2 a.key) (idR b)).2 = 0 ∧ chainB (actC b.f1 a (getE b.f2 a.key) (idR b)).1 = true ∧
  (putL b.f2 a.key (actC b.f1 a (getE b.f2 a.key) (idR b)).1).length ≤ 60 ∧ octB (putL b.f2 a.key (actC b.f1 a (getE b.f2 a.key) (idR b)).1) b.f3 ≤ 20000 ∧
  (Int.tmod a.kd 9 < 3 → b.f1 = 1 → b.f4 < 281474976710655) ∧ doR b a = ⟨actB b a,if Int.tmod a.kd 9 = 3 then 0 else idR b,⟨#[]⟩,0⟩:=by
 by_cases k3 : Int.tmod a.kd 9 = 3
 ·have e : doR b a = d2 (dropB b a.key a.id):=by
   unfold doR
   rw [if_neg (by omega),if_neg (by omega),if_neg (by omega),if_pos k3]
  rw [e] at h ⊢
  have ea : actC b.f1 a (getE b.f2 a.key) (idR b) = dropV (getE b.f2 a.key) a.id:=by
   unfold actC
   rw [if_neg (by omega),if_pos k3]
  unfold actB
  rw [ea,if_pos k3,if_pos k3]
  obtain ⟨q1,q2,q3,q4,q5,q6,q7⟩:=dropB_ok h
  exact ⟨q1,q2,q3,q4,q5,q6,fun x=>by omega,by rw [q7];rfl⟩
 ·have e : doR b a = d3 (laidR b a.key (actC b.f1 a)):=by
   have ea : (actC b.f1 a) = if Int.tmod a.kd 9 = 2 then (fun l id=>deleteV l b.f1 id a.q) else (fun l id=>putV l b.f1 ⟨id,a.data,false,a.q⟩):=by
    funext l id
    unfold actC
    by_cases k2 : Int.tmod a.kd 9 = 2
    ·rw [if_pos k2,if_pos k2]
    ·rw [if_neg k2,if_neg k3,if_neg k2]
   rw [ea]
   unfold doR
   by_cases k0 : Int.tmod a.kd 9 = 0
   ·rw [if_pos k0,if_neg (by omega)]
   ·rw [if_neg k0]
    by_cases k1 : Int.tmod a.kd 9 = 1
    ·rw [if_pos k1,if_neg (by omega)]
    ·rw [if_neg k1,if_pos (by omega),if_pos (by omega)]
  rw [e] at h ⊢
  unfold actB
  rw [if_neg k3,if_neg k3]
  obtain ⟨q1,q2,q3,q4,q5,q6,q7,q8⟩:=laid_ok (f:=actC b.f1 a) h
  exact ⟨q1,q2,q3,q4,q5,q6,fun _=>q7,by rw [q8];rfl⟩
theorem do4_no {b : S26} {a : Act} (h0 : 0 ≤ Int.tmod a.kd 9) (h4 : Int.tmod a.kd 9 < 4) (h : (doR b a).er ≠ 0) : (doR b a).b = b ∧ (doR b a).id = 0:=by
 unfold doR at h ⊢
 by_cases k0 : Int.tmod a.kd 9 = 0
 ·rw [if_pos k0] at h ⊢;exact laid_no h
 rw [if_neg k0] at h ⊢
 by_cases k1 : Int.tmod a.kd 9 = 1
 ·rw [if_pos k1] at h ⊢;exact laid_no h
 rw [if_neg k1] at h ⊢
 by_cases k2 : Int.tmod a.kd 9 = 2
 ·rw [if_pos k2] at h ⊢;exact laid_no h
 rw [if_neg k2,if_pos (by omega)] at h ⊢
 exact ⟨dropB_no h,rfl⟩
theorem near_get {b : S26} (h : bucketB b = true) (key : ByteArray) : ∀ v ∈ getE b.f2 key,v.f0 ≤ b.f4 ∧ (b.f1 = 0 → v.f0 = 0):=by
 intro v hv
 rcases getE_or key b.f2 with ⟨x,hx,_,e⟩ | ⟨_,e⟩
 ·rw [e] at hv
  have h1:=List.all_eq_true.1 (bucket_at h).2.2.2.2.1 x hx
  unfold nearB at h1
  rw [Bool.not_eq_true',List.any_eq_false] at h1
  have h2:=h1 v hv
  unfold farB at h2
  simp only [Bool.or_eq_true,decide_eq_true_eq,Bool.and_eq_true,beq_iff_eq,Bool.not_eq_true',beq_eq_false_iff_ne,ne_eq,not_or,not_and,Decidable.not_not] at h2
  exact ⟨by omega,fun c=>h2.2 c⟩
 ·rw [e] at hv;cases hv
theorem put_bucket {b : S26} (hb : bucketB b = true) {key : ByteArray} {c : List S47} {L : Int} (hk : keyB key = true) (hc : chainB c = true) (hl : (putL b.f2 key c).length ≤ 60) (ho : octB (putL b.f2 key c) b.f3 ≤ 20000) (h1 : b.f4 ≤ L) (h2 : L ≤ 281474976710655) (hv : ∀ v ∈ c,v.f0 ≤ L ∧ (b.f1 = 0 → v.f0 = 0)) :
  bucketB (⟨b.f0,b.f1,putL b.f2 key c,b.f3,L⟩ : S26) = true:=by
 obtain ⟨q1,q2,q3,q4,q5,q6⟩:=bucket_at hb
 obtain ⟨i1,i2,i3⟩:=(index_iff _).1 q2
 unfold bucketB
 simp only [Bool.and_eq_true,decide_eq_true_eq,Bool.not_eq_true']
 refine ⟨?_,(index_iff _).2 ⟨hl,putL_SE key c i2,fun x hx=>?_⟩,q3,ho,List.all_eq_true.2 (fun x hx=>?_),?_⟩
 ·unfold headB at q1 ⊢
  simp only [Bool.and_eq_true,decide_eq_true_eq] at q1 ⊢
  exact ⟨q1.1,q1.2.1,q1.2.2.1,h2⟩
 ·rcases (putL_mem i2).1 hx with ⟨x1,_⟩ | ⟨x1,rfl⟩
  ·exact i3 x x1
  ·exact ⟨hk,x1,hc⟩
 ·unfold nearB
  rw [Bool.not_eq_true',List.any_eq_false]
  intro v hvx
  have hn : v.f0 ≤ L ∧ (b.f1 = 0 → v.f0 = 0):=by
   rcases (putL_mem i2).1 hx with ⟨x1,_⟩ | ⟨x1,rfl⟩
   ·have e:=getE_mem i2 x1
    rw [← e] at hvx
    have:=near_get hb _ v hvx
    exact ⟨by omega,this.2⟩
   ·exact hv v hvx
  unfold farB
  simp only [Bool.or_eq_true,decide_eq_true_eq,Bool.and_eq_true,beq_iff_eq,Bool.not_eq_true',beq_eq_false_iff_ne,ne_eq,not_or,not_and,Decidable.not_not]
  exact ⟨by omega,hn.2⟩
 ·rw [List.any_eq_false] at q6 ⊢
  intro u hu
  have:=q6 u hu
  unfold updB at this ⊢
  rw [decide_eq_true_eq] at this ⊢
  omega
theorem last_le {b : S26} (hb : bucketB b = true) (h4 : 0 ≤ b.f4) (hl : b.f1 = 1 → b.f4 < 281474976710655) : b.f4 ≤ lastR b ∧ lastR b ≤ 281474976710655 ∧ (b.f1 = 1 → lastR b = b.f4 + 1) ∧ (b.f1 ≠ 1 → lastR b = b.f4) ∧ (b.f1 = 1 → idR b = b.f4 + 1) ∧ (b.f1 ≠ 1 → idR b = 0):=by
 have hm : b.f4 ≤ 281474976710655:=by
  have:=(bucket_at hb).1
  unfold headB at this
  simp only [Bool.and_eq_true,decide_eq_true_eq] at this
  exact this.2.2.2
 unfold lastR idR
 by_cases h : b.f1 = 1
 ·rw [if_pos h,if_pos h,wrap_le h4 hm]
  have:=hl h
  exact ⟨by omega,by omega,fun _=>rfl,fun c=>absurd h c,fun _=>rfl,fun c=>absurd h c⟩
 ·rw [if_neg h,if_neg h]
  exact ⟨Int.le_refl _,hm,fun c=>absurd c h,fun _=>rfl,fun c=>absurd c h,fun _=>rfl⟩
theorem act_bucket {b : S26} {a : Act} (h4 : 0 ≤ b.f4) (k0 : 0 ≤ Int.tmod a.kd 9) (k4 : Int.tmod a.kd 9 < 4) (h : (doR b a).er = 0) : bucketB (actB b a) = true ∧ b.f4 ≤ (actB b a).f4:=by
 obtain ⟨q1,q2,q3,q4,q5,q6,q7,q8⟩:=do4_ok k0 k4 h
 have hm:=actC_mem q3
 unfold actB
 by_cases k3 : Int.tmod a.kd 9 = 3
 ·rw [if_pos k3]
  have hh:=(bucket_at q1).1
  unfold headB at hh
  simp only [Bool.and_eq_true,decide_eq_true_eq] at hh
  refine ⟨put_bucket q1 q2 q4 q5 q6 (Int.le_refl _) hh.2.2.2 (fun v hv=>?_),Int.le_refl _⟩
  rcases hm v hv with x | x | x
  ·exact near_get q1 _ v x
  ·exact ⟨by omega,fun _=>x⟩
  ·exact absurd k3 x.2.1
 ·rw [if_neg k3]
  obtain ⟨l1,l2,l3,l4,l5,l6⟩:=last_le q1 h4 (q7 (by omega))
  refine ⟨put_bucket q1 q2 q4 q5 q6 l1 l2 (fun v hv=>?_),l1⟩
  rcases hm v hv with x | x | x
  ·have:=near_get q1 _ v x
   exact ⟨by omega,this.2⟩
  ·exact ⟨by omega,fun _=>x⟩
  ·rw [x.2.2,l5 x.1,l3 x.1]
   exact ⟨Int.le_refl _,fun c=>by omega⟩
end
section
open Go.WideMaps Go.Maps
theorem wr1 {i : Nat} (h : i ≤ 1000000) : wrap64 ((i : Int) + 1) = ((i + 1 : Nat) : Int):=by rw [wrap64_of (by omega) (by omega)];omega
theorem same5_l0 {l : List S47} (hl : l.length ≤ 1000) : ∀ (d i k : Nat),i + d = l.length → d < k → cellarerref05_Same.l0 k l l (i : Int) = some true
 | _,_,0,_,h=>by omega
 | 0,i,k + 1,h,_=>by
  unfold cellarerref05_Same.l0
  rw [if_neg (by omega)]
 | d + 1,i,k + 1,h,hk=>by
  unfold cellarerref05_Same.l0
  rw [if_pos (by omega),if_pos (by omega),if_pos (by omega),if_neg (by simp),wr1 (by omega)]
  exact same5_l0 hl d (i + 1) k (by omega) (by omega)
theorem same5_self {l : List S47} (hl : l.length ≤ 1000) (k : Nat) (hk : 1000 < k) : cellarerref05_Same.f k l l = some true:=by
 unfold cellarerref05_Same.f
 rw [if_pos rfl]
 exact same5_l0 hl l.length 0 k (by omega) (by omega)
theorem same6_l0 {l : List S56} (hl : l.length ≤ 1000) (hx : ∀ x ∈ l,x.f1.length ≤ 1000) : ∀ (d i k : Nat),i + d = l.length → d + 1001 < k → cellarerref06_Same.l0 k l l (i : Int) = some true
 | _,_,0,_,h=>by omega
 | 0,i,k + 1,h,_=>by
  unfold cellarerref06_Same.l0
  rw [if_neg (by omega)]
 | d + 1,i,k + 1,h,hk=>by
  unfold cellarerref06_Same.l0
  have hm : (rd_T56 l (i : Int)).f1.length ≤ 1000:=by
   rw [rdEntry l i (by omega)]
   exact hx _ (List.getElem_mem _)
  rw [if_pos (by omega),if_pos (by omega),if_pos (by omega),if_pos rfl,same5_self hm k (by omega),Option.bind_some,if_pos rfl,wr1 (by omega)]
  exact same6_l0 hl hx d (i + 1) k (by omega) (by omega)
theorem same6_self {l : List S56} (hl : l.length ≤ 1000) (hx : ∀ x ∈ l,x.f1.length ≤ 1000) (k : Nat) (hk : 2001 < k) : cellarerref06_Same.f k l l = some true:=by
 unfold cellarerref06_Same.f
 rw [if_pos rfl]
 exact same6_l0 hl hx l.length 0 k (by omega) (by omega)
theorem same8_l1 {l : List S101} {i : Nat} (hi : i < l.length) (hl : l.length ≤ 1000) (hm : l[i].f2.length ≤ 1000) (k : Nat) : ∀ (d j : Nat),j + d = l[i].f2.length → cellarerref08_Same.l1 (k + d + 1) l l (i : Int) (j : Int) = cellarerref08_Same.l0 k l l ((i + 1 : Nat) : Int)
 | 0,j,h=>by
  rw [show k + 0 + 1 = k + 1 from rfl]
  simp only [cellarerref08_Same.l1]
  rw [rdUpload l i hi,if_pos (by omega),if_pos (by omega),if_neg (by omega),wr1 (by omega)]
 | d + 1,j,h=>by
  rw [show k + (d + 1) + 1 = (k + d + 1) + 1 from rfl]
  generalize hK : k + d + 1 = K
  simp only [cellarerref08_Same.l1]
  subst hK
  rw [rdUpload l i hi,if_pos (by omega),if_pos (by omega),if_pos (by omega),if_pos (by omega),if_pos (by omega),if_pos (by omega),if_neg (by simp),wr1 (by omega)]
  exact same8_l1 hi hl hm k d (j + 1) (by omega)
theorem same8_l0 {l : List S101} (hl : l.length ≤ 1000) (hx : ∀ x ∈ l,x.f2.length ≤ 1000) (d : Nat) : ∀ (i k : Nat),i + d = l.length → d * 1010 < k → cellarerref08_Same.l0 k l l (i : Int) = some true:=by
 induction d with
 | zero =>
  intro i k h hk
  obtain ⟨k,rfl⟩ : ∃ q,k = q + 1:=⟨k - 1,by omega⟩
  simp only [cellarerref08_Same.l0]
  rw [if_neg (by omega)]
 | succ d ih =>
  intro i k h hk
  have hi : i < l.length:=by omega
  have hm : l[i].f2.length ≤ 1000:=hx _ (List.getElem_mem _)
  rw [Nat.succ_mul] at hk
  generalize d * 1010 = D at *
  obtain ⟨q,hq,hq2⟩ : ∃ q,k = (q + l[i].f2.length + 1) + 1 + 1 ∧ D < q:=by
   refine ⟨k - l[i].f2.length - 3,?_,?_⟩ <;> omega
  rw [hq]
  generalize hK : (q + l[i].f2.length + 1) + 1 = K
  simp only [cellarerref08_Same.l0]
  rw [rdUpload l i hi,if_pos (by omega),if_pos (by omega),if_pos (by omega),if_pos trivial,if_pos trivial,bne_self_eq_false]
  subst hK
  generalize hK : q + l[i].f2.length + 1 = K
  simp only [cellarerref08_Same.j1]
  rw [if_neg (by simp)]
  subst hK
  have:=same8_l1 hi hl hm q l[i].f2.length 0 (by omega)
  rw [show ((0 : Nat) : Int) = 0 from rfl] at this
  rw [this]
  exact ih (i + 1) q (by omega) hq2
theorem same8_self {l : List S101} (hl : l.length ≤ 1000) (hx : ∀ x ∈ l,x.f2.length ≤ 1000) (k : Nat) (hk : 1010000 < k) : cellarerref08_Same.f k l l = some true:=by
 unfold cellarerref08_Same.f
 rw [if_pos rfl]
 exact same8_l0 hl hx l.length 0 k (by omega) (by omega)
def Small (b : S26) : Prop:=b.f2.length ≤ 1000 ∧ (∀ x ∈ b.f2,x.f1.length ≤ 1000) ∧ b.f3.length ≤ 1000 ∧ ∀ x ∈ b.f3,x.f2.length ≤ 1000
theorem small_bucket {b : S26} (h : bucketB b = true) : Small b:=by
 obtain ⟨q1,q2,q3,_,_,_⟩:=bucket_at h
 obtain ⟨i1,_,i3⟩:=(index_iff _).1 q2
 obtain ⟨c1,_,c3⟩:=(check_iff _).1 q3
 refine ⟨by omega,fun x hx=>?_,by omega,fun u hu=>?_⟩
 ·have:=chain_len (i3 x hx).2.2;omega
 ·have:=((fine_iff _ _ _).1 (c3 u hu)).2.2.1;omega
theorem same9_self {b : S26} (h : Small b) (k : Nat) (hk : 1010000 < k) : cellarerref09_Same.f k b.f0 b.f1 b.f2 b.f3 b.f4 b.f0 b.f1 b.f2 b.f3 b.f4 = some true:=by
 unfold cellarerref09_Same.f
 rw [if_pos rfl,if_pos rfl,if_pos rfl,same6_self h.1 h.2.1 k (by omega),Option.bind_some,if_pos rfl,same8_self h.2.2.1 h.2.2.2 k hk,Option.bind_some]
end
section
open Go.WideMaps Go.Maps
theorem turned_only {w w' : World} {m : Nat} (h : w.mapTurned w' m) : Only m w w':=by
 obtain ⟨es,clock,es',clock',hb,rfl⟩:=h
 refine ⟨rfl,rfl,rfl,?_,fun k hk hne=>?_⟩
 ·show _ ≤ (w.heap.setIfInBounds m _).size
  simp
 ·show (w.heap.setIfInBounds m _)[k]? = _
  rw [Array.getElem?_setIfInBounds_ne (fun e=>hne e.symm)]
theorem not_map {w : World} {p : Addr} {u : Value} {es : Array MapEntry} {c : Nat} (h : w.cell? p = some u) (hb : w.heap[p.block]? = some (.map es c)) : False:=by
 simp [World.cell?,hb] at h
section
variable {w w1 : World} {g : Nat} {es : Array MapEntry} {clock : Nat} {A : Option Addr} {n : Nat}
theorem C_map {α : Type} {d : Kd α} {l : List α} (h : Kd.C d w A n l) (hg : w.heap[g]? = some (.map es clock)) (ho : Only g w w1) (h0 : 0 < d.sz) (hK : ∀ (x : α) (c : List Value),d.K w x c → d.K w1 x c) : Kd.C d w1 A n l:=by
 obtain ⟨h1,h2,h3⟩:=h
 refine ⟨h1,h2,fun hn=>?_⟩
 obtain ⟨ad,e,hc⟩:=h3 hn
 refine ⟨ad,e,fun j x hx=>?_⟩
 obtain ⟨c,h4,h5,h6⟩:=hc j x hx
 refine ⟨c,h4,hK x c h5,fun i u hu=>?_⟩
 have hb : ad.block ≠ g:=fun e=>not_map (h6 i u hu) (by rw [(add_blk _ _).1,e];exact hg)
 exact ho.cell (by rw [(add_blk _ _).1];exact hb) (h6 i u hu)
theorem mapV {l : List S47} (h : Kd.C k47 w A n l) (hg : w.heap[g]? = some (.map es clock)) (ho : Only g w w1) : Kd.C k47 w1 A n l :=
 C_map h hg ho (by decide) (fun x c hk=>by obtain rfl:=k47_open hk;exact k47_mk w1 x)
theorem mapPt {l : List S40} (h : Kd.C k40 w A n l) (hg : w.heap[g]? = some (.map es clock)) (ho : Only g w w1) : Kd.C k40 w1 A n l :=
 C_map h hg ho (by decide) (fun x c hk=>by obtain rfl:=k40_open hk;exact k40_mk w1 x)
theorem mapE {l : List S56} (h : Kd.C k56 w A n l) (hg : w.heap[g]? = some (.map es clock)) (ho : Only g w w1) : Kd.C k56 w1 A n l :=
 C_map h hg ho (by decide) (fun x c hk=>by obtain ⟨A1,c1,rfl,h1,h2⟩:=k56_open hk;exact k56_mk w1 x h1 (mapV h2 hg ho))
theorem mapU {l : List S101} (h : Kd.C k101 w A n l) (hg : w.heap[g]? = some (.map es clock)) (ho : Only g w w1) : Kd.C k101 w1 A n l :=
 C_map h hg ho (by decide) (fun x c hk=>by obtain ⟨A1,c1,rfl,h1,h2⟩:=k101_open hk;exact k101_mk w1 x h1 (mapPt h2 hg ho))
end
theorem C_cut {α : Type} {d : Kd α} {w : World} {A : Option Addr} {l : List α} (h : Kd.C d w A l.length l) (m : Nat) : Kd.C d w A (l.take m).length (l.take m):=by
 rcases Nat.le_total m l.length with hm | hm
 ·have:=C_take h m hm
  rw [List.length_take,Nat.min_eq_left hm];exact this
 ·rw [List.take_of_length_le hm];exact h
abbrev kl (key : ByteArray) : Lit:=.string key.data.toList
theorem owns_blk {w w' : World} {P : Program} {k : TypeId} {R : Value → Option (DataW Unit × List MemPlace)} {b n : Nat} {D : DataW Unit} (h : w.ownsMap P k R b n D) (e : w'.heap[b]? = w.heap[b]?) : w'.ownsMap P k R b n D:=by
 obtain ⟨es,clock,hb,r⟩:=h
 exact ⟨es,clock,e.trans hb,r⟩
theorem owns_below {w w' : World} {P : Program} {k : TypeId} {R : Value → Option (DataW Unit × List MemPlace)} {b n : Nat} {D : DataW Unit} (h : w.ownsMap P k R b n D) (hb : Below w.heap.size w w') : w'.ownsMap P k R b n D:=owns_blk h (hb.block b h.lt)
theorem owns_only {w w' : World} {P : Program} {k : TypeId} {R : Value → Option (DataW Unit × List MemPlace)} {b n g : Nat} {D : DataW Unit} (h : w.ownsMap P k R b n D) (ho : Only g w w') (hn : b ≠ g) : w'.ownsMap P k R b n D:=owns_blk h (ho.block b h.lt hn)
theorem owns_at {w : World} {P : Program} {k : TypeId} {R : Value → Option (DataW Unit × List MemPlace)} {b n : Nat} {D : DataW Unit} (h : w.ownsMap P k R b n D) : ∃ es clock,w.heap[b]? = some (.map es clock):=by
 obtain ⟨es,clock,hb,_⟩:=h
 exact ⟨es,clock,hb⟩
theorem owns_ne {w : World} {P : Program} {k : TypeId} {R : Value → Option (DataW Unit × List MemPlace)} {b n g : Nat} {D : DataW Unit} {cs : Array Value} {t : TypeId} {fr : Nat × Nat} (h : w.ownsMap P k R b n D) (hg : w.heap[g]? = some (.cells cs t fr)) : b ≠ g:=by
 rintro rfl
 obtain ⟨es,clock,hb⟩:=owns_at h
 rw [hb] at hg
 cases hg
section
variable (w : World) {ops : Array Oper} {rest : List Oper} {o : Oper} {a : Go.Act} {Q : Exit → Go.Act → World → Prop}
end
end
section
open Go.WideMaps Go.Maps
def StepOK (b : S26) (x : Did) (six : Bool) : Prop :=
 bucketB x.b = true ∧ b.f4 ≤ x.b.f4 ∧ (x.er ≠ 0 → x.b = b) ∧ (x.er = 0 → six = false → x.id ≠ 0 → x.id = b.f4 + 1 ∧ x.b.f4 = b.f4 + 1)
theorem step_no {b : S26} {x : Did} {six : Bool} (hb : bucketB b = true) (he : x.er ≠ 0) (h : x.b = b) : StepOK b x six :=
 ⟨by rw [h];exact hb,by rw [h];exact Int.le_refl _,fun _=>h,fun c=>absurd c he⟩
theorem head_le {b : S26} (hb : bucketB b = true) : b.f4 ≤ 281474976710655 ∧ 0 ≤ b.f1 ∧ b.f1 ≤ 2:=by
 have:=(bucket_at hb).1
 unfold headB at this
 simp only [Bool.and_eq_true,decide_eq_true_eq] at this
 exact ⟨this.2.2.2,this.2.1,this.2.2.1⟩
theorem upd_le {b : S26} (hb : bucketB b = true) : ∀ u ∈ b.f3,u.f0 ≤ b.f4:=by
 intro u hu
 have:=List.any_eq_false.1 (bucket_at hb).2.2.2.2.2 u hu
 unfold updB at this
 rw [decide_eq_true_eq] at this
 omega
theorem upl_bucket {b : S26} (hb : bucketB b = true) {U : List S101} {L : Int} (hU : checkB U = true) (ho : octB b.f2 U ≤ 20000) (h1 : b.f4 ≤ L) (h2 : L ≤ 281474976710655) (hu : ∀ u ∈ U,u.f0 ≤ L) :
  bucketB (⟨b.f0,b.f1,b.f2,U,L⟩ : S26) = true:=by
 obtain ⟨q1,q2,q3,q4,q5,q6⟩:=bucket_at hb
 unfold bucketB
 simp only [Bool.and_eq_true,decide_eq_true_eq,Bool.not_eq_true']
 refine ⟨?_,q2,hU,ho,List.all_eq_true.2 (fun x hx=>?_),?_⟩
 ·unfold headB at q1 ⊢
  simp only [Bool.and_eq_true,decide_eq_true_eq] at q1 ⊢
  exact ⟨q1.1,q1.2.1,q1.2.2.1,h2⟩
 ·have h:=List.all_eq_true.1 q5 x hx
  unfold nearB at h ⊢
  rw [Bool.not_eq_true',List.any_eq_false] at h ⊢
  intro v hv
  have:=h v hv
  unfold farB at this ⊢
  simp only [Bool.or_eq_true,decide_eq_true_eq,Bool.and_eq_true,beq_iff_eq,Bool.not_eq_true',beq_eq_false_iff_ne,ne_eq,not_or,not_and,Decidable.not_not] at this ⊢
  exact ⟨by omega,this.2⟩
 ·rw [List.any_eq_false]
  intro u hu'
  have:=hu u hu'
  unfold updB
  rw [decide_eq_true_eq]
  omega
theorem turn_step {b : S26} (hb : bucketB b = true) (st : Int) (six : Bool) : StepOK b (d2 (turnB b st)) six:=by
 unfold turnB
 by_cases h1 : bucketB b = false ∨ st < 0 ∨ 2 < st
 ·rw [if_pos h1];exact step_no hb (by decide : (1 : Int) ≠ 0) rfl
 ·rw [if_neg h1]
  by_cases h2 : st = 0 ∧ b.f1 ≠ 0
  ·rw [if_pos h2];exact step_no hb (by decide : (8 : Int) ≠ 0) rfl
  ·rw [if_neg h2]
   refine ⟨?_,Int.le_refl _,fun c=>absurd rfl c,fun _ _ c=>absurd rfl c⟩
   obtain ⟨q1,q2,q3,q4,q5,q6⟩:=bucket_at hb
   show bucketB (⟨b.f0,st,b.f2,b.f3,b.f4⟩ : S26) = true
   unfold bucketB
   simp only [Bool.and_eq_true,decide_eq_true_eq,Bool.not_eq_true']
   refine ⟨?_,q2,q3,q4,List.all_eq_true.2 (fun x hx=>?_),q6⟩
   ·unfold headB at q1 ⊢
    simp only [Bool.and_eq_true,decide_eq_true_eq] at q1 ⊢
    exact ⟨q1.1,by omega,by omega,q1.2.2.2⟩
   ·have h:=List.all_eq_true.1 q5 x hx
    unfold nearB at h ⊢
    rw [Bool.not_eq_true',List.any_eq_false] at h ⊢
    intro v hv
    have:=h v hv
    unfold farB at this ⊢
    simp only [Bool.or_eq_true,decide_eq_true_eq,Bool.and_eq_true,beq_iff_eq,Bool.not_eq_true',beq_eq_false_iff_ne,ne_eq,not_or,not_and,Decidable.not_not] at this ⊢
    refine ⟨this.1,fun c=>this.2 ?_⟩
    exact Decidable.byContradiction (fun e=>h2 ⟨c,e⟩)
theorem begin_step {b : S26} (hb : bucketB b = true) (h4 : 0 ≤ b.f4) (key : ByteArray) (six : Bool) : StepOK b (d3 (beginB b key)) six:=by
 have hm:=(head_le hb).1
 unfold beginB
 simp only
 rw [wrap_le h4 hm]
 generalize hq : beginQ b key (b.f4 + 1) (noR (decide (281474976710655 ≤ b.f4)) 6 (openR b key)) = q
 by_cases hc : (closeR b q.1 q.2).2 = 0
 ·rw [if_pos hc]
  obtain ⟨e1,e2,e3⟩:=closeR_ok hc
  unfold beginQ at hq
  by_cases hn : noR (decide (281474976710655 ≤ b.f4)) 6 (openR b key) = 0
  ·rw [if_pos hn] at hq
   subst hq
   simp only at e1 e2 e3 ⊢
   rw [hn] at e1
   have hr:=(noR_ok e1).1
   obtain ⟨c1,c2,c3⟩:=begin_check hr
   have hlt : b.f4 < 281474976710655:=by
    unfold noR at hn
    by_cases hd : 281474976710655 ≤ b.f4
    ·rw [decide_eq_true hd] at hn
     by_cases h0 : openR b key = 0
     ·rw [if_pos ⟨rfl,h0⟩] at hn;cases hn
     ·rw [if_neg (fun c=>h0 c.2)] at hn;exact absurd hn h0
    ·omega
   rw [e3]
   refine ⟨upl_bucket hb c1 e2 (by omega) (by omega) (fun u hu=>?_),(by omega : b.f4 ≤ b.f4 + 1),fun c=>absurd rfl c,fun _ _ _=>⟨rfl,rfl⟩⟩
   rw [c2] at hu
   rcases List.mem_append.1 hu with x | x
   ·have:=upd_le hb u x;omega
   ·rw [List.mem_singleton.1 x];exact Int.le_refl _
  ·rw [if_neg hn] at hq
   subst hq
   exact absurd e1 hn
 ·rw [if_neg hc];exact step_no hb hc rfl
theorem abort_step {b : S26} (hb : bucketB b = true) (id : Int) (six : Bool) : StepOK b (d2 (abortB b id)) six:=by
 unfold abortB
 by_cases hc : (closeR b (⟨b.f0,b.f1,b.f2,(abortR b.f3 id).1,b.f4⟩ : S26) (noR (!((abortR b.f3 id).2 == 0)) (abortR b.f3 id).2 (openR b anyK))).2 = 0
 ·obtain ⟨e1,e2,e3⟩:=closeR_ok hc
  have hr:=(noR_ok e1).1
  obtain ⟨c1,c2,i,c3,c4⟩:=abort_check hr
  rw [e3]
  refine ⟨upl_bucket hb c1 e2 (Int.le_refl _) (head_le hb).1 (fun u hu=>?_),Int.le_refl _,fun c=>absurd rfl c,fun _ _ c=>absurd rfl c⟩
  rw [c4] at hu
  unfold delL at hu
  rcases List.mem_append.1 hu with x | x
  ·exact upd_le hb u (List.mem_of_mem_take x)
  ·exact upd_le hb u (List.mem_of_mem_drop x)
 ·exact step_no hb hc (closeR_no hc)
theorem lay_mem {l : List S101} {id : Int} {p : S40} (h : (layR l id p).2.2 = 0) : ∀ u ∈ (layR l id p).1,∃ v ∈ l,v.f0 = u.f0:=by
 unfold layR at h ⊢
 by_cases h1 : checkB l = false ∨ mayB p = false
 ·rw [if_pos h1] at h;cases h
 ·rw [if_neg h1] at h ⊢
  cases hp : posU l id with
  | none=>rw [hp] at h;cases h
  | some i =>
   rw [hp] at h
   simp only at h ⊢
   by_cases h2 : thereP (l.getD i z101).f2 p.f0 = false ∧ (l.getD i z101).f2.length = 30
   ·rw [if_pos h2] at h;cases h
   ·rw [if_neg h2]
    intro u hu
    unfold posU at hp
    have hi : i < l.length:=by
     rw [List.findIdx?_eq_some_iff_getElem] at hp
     exact hp.1
    rcases List.mem_or_eq_of_mem_set hu with x | x
    ·exact ⟨u,x,rfl⟩
    ·refine ⟨l[i],List.getElem_mem hi,?_⟩
     rw [x,getD_at l i _ hi]
theorem lay_step {b : S26} (hb : bucketB b = true) (id : Int) (p : S40) (T : Int) :
  StepOK b ⟨(layB b id p).1,T,⟨#[]⟩,(layB b id p).2.2⟩ true:=by
 unfold layB
 simp only
 by_cases hc : (closeR b (⟨b.f0,b.f1,b.f2,(layR b.f3 id p).1,b.f4⟩ : S26) (noR (!((layR b.f3 id p).2.2 == 0)) (layR b.f3 id p).2.2 (openR b anyK))).2 = 0
 ·rw [if_pos hc]
  obtain ⟨e1,e2,e3⟩:=closeR_ok hc
  have hr:=(noR_ok e1).1
  rw [e3]
  refine ⟨upl_bucket hb (lay_check hr).1 e2 (Int.le_refl _) (head_le hb).1 (fun u hu=>?_),Int.le_refl _,fun c=>absurd rfl c,fun _ c=>by cases c⟩
  obtain ⟨v,hv,e⟩:=lay_mem hr u hu
  rw [← e]
  exact upd_le hb v hv
 ·rw [if_neg hc];exact step_no hb hc rfl
/-- what Whole does: the upload goes, then Put -/
def wholeAct (b : S26) (id : Int) (ps : List S43) (q : Int) : Act:=⟨0,(findR b.f3 id).1.f1,(wholeR (findR b.f3 id).1 ps).1,0,0,q,[]⟩
def gone (b : S26) (id : Int) : S26:=⟨b.f0,b.f1,b.f2,(abortR b.f3 id).1,b.f4⟩
theorem whole_ok {b : S26} {id : Int} {ps : List S43} {q : Int} (h : (wholeB b id ps q).2.2.2 = 0) :
  bucketB b = true ∧ (findR b.f3 id).2 = 0 ∧ (wholeR (findR b.f3 id).1 ps).2.2 = 0 ∧ (doR (gone b id) (wholeAct b id ps q)).er = 0 ∧
  wholeB b id ps q = ((doR (gone b id) (wholeAct b id ps q)).b,(doR (gone b id) (wholeAct b id ps q)).id,(wholeR (findR b.f3 id).1 ps).2.1,0):=by
 have e : doR (gone b id) (wholeAct b id ps q) = d3 (laidR ⟨b.f0,b.f1,b.f2,(abortR b.f3 id).1,b.f4⟩ (findR b.f3 id).1.f1 (fun l n=>putV l b.f1 ⟨n,(wholeR (findR b.f3 id).1 ps).1,false,q⟩)):=by
  unfold doR wholeAct gone
  show (if Int.tmod (0 : Int) 9 = 0 then _ else _) = _
  rw [if_pos (by decide)]
 rw [e]
 unfold wholeB at h ⊢
 simp only at h ⊢
 by_cases hn : noR (!((wholeR (findR b.f3 id).1 ps).2.2 == 0)) (wholeR (findR b.f3 id).1 ps).2.2 (noR (!((findR b.f3 id).2 == 0)) (findR b.f3 id).2 (openR b anyK)) = 0
 ·rw [if_pos hn] at h ⊢
  have n1:=noR_ok hn
  have n2:=noR_ok n1.2
  by_cases hp : (laidR (⟨b.f0,b.f1,b.f2,(abortR b.f3 id).1,b.f4⟩ : S26) (findR b.f3 id).1.f1 (fun l n=>putV l b.f1 ⟨n,(wholeR (findR b.f3 id).1 ps).1,false,q⟩)).2.2 = 0
  ·rw [if_pos hp]
   exact ⟨(open_0 n2.2).1,n2.1,n1.1,hp,rfl⟩
  ·rw [if_neg hp] at h;exact absurd h hp
 ·rw [if_neg hn] at h;exact absurd h hn
theorem whole_no {b : S26} {id : Int} {ps : List S43} {q : Int} (h : (wholeB b id ps q).2.2.2 ≠ 0) : (wholeB b id ps q).1 = b ∧ (wholeB b id ps q).2.1 = 0:=by
 unfold wholeB at h ⊢
 simp only at h ⊢
 split
 ·rename_i hn
  rw [if_pos hn] at h
  split
  ·rename_i hp
   rw [if_pos hp] at h
   exact absurd rfl h
  ·exact ⟨rfl,rfl⟩
 ·exact ⟨rfl,rfl⟩
theorem act_step {b : S26} {a : Act} (hb : bucketB b = true) (h4 : 0 ≤ b.f4) (k0 : 0 ≤ Int.tmod a.kd 9) (k4 : Int.tmod a.kd 9 < 4) (six : Bool) : StepOK b (doR b a) six:=by
 by_cases he : (doR b a).er = 0
 ·obtain ⟨q1,q2,q3,q4,q5,q6,q7,q8⟩:=do4_ok k0 k4 he
  have hx:=act_bucket h4 k0 k4 he
  rw [q8]
  refine ⟨hx.1,hx.2,fun c=>absurd rfl c,fun _ _ hi=>?_⟩
  unfold actB
  simp only at hi ⊢
  by_cases k3 : Int.tmod a.kd 9 = 3
  ·rw [if_pos k3] at hi;exact absurd rfl hi
  ·rw [if_neg k3] at hi
   rw [if_neg k3,if_neg k3]
   obtain ⟨l1,l2,l3,l4,l5,l6⟩:=last_le q1 h4 (q7 (by omega))
   by_cases h1 : b.f1 = 1
   ·exact ⟨l5 h1,l3 h1⟩
   ·exact absurd (l6 h1) hi
 ·exact step_no hb he (do4_no k0 k4 he).1
theorem whole_step {b : S26} (hb : bucketB b = true) (h4 : 0 ≤ b.f4) (id : Int) (ps : List S43) (q : Int) (six : Bool) : StepOK b ⟨(wholeB b id ps q).1,(wholeB b id ps q).2.1,(wholeB b id ps q).2.2.1,(wholeB b id ps q).2.2.2⟩ six:=by
 by_cases he : (wholeB b id ps q).2.2.2 = 0
 ·obtain ⟨_,_,_,w4,w5⟩:=whole_ok he
  have hg : bucketB (gone b id) = true:=(do4_ok (a:=wholeAct b id ps q) (show (0 : Int) ≤ Int.tmod 0 9 by decide) (show Int.tmod (0 : Int) 9 < 4 by decide) w4).1
  obtain ⟨s1,s2,s3,s4⟩:=act_step (a:=wholeAct b id ps q) hg h4 (show (0 : Int) ≤ Int.tmod 0 9 by decide) (show Int.tmod (0 : Int) 9 < 4 by decide) false
  rw [w5]
  exact ⟨s1,s2,fun c=>absurd rfl c,fun _ _ hi=>s4 w4 rfl hi⟩
 ·exact step_no hb he (whole_no he).1
theorem do_step {b : S26} {a : Act} (hb : bucketB b = true) (h4 : 0 ≤ b.f4) (k0 : 0 ≤ Int.tmod a.kd 9) : StepOK b (doR b a) (decide (Int.tmod a.kd 9 = 6)):=by
 by_cases k4 : Int.tmod a.kd 9 < 4
 ·exact act_step hb h4 k0 k4 _
 ·unfold doR
  rw [if_neg (by omega),if_neg (by omega),if_neg (by omega),if_neg (by omega)]
  by_cases h : Int.tmod a.kd 9 = 4
  ·rw [if_pos h];exact turn_step hb _ _
  rw [if_neg h]
  by_cases h : Int.tmod a.kd 9 = 5
  ·rw [if_pos h];exact begin_step hb h4 _ _
  rw [if_neg h]
  by_cases h : Int.tmod a.kd 9 = 6
  ·rw [if_pos h,decide_eq_true h];exact lay_step hb _ _ _
  rw [if_neg h]
  by_cases h : Int.tmod a.kd 9 = 7
  ·rw [if_pos h];exact abort_step hb _ _
  rw [if_neg h];exact whole_step hb h4 _ _ _ _
end
section
open Go.WideMaps Go.Maps
def kA : Kd Act:=Kd.iso (Kd.pair (Kd.int .u8) (Kd.pair Kd.string (Kd.pair Kd.string (Kd.pair (Kd.int .u64) (Kd.pair (Kd.int .i64) (Kd.pair (Kd.int .i64) (Kd.slice 43 k43))))))) (fun x : Act=>(x.kd,x.key,x.data,x.id,x.n,x.q,x.ps))
theorem kA_open {w : World} {x : Act} {cs : List Value} (h : kA.K w x cs) : ∃ A6 c6,cs = [.int .u8 x.kd,.string x.key,.string x.data,.int .u64 x.id,.int .i64 x.n,.int .i64 x.q,.slice A6 x.ps.length c6] ∧ x.ps.length ≤ c6 ∧ k43.C w A6 x.ps.length x.ps:=by
 obtain ⟨_,_,rfl,rfl,⟨_,_,rfl,rfl,⟨_,_,rfl,rfl,⟨_,_,rfl,rfl,⟨_,_,rfl,rfl,⟨_,_,rfl,rfl,⟨A6,c6,rfl,l6,g6⟩⟩⟩⟩⟩⟩⟩:=h
 exact ⟨A6,c6,rfl,l6,g6⟩
theorem kA_mk (w : World) (x : Act) {A6 : Option Addr} {c6 : Nat} (l6 : x.ps.length ≤ c6) (g6 : k43.C w A6 x.ps.length x.ps) : kA.K w x [.int .u8 x.kd,.string x.key,.string x.data,.int .u64 x.id,.int .i64 x.n,.int .i64 x.q,.slice A6 x.ps.length c6]:=⟨[.int .u8 x.kd],[.string x.key,.string x.data,.int .u64 x.id,.int .i64 x.n,.int .i64 x.q,.slice A6 x.ps.length c6],rfl,rfl,⟨[.string x.key],[.string x.data,.int .u64 x.id,.int .i64 x.n,.int .i64 x.q,.slice A6 x.ps.length c6],rfl,rfl,⟨[.string x.data],[.int .u64 x.id,.int .i64 x.n,.int .i64 x.q,.slice A6 x.ps.length c6],rfl,rfl,⟨[.int .u64 x.id],[.int .i64 x.n,.int .i64 x.q,.slice A6 x.ps.length c6],rfl,rfl,⟨[.int .i64 x.n],[.int .i64 x.q,.slice A6 x.ps.length c6],rfl,rfl,⟨[.int .i64 x.q],[.slice A6 x.ps.length c6],rfl,rfl,⟨A6,c6,rfl,l6,g6⟩⟩⟩⟩⟩⟩⟩
def zAct : Act:=⟨0,⟨#[]⟩,⟨#[]⟩,0,0,0,[]⟩
theorem atAct {w w1 : World} {A : Option Addr} {l : List Act} (hr : Kd.C kA w A l.length l) (hb : Below w.heap.size w w1) (k : Nat) (h : k < l.length) :
  ∃ ad A6 c6,A = some ad ∧ w1.cell? (ad.add (k * 7)) = some (.int .u8 l[k].kd) ∧ w1.cell? ⟨(ad.add (k * 7)).block,(ad.add (k * 7)).off + 1,none⟩ = some (.string l[k].key) ∧ w1.cell? ⟨(ad.add (k * 7)).block,(ad.add (k * 7)).off + 2,none⟩ = some (.string l[k].data) ∧ w1.cell? ⟨(ad.add (k * 7)).block,(ad.add (k * 7)).off + 3,none⟩ = some (.int .u64 l[k].id) ∧ w1.cell? ⟨(ad.add (k * 7)).block,(ad.add (k * 7)).off + 4,none⟩ = some (.int .i64 l[k].n) ∧ w1.cell? ⟨(ad.add (k * 7)).block,(ad.add (k * 7)).off + 5,none⟩ = some (.int .i64 l[k].q) ∧ w1.cell? ⟨(ad.add (k * 7)).block,(ad.add (k * 7)).off + 6,none⟩ = some (.slice A6 l[k].ps.length c6) ∧ l[k].ps.length ≤ c6 ∧ Kd.C k43 w1 A6 l[k].ps.length l[k].ps:=by
 obtain ⟨ad,c,e,_,hK,hc0⟩:=Kd.C_get hr zAct (k : Int) (by omega) (by omega)
 rw [Int.toNat_natCast] at hc0
 have ez : l.getD ((k : Int).toNat) zAct = l[k]:=by rw [Int.toNat_natCast];simp [List.getD_eq_getElem?_getD,h]
 rw [ez] at hK
 have hc : ∀ j u,c[j]? = some u → w.cell? (ad.add (k * 7 + j)) = some u:=hc0
 obtain ⟨A6,c6,rfl,l6,g6⟩:=kA_open hK
 exact ⟨ad,A6,c6,e,keepc hb (hc 0 _ rfl),keepc hb (by rw [← add_field _ _ 1 (by omega)];exact hc 1 _ rfl),keepc hb (by rw [← add_field _ _ 2 (by omega)];exact hc 2 _ rfl),keepc hb (by rw [← add_field _ _ 3 (by omega)];exact hc 3 _ rfl),keepc hb (by rw [← add_field _ _ 4 (by omega)];exact hc 4 _ rfl),keepc hb (by rw [← add_field _ _ 5 (by omega)];exact hc 5 _ rfl),keepc hb (by rw [← add_field _ _ 6 (by omega)];exact hc 6 _ rfl),l6,Kd.C_below g6 hb⟩
end
section
open Go.WideMaps Go.Maps
def wfu (n : Int) : Prop:=0 ≤ n ∧ n ≤ 18446744073709551615
def wfi (n : Int) : Prop:=-9223372036854775808 ≤ n ∧ n ≤ 9223372036854775807
theorem wfu_of {n : Int} (h : (Lit.int .u64 n).wf = true) : wfu n:=by
 have h2 : (decide ((IntKind.u64).min ≤ n) && decide (n ≤ (IntKind.u64).max)) = true:=h
 rw [Bool.and_eq_true,decide_eq_true_eq,decide_eq_true_eq,show (IntKind.u64).min = 0 from rfl,show (IntKind.u64).max = 18446744073709551615 from rfl] at h2
 exact h2
theorem wfi_of {n : Int} (h : (Lit.int .i64 n).wf = true) : wfi n:=by
 have h2 : (decide ((IntKind.i64).min ≤ n) && decide (n ≤ (IntKind.i64).max)) = true:=h
 rw [Bool.and_eq_true,decide_eq_true_eq,decide_eq_true_eq,show (IntKind.i64).min = -9223372036854775808 from rfl,show (IntKind.i64).max = 9223372036854775807 from rfl] at h2
 exact h2
def wf8 (n : Int) : Prop:=0 ≤ n ∧ n ≤ 255
theorem wf8_of {n : Int} (h : (Lit.int .u8 n).wf = true) : wf8 n:=by
 have h2 : (decide ((IntKind.u8).min ≤ n) && decide (n ≤ (IntKind.u8).max)) = true:=h
 rw [Bool.and_eq_true,decide_eq_true_eq,decide_eq_true_eq,show (IntKind.u8).min = 0 from rfl,show (IntKind.u8).max = 255 from rfl] at h2
 exact h2
def wf32 (n : Int) : Prop:=0 ≤ n ∧ n ≤ 4294967295
theorem wf32_of {n : Int} (h : (Lit.int .u32 n).wf = true) : wf32 n:=by
 have h2 : (decide ((IntKind.u32).min ≤ n) && decide (n ≤ (IntKind.u32).max)) = true:=h
 rw [Bool.and_eq_true,decide_eq_true_eq,decide_eq_true_eq,show (IntKind.u32).min = 0 from rfl,show (IntKind.u32).max = 4294967295 from rfl] at h2
 exact h2
theorem tstruct2 {H : Type} {enc : TypeId × Value → H} {P : Program} {w : World} {base : Nat} {spare : Nat → Bool} {held : Bool} {t : TypeId} {f0 f1 : Field} {fuel : Nat} {cs : List Value} {x : DataW H × List MemPlace} (ht : P.underlying t = some (.struct #[f0,f1])) (h : DataW.trod enc P w base spare held fuel t cs = some x) :
  ∃ y0 y1 n,cs.length = P.cellsOf t ∧ DataW.trod enc P w base spare held n f0.type ((cs.drop f0.offset).take (P.cellsOf f0.type)) = some y0 ∧ DataW.trod enc P w base spare held n f1.type ((cs.drop f1.offset).take (P.cellsOf f1.type)) = some y1:=by
 obtain ⟨xs,n,_,_,hl,hlen,hf⟩:=DataW.trod_struct ht h
 match xs,hlen with
 | [y0,y1],_=>exact ⟨y0,y1,n,hl,hf 0 f0 rfl,hf 1 f1 rfl⟩
def OpensQ {α : Type} (P : Program) (d : Kd α) (t : TypeId) (Q : α → Prop) : Prop :=
 ∀ (H : Type) (enc : TypeId × Value → H) (W : World) (n : Nat) (cs : List Value) (x : DataW H × List MemPlace),DataW.trod enc P W 0 (fun _=>true) true n t cs = some x → ∃ y : α,d.K W y cs ∧ Q y
theorem opensQ_C {α : Type} {P : Program} {d : Kd α} {t e : TypeId} (ht : P.underlying t = some (.slice e)) (hs : P.cellsOf e = d.sz) {Q : α → Prop} (he : OpensQ P d e Q) (z : α) (H : Type) (enc : TypeId × Value → H) (W : World) (n : Nat) (cs : List Value) (x : DataW H × List MemPlace)
  (h : DataW.trod enc P W 0 (fun _=>true) true n t cs = some x) : ∃ (l : List α) (A : Option Addr) (c : Nat),cs = [.slice A l.length c] ∧ l.length ≤ c ∧ d.C W A l.length l ∧ ∀ x ∈ l,Q x:=by
 rcases DataW.trod_slice ht h with ⟨rfl,_⟩ | ⟨a,len,cap,elems,rest,m,_,rfl,_,_,hl,hm,hlen,hel,_,_⟩
 ·exact ⟨[],none,0,rfl,Nat.le_refl _,⟨rfl,by simp,fun h0=>by simp at h0⟩,fun x hx=>by cases hx⟩
 have each : ∀ i : Nat,∃ p : α,i < len → Q p ∧ ∃ c : List Value,c.length = d.sz ∧ d.K W p c ∧ ∀ j u,c[j]? = some u → W.cell? (a.add (i * d.sz + j)) = some u:=by
  intro i
  by_cases hi : i < len
  ·have h1:=hel i hi
   rw [List.getElem?_eq_getElem (by omega),Option.bind_eq_some_iff] at h1
   obtain ⟨c,hc,ht'⟩:=h1
   obtain ⟨y,hy,hq⟩:=he H enc W m c _ ht'
   refine ⟨y,fun _=>⟨hq,c,d.K_len hy,hy,fun j u hu=>?_⟩⟩
   obtain ⟨_,hcl,hcell⟩:=World.cells?_some hc
   have:=hcell j (by have:=(List.getElem?_eq_some_iff.1 hu).1;omega)
   rw [hs,add_add] at this
   rw [this,hu]
  ·exact ⟨z,fun h=>absurd h hi⟩
 obtain ⟨f,hf⟩:=Classical.skolem.1 each
 refine ⟨(List.range len).map f,some a,cap,by simp,by simpa using hl,⟨by simp,by simp [maxLen] at hm ⊢;omega,fun _=>⟨a,rfl,fun j p hj=>?_⟩⟩,fun x hx=>by
  obtain ⟨j,hj,rfl⟩:=List.mem_map.1 hx
  exact (hf j (List.mem_range.1 hj)).1⟩
 rw [List.getElem?_map] at hj
 have hjl : j < len:=by
  rcases Nat.lt_or_ge j len with h | h
  ·exact h
  ·rw [List.getElem?_eq_none (by simpa using h)] at hj;cases hj
 rw [List.getElem?_range hjl] at hj
 injection hj with hj
 subst hj
 exact (hf j hjl).2
theorem tstruct7 {H : Type} {enc : TypeId × Value → H} {P : Program} {w : World} {base : Nat} {spare : Nat → Bool} {held : Bool} {t : TypeId} {f0 f1 f2 f3 f4 f5 f6 : Field} {fuel : Nat} {cs : List Value} {x : DataW H × List MemPlace} (ht : P.underlying t = some (.struct #[f0,f1,f2,f3,f4,f5,f6])) (h : DataW.trod enc P w base spare held fuel t cs = some x) :
  ∃ y0 y1 y2 y3 y4 y5 y6 n,cs.length = P.cellsOf t ∧ DataW.trod enc P w base spare held n f0.type ((cs.drop f0.offset).take (P.cellsOf f0.type)) = some y0 ∧ DataW.trod enc P w base spare held n f1.type ((cs.drop f1.offset).take (P.cellsOf f1.type)) = some y1 ∧ DataW.trod enc P w base spare held n f2.type ((cs.drop f2.offset).take (P.cellsOf f2.type)) = some y2 ∧ DataW.trod enc P w base spare held n f3.type ((cs.drop f3.offset).take (P.cellsOf f3.type)) = some y3 ∧ DataW.trod enc P w base spare held n f4.type ((cs.drop f4.offset).take (P.cellsOf f4.type)) = some y4 ∧ DataW.trod enc P w base spare held n f5.type ((cs.drop f5.offset).take (P.cellsOf f5.type)) = some y5 ∧ DataW.trod enc P w base spare held n f6.type ((cs.drop f6.offset).take (P.cellsOf f6.type)) = some y6:=by
 obtain ⟨xs,n,_,_,hl,hlen,hf⟩:=DataW.trod_struct ht h
 match xs,hlen with
 | [y0,y1,y2,y3,y4,y5,y6],_=>exact ⟨y0,y1,y2,y3,y4,y5,y6,n,hl,hf 0 f0 rfl,hf 1 f1 rfl,hf 2 f2 rfl,hf 3 f3 rfl,hf 4 f4 rfl,hf 5 f5 rfl,hf 6 f6 rfl⟩
theorem cellsT_uint64 : Tryz.prog.cellsOf 24 = 1:=by kernel_rfl
theorem cellsT_uint32 : Tryz.prog.cellsOf 36 = 1:=by kernel_rfl
theorem cellsT_uint8 : Tryz.prog.cellsOf 5 = 1:=by kernel_rfl
theorem cellsT_3 : Tryz.prog.cellsOf 3 = 1:=by kernel_rfl
theorem cellsT_9 : Tryz.prog.cellsOf 9 = 1:=by kernel_rfl
theorem cellsT_Piece : Tryz.prog.cellsOf 35 = 1:=by kernel_rfl
theorem cellsS_Piece : Tryz.prog.cellsOf 43 = 2:=by kernel_rfl
def wfPiece (x : S43) : Prop:=wfi x.f0 ∧ wf32 x.f1
theorem opensQPiece : OpensQ Tryz.prog k43 43 wfPiece:=by
 intro H enc W n cs x h
 obtain ⟨y0,y1,m,hl,t0,t1⟩:=tstruct2 Tryz.underlying43 h
 rw [cellsS_Piece] at hl
 match cs,hl with
 | [a,b],_ =>
  simp only [cellsT_3,cellsT_uint32,List.drop,List.take] at t0 t1
  obtain ⟨s0,e0,_,w0⟩:=DataW.trod_int Tryz.underlying3 t0
  obtain ⟨s1,e1,_,w1⟩:=DataW.trod_int Tryz.underlying36 t1
  injection e0 with e0;injection e1 with e1
  subst e0 e1
  exact ⟨⟨s0,s1⟩,k43_mk W ⟨s0,s1⟩ ,wfi_of w0,wf32_of w1⟩
theorem cellsS_Act : Tryz.prog.cellsOf 59 = 7:=by kernel_rfl
def wfAct (x : Act) : Prop:=wf8 x.kd ∧ wfu x.id ∧ wfi x.n ∧ wfi x.q ∧ (∀ y ∈ x.ps,wfPiece y)
theorem opensQAct : OpensQ Tryz.prog kA 59 wfAct:=by
 intro H enc W n cs x h
 obtain ⟨y0,y1,y2,y3,y4,y5,y6,m,hl,t0,t1,t2,t3,t4,t5,t6⟩:=tstruct7 Tryz.underlying59 h
 rw [cellsS_Act] at hl
 match cs,hl with
 | [a,b,c,d,e,f,g],_ =>
  simp only [cellsT_3,cellsT_9,cellsT_Piece,cellsT_uint64,cellsT_uint8,List.drop,List.take] at t0 t1 t2 t3 t4 t5 t6
  obtain ⟨s0,e0,_,w0⟩:=DataW.trod_int Tryz.underlying5 t0
  obtain ⟨s1,e1,_,_⟩:=DataW.trod_string Tryz.underlying9 t1
  obtain ⟨s2,e2,_,_⟩:=DataW.trod_string Tryz.underlying9 t2
  obtain ⟨s3,e3,_,w3⟩:=DataW.trod_int Tryz.underlying24 t3
  obtain ⟨s4,e4,_,w4⟩:=DataW.trod_int Tryz.underlying3 t4
  obtain ⟨s5,e5,_,w5⟩:=DataW.trod_int Tryz.underlying3 t5
  obtain ⟨s6,A6,c6,e6,hle6,hC6,w6⟩:=opensQ_C Tryz.underlying35 cellsS_Piece opensQPiece z43 _ _ _ _ _ _ t6
  injection e0 with e0;injection e1 with e1;injection e2 with e2;injection e3 with e3;injection e4 with e4;injection e5 with e5;injection e6 with e6
  subst e0 e1 e2 e3 e4 e5 e6
  exact ⟨⟨s0,s1,s2,s3,s4,s5,s6⟩,kA_mk W ⟨s0,s1,s2,s3,s4,s5,s6⟩ hle6 hC6,wf8_of w0,wfu_of w3,wfi_of w4,wfi_of w5,w6⟩
theorem open_acts {H : Type} {enc : TypeId × Value → H} {W : World} {base : Nat} {v : Value} {d : DataW H} {p : List MemPlace} (hv : Value.okWide Tryz.prog W .any base 66 v) (h : DataW.Trod enc Tryz.prog W 0 (fun _=>true) true 66 v d p) :
  ∃ (l : List Act) (A : Option Addr) (c : Nat),v = .slice A l.length c ∧ l.length ≤ c ∧ Kd.C kA W A l.length l ∧ ∀ x ∈ l,wfAct x:=by
 obtain ⟨a,n,c,rfl⟩:=Go.WideShapes.okWide_slice Tryz.underlying66 hv
 obtain ⟨m,hm⟩:=h
 obtain ⟨l,A,c',e,hle,hC,hq⟩:=opensQ_C Tryz.underlying66 cellsS_Act opensQAct zAct _ _ _ _ _ _ hm
 refine ⟨l,A,c',?_,hle,hC,hq⟩
 simpa [Value.cells] using e
end
section
open Go.WideMaps Go.Maps
attribute [local go_sem] Oper.semAt_some
abbrev ku (n : Int) : Lit:=.int .u64 n
def boolR : Value → Option (DataW Unit × List MemPlace)
 | .bool b=>some (.lit (.bool b),[])
 | _=>none
theorem boolR_inv {v : Value} {z : DataW Unit × List MemPlace} (h : boolR v = some z) : ∃ b,v = .bool b ∧ z = (.lit (.bool b),[]):=by
 cases v <;> simp only [boolR] at h <;> try (cases h;done)
 exact ⟨_,rfl,by cases h;rfl⟩
theorem ulaw : Keyed Tryz.prog 24:=int_keyed Tryz.underlying24
theorem ukey {n : Int} (h : 0 ≤ n) (h2 : n ≤ 281474976710656) : keyOf Tryz.prog 24 (.int .u64 n) = some (ku n):=keyOf_int_mk Tryz.underlying24 (by
 show (decide ((IntKind.u64).min ≤ n) && decide (n ≤ (IntKind.u64).max)) = true
 rw [Bool.and_eq_true,decide_eq_true_eq,decide_eq_true_eq,show (IntKind.u64).min = 0 from rfl,show (IntKind.u64).max = 18446744073709551615 from rfl]
 omega)
section
variable (w : World) {ops : Array Oper} {rest : List Oper} {o : Oper} {a : Go.Act} {Q : Exit → Go.Act → World → Prop}
/-- 'given[id]' of a number that was not given -/
theorem wpList_lookU (hg : o.guard = none) (m x : Operand) (t : TypeId) (hop : o.op = Op.lookup t m x false) (ht : Tryz.prog.underlying t = some (.map 24 4)) (b n : Nat) (D : DataW Unit)
  (hm : a.eval m = .map (some b)) (hown : w.ownsMap Tryz.prog 24 boolR b n D) (id : Int) (h0 : 0 ≤ id) (h1 : id ≤ 281474976710656) (hx : a.eval x = .int .u64 id) (hh : Maps.has D (ku id) = false)
  (hK : wpList Tryz.prog ops Q rest (a.put o.dst (.bool false)) w) : wpList Tryz.prog ops Q (o :: rest) a w:=by
 refine wpList_plain hg fun K' hK'=>?_
 obtain ⟨v,ps,hrun,hv⟩:=hown.lookup ulaw ht (Tryz.zeroValue4 w) (show boolR (.bool false) = some (.lit (.bool false),[]) from rfl) (ukey h0 h1)
 obtain ⟨s,rfl,hz⟩:=boolR_inv hv
 have hz1:=congrArg Prod.fst hz
 simp only at hz1
 rw [atKey_of_not_has hh] at hz1
 have es : s = false:=(Lit.bool.inj (DataW.lit.inj hz1)).symm
 subst es
 unfold Oper.wp
 simp [execOp,hop,hm,hx,hrun,Result.andThen]
 exact hK' _ _ hK
/-- an entry of a map's literal -/
theorem wpList_insert_own (hN : o.dst = none) (hg : o.guard = none) (m x v : Operand) (t : TypeId) (hop : o.op = Op.insert t m x v)
  (k e : TypeId) (K : Keyed Tryz.prog k) (ht : Tryz.prog.underlying t = some (.map k e)) (R : Value → Option (DataW Unit × List MemPlace)) (b n : Nat) (D : DataW Unit)
  (hm : a.eval m = .map (some b)) (hown : w.ownsMap Tryz.prog k R b n D) (hn : n < maxLen) (key val : Value) (kl : Lit) (hx : a.eval x = key) (hv : a.eval v = val) (hkey : keyOf Tryz.prog k key = some kl)
  (d : DataW Unit) (ps : List MemPlace) (hval : R val = some (d,ps))
  (hK : ∀ w',w'.ownsMap Tryz.prog k R b (n + 1) (D.put kl d) → w.mapTurned w' b → wpList Tryz.prog ops Q rest a w') :
  wpList Tryz.prog ops Q (o :: rest) a w:=by
 refine wpList_plain hg fun K' hK'=>?_
 obtain ⟨w',hrun,r1,r2⟩:=hown.store K ht hn hkey hval
 unfold Oper.wp execOp
 simp only [hop,hm,hx,hv,Sem.run_bind,Sem.run_pure,Result.andThen_ok,hrun]
 show K' (a.put o.dst undef) _
 rw [hN]
 exact hK' _ _ (hK w' r1 r2)
end
theorem makeMap_own {w : World} {ops : Array Oper} {rest : List Oper} {o : Oper} {a : Go.Act} {Q : Exit → Go.Act → World → Prop} {t : TypeId} (hgd : o.guard = none) (ho : o.op = .makeMap t none) (h : ∀ g,Hid (g = w.heap.size) → ∀ w1,Hid (w1.ownsMap Tryz.prog 24 boolR g 0 (.map [])) → Hid (Below w.heap.size w w1) → wpList Tryz.prog ops Q rest (a.put o.dst (.map (some g))) w1) : wpList Tryz.prog ops Q (o :: rest) a w:=by
 refine wpList_plain hgd fun K hK=>?_
 have hrun : (Instr.makeMap t none).run Tryz.prog w = .ok (.map (some w.heap.size)) (w.alloc (.map #[] 0)):=rfl
 unfold Oper.wp execOp
 simp only [ho,Option.map_none,Sem.run_bind,Sem.run_pure,Result.andThen_ok,hrun]
 exact hK _ _ (h _ rfl _ (World.ownsMap_made w _ _ _) ((Below.refl _ _).alloc (Nat.le_refl _) _))
structure Given (D : DataW Unit) (last : Int) : Prop where
 map : IsMap D
 le : ∀ n,Maps.has D (ku n) = true → n ≤ last
theorem given_0 : Given ((DataW.map [] : DataW Unit).put (ku 0) (.lit (.bool true))) 0 where
 map:=isMap_empty.put _ _
 le:=fun n h=>by
  by_cases e : n = 0
  ·omega
  ·rw [has_put_other (fun c=>e (by injection c))] at h
   cases h
theorem given_put {D : DataW Unit} {last : Int} (h : Given D last) {d : DataW Unit} : Given (D.put (ku (last + 1)) d) (last + 1) where
 map:=h.map.put _ _
 le:=fun n hn=>by
  by_cases e : n = last + 1
  ·omega
  ·rw [has_put_other (fun c=>e (by injection c))] at hn
   have:=h.le n hn
   omega
theorem given_le {D : DataW Unit} {last l2 : Int} (h : Given D last) (hl : last ≤ l2) : Given D l2 where
 map:=h.map
 le:=fun n hn=>Int.le_trans (h.le n hn) hl
theorem given_no {D : DataW Unit} {last : Int} (h : Given D last) : Maps.has D (ku (last + 1)) = false:=by
 cases hc : Maps.has D (ku (last + 1))
 ·rfl
 ·have:=h.le _ hc;omega
theorem stays.walk (A : Option Addr) (c : Nat) (l : List Act) (w : World) (hr : Kd.C kA w A l.length l) (hc : l.length ≤ c) (hw : ∀ x ∈ l,wfAct x) :
  Calls Tryz.prog 6 #[.slice A l.length c] w fun e w'=>e = .returned (.bool true) ∧ Below w.heap.size w w':=by
 have HR:=zh hr
 have HW:=zh hw
 have hlen : (l.length : Int) ≤ 9223372036854775807:=by have:=hr.2.1;omega
 have HN:=zh (fun (W : World)=>newB_ok ⟨#[98,111,120]⟩ W (by kernel_rfl))
 have HZ:=zh (fun (W : World)=>awake.walk W)
 have HG:=zh (Below.refl w.heap.size w)
 clear hr hw
 go_enter Tryz.func6,Tryz.ntmps6
 go_wp2_with (first
  | (go_at_call 26;go_must (refine (HN.out _).mono ?_;rintro e w1 ⟨rfl,hb⟩;have HG:=keepB HG hb;clear hb))
  | ((with_reducible refine gate_dst (N:=3) rfl ?_);go_must (refine zx HG (N:=3) (cs:=#[.string ⟨#[]⟩,.int .i64 0,.slice none 0 0,.slice none 0 0,.int .u64 0]) (t:=26) ?hr ?_;(case hr=>first | (go_simp;done) | (go_simp;rfl));intro gB w2 KgB LgB HG hbelgB hqgB;clear hbelgB hqgB))
  | ((with_reducible refine gate_store (t:=26) (p:=3) (v:=.tmp 12) rfl ?_);go_must (refine zs 26 (.tmp 3) (.tmp 12) gB 0 26 [.string ⟨#[98,111,120]⟩,.int .i64 0,.slice none 0 0,.slice none 0 0,.int .u64 0] KgB isz_bucket ?_;intro w3 hk ho;have KgB : Hid (w3.heap[gB]? = some (.cells #[.string ⟨#[98,111,120]⟩,.int .i64 0,.slice none 0 0,.slice none 0 0,.int .u64 0] 26 (0,0))):=hk;have HG:=zo ho HG LgB;clear hk ho))
  | ((with_reducible refine gate_dst (N:=16) rfl ?_);go_must (refine makeMap_own rfl rfl ?_;intro gM hgM w4 hm hb;have LgM:=zh (show w.heap.size ≤ gM by rw [hgM.out];exact HG.out.size);have HM:=hm;have HG:=keepB HG hb.out;have KgB:=zk KgB hb.out;clear hm hb hgM))
  | ((with_reducible refine gate_insert (k:=.const (.int .u64 0)) rfl ?_);go_must (refine wpList_insert_own _ rfl rfl (.tmp 16) (.const (.int .u64 0)) (.const (.bool true)) 69 rfl 24 4 ulaw Tryz.underlying69 boolR gM 0 (.map []) rfl HM.out (by decide) (.int .u64 0) (.bool true) (ku 0) rfl rfl (ukey (by decide) (by decide)) (.lit (.bool true)) [] rfl ?_;intro w5 hown htn;have ho:=turned_only htn;have KgB:=zh (ho.blk KgB.out (Ne.symm (owns_ne HM.out KgB.out)));have HG:=zh (ho.below HG.out HG.out.size LgM.out);have HM:=zh hown;clear htn ho hown)))
 go_loopw [6] (fun i wr=>∃ (k : Nat) (D : DataW Unit) (b : S26) (AB DB : Option Addr) (cB dB : Nat),i = .int .i64 k ∧ k ≤ l.length ∧ k ≤ 40 ∧ Hid (Given D b.f4) ∧ Hid (bucketB b = true ∧ 0 ≤ b.f4) ∧ Hid (wr.heap[gB]? = some (.cells #[.string b.f0,.int .i64 b.f1,.slice AB b.f2.length cB,.slice DB b.f3.length dB,.int .u64 b.f4] 26 (0,0))) ∧ Hid (wr.ownsMap Tryz.prog 24 boolR gM (k + 1) D) ∧ b.f2.length ≤ cB ∧ b.f3.length ≤ dB ∧ Hid (Kd.C k56 wr AB b.f2.length b.f2) ∧ Hid (Kd.C k101 wr DB b.f3.length b.f3) ∧ Hid (Below w.heap.size w wr)) (fun i _=>l.length - (intOf i).toNat)
 case atStart=>exact ⟨0,_,⟨⟨#[98,111,120]⟩,0,[],[],0⟩,none,none,0,0,rfl,Nat.zero_le _,by decide,given_0,⟨by kernel_rfl,by decide⟩,KgB,HM,Nat.le_refl _,Nat.le_refl _,C_mt _ _ _,C_mt _ _ _,HG⟩
 case round =>
  obtain ⟨k,D,b,AB,DB,cB,dB,rfl,hk,hk40,HGI,HBK,KgB,HM,XB,YB,EB,UB,HG⟩:=hrel
  by_cases hlt : k < l.length
  ·by_cases h40 : k < 40
   ·obtain ⟨ad,A6,c6,e',d0,d1,d2,d3,d4,d5_,d6,hle6,hC6⟩:=atAct HR.out HG.out k hlt
    subst e'
    have p0 : (0 : Int) ≤ (k : Int):=by omega
    have p1 : (k : Int) < (l.length : Int):=by omega
    have p2 : (k : Int) < 40:=by omega
    have hwx:=HW.out l[k] (List.getElem_mem hlt)
    generalize l[k] = x at *
    have HCT:=zh (fun (W : World)=>cut.walk x.kd x.id x.n x.q x.key x.data A6 x.ps c6 W hle6)
    have HP:=zh (C_cut hC6 40)
    have hpz : (x.ps.take 40).length < 100:=by rw [List.length_take];omega
    generalize cutS 80 x.key = ky at *
    generalize cutS 2001 x.data = dt at *
    generalize x.ps.take 40 = pz at *
    have t0_ : 0 ≤ Int.tmod x.kd 9:=Int.tmod_nonneg _ hwx.1.1
    have HB:=zh (Below.refl wr.heap.size wr)
    have NaB:=zh (blk_lt KgB.out)
    have HDO0:=zh (fun (W : World) (h : Below wr.heap.size wr W)=>do.walk b AB DB cB dB (⟨x.kd,ky,dt,x.id,x.n,x.q,pz⟩ : Act) A6 c6 W (Kd.C_below EB.out h) XB (Kd.C_below UB.out h) YB hpz (Kd.C_below HP.out h))
    have hst:=do_step (a:=(⟨x.kd,ky,dt,x.id,x.n,x.q,pz⟩ : Act)) HBK.out.1 HBK.out.2 t0_
    have hm:=(head_le HBK.out.1).1
    clear hC6 hle6 hwx hpz HP t0_
    change StepOK b _ (decide (Int.tmod x.kd 9 = 6)) at hst
    generalize doR b (⟨x.kd,ky,dt,x.id,x.n,x.q,pz⟩ : Act) = r at *
    obtain ⟨rb,rid,tg,er⟩:=r
    obtain ⟨s1,s2,s3,s4⟩:=hst
    change bucketB rb = true at s1
    change b.f4 ≤ rb.f4 at s2
    change er ≠ 0 → rb = b at s3
    change er = 0 → decide (Int.tmod x.kd 9 = 6) = false → rid ≠ 0 → rid = b.f4 + 1 ∧ rb.f4 = b.f4 + 1 at s4
    have HDO : Hid (∀ (W : World),Below wr.heap.size wr W → Calls Tryz.prog 23 #[.agg #[.string b.f0,.int .i64 b.f1,.slice AB b.f2.length cB,.slice DB b.f3.length dB,.int .u64 b.f4],.agg #[.int .u8 x.kd,.string ky,.string dt,.int .u64 x.id,.int .i64 x.n,.int .i64 x.q,.slice A6 pz.length c6]] W (fun e w'=>∃ A5 c5 D5 d5,e = .returned (.agg #[.string rb.f0,.int .i64 rb.f1,.slice A5 rb.f2.length c5,.slice D5 rb.f3.length d5,.int .u64 rb.f4,.int .u64 rid,.string tg,.int .i64 er]) ∧ rb.f2.length ≤ c5 ∧ rb.f3.length ≤ d5 ∧ Kd.C k56 w' A5 rb.f2.length rb.f2 ∧ Kd.C k101 w' D5 rb.f3.length rb.f3 ∧ Below W.heap.size W w')):=HDO0
    have HCK : Hid (∀ (A5 D5 : Option Addr) (c5 d5 : Nat) (W : World),Kd.C k56 W A5 rb.f2.length rb.f2 → rb.f2.length ≤ c5 → Kd.C k101 W D5 rb.f3.length rb.f3 → rb.f3.length ≤ d5 → Calls Tryz.prog 25 #[.agg #[.string rb.f0,.int .i64 rb.f1,.slice A5 rb.f2.length c5,.slice D5 rb.f3.length d5,.int .u64 rb.f4]] W (fun e w'=>e = .returned (.int .i64 0) ∧ Below W.heap.size W w')):=fun A5 D5 c5 d5 W h2 g2 h3 g3=>by
     have x:=bucket.walk rb A5 D5 c5 d5 W h2 g2 h3 g3
     rw [s1] at x
     exact x
    have v0 : decide (rb.f4 < b.f4) = false:=decide_eq_false (by omega)
    have v1 : ¬ rb.f4 < b.f4:=by omega
    have HBR : Hid (bucketB rb = true ∧ 0 ≤ rb.f4):=⟨s1,Int.le_trans HBK.out.2 s2⟩
    clear HDO0 s1
    by_cases he : er = 0
    ·subst he
     by_cases k6 : Int.tmod x.kd 9 = 6
     ·have u0 : (Int.tmod x.kd 9 != 6) = false:=by rw [k6];rfl
      have u1 : (Int.tmod x.kd 9 == 6) = true:=beq_iff_eq.2 k6
      have HGJ:=zh (given_le HGI.out s2)
      clear s2 s3 s4 k6
      go_wp2_with (first
          | (go_at_call 22;go_must (refine (HCT.out _).mono ?_;rintro e w1 ⟨rfl,hb⟩;have HB:=keepB HB hb;clear hb))
          | ((with_reducible refine gate_dst (N:=7) rfl ?_);go_must (refine zx HB (N:=7) (cs:=#[.int .u8 0,.string ⟨#[]⟩,.string ⟨#[]⟩,.int .u64 0,.int .i64 0,.int .i64 0,.slice none 0 0]) (t:=59) ?hr ?_;(case hr=>first | (go_simp;done) | (go_simp;rfl));intro ga w2 Kga Lga HB hbelga hqga;clear hbelga hqga))
          | ((with_reducible refine gate_store (t:=59) (p:=7) (v:=.tmp 32) rfl ?_);go_must (refine zs 59 (.tmp 7) (.tmp 32) ga 0 59 [.int .u8 x.kd,.string ky,.string dt,.int .u64 x.id,.int .i64 x.n,.int .i64 x.q,.slice A6 pz.length c6] Kga (by kernel_rfl) ?_;intro w3 hk ho;have Kga : Hid (w3.heap[ga]? = some (.cells #[.int .u8 x.kd,.string ky,.string dt,.int .u64 x.id,.int .i64 x.n,.int .i64 x.q,.slice A6 pz.length c6] 59 (0,0))):=hk;have HB:=zo ho HB Lga;have KgB:=zk KgB HB.out;obtain ⟨a0,a1,a2,a3,a4⟩:=zz5 KgB.out;obtain ⟨b0,b1,b2,b3,b4,b5,b6⟩:=zz7 Kga.out;clear hk ho))
          | (go_at_call 23;go_must (refine (HDO.out _ HB.out).mono ?_;rintro e w5 ⟨A5,c5,D5,d5,rfl,y1_,y2_,y3,y4,hb⟩;have Y3:=zh y3;have Y4:=zh y4;have HB:=keepB HB hb;have Kga:=zk Kga hb;have KgB:=zk KgB hb;clear hb y3 y4 a0 a1 a2 a3 a4 b0 b1 b2 b3 b4 b5 b6))
          | ((with_reducible refine gate_dst (N:=8) rfl ?_);go_must (refine zx HB (N:=8) (cs:=#[.string ⟨#[]⟩,.int .i64 0,.slice none 0 0,.slice none 0 0,.int .u64 0,.int .u64 0,.string ⟨#[]⟩,.int .i64 0]) (t:=62) ?hr ?_;(case hr=>first | (go_simp;done) | (go_simp;rfl));intro go w6 Kgo Lgo HB hbelgo hqgo;have M1:=zh (show ga < go by rw [hqgo];exact blk_lt Kga.out);have M2:=zh (show gB < go by rw [hqgo];exact blk_lt KgB.out);have HD:=zh hbelgo;have WD:=zh (show _ ≤ go by rw [hqgo];exact Nat.le_refl _);have Kga:=zk Kga hbelgo;have KgB:=zk KgB hbelgo;clear hbelgo hqgo))
          | ((with_reducible refine gate_store (t:=62) (p:=8) (v:=.tmp 35) rfl ?_);go_must (refine zs 62 (.tmp 8) (.tmp 35) go 0 62 [.string rb.f0,.int .i64 rb.f1,.slice A5 rb.f2.length c5,.slice D5 rb.f3.length d5,.int .u64 rb.f4,.int .u64 rid,.string tg,.int .i64 0] Kgo (by kernel_rfl) ?_;intro w7 hk ho;have Y3:=zc Y3 (ho.out.below HD.out HD.out.size WD.out);have Y4:=zc Y4 (ho.out.below HD.out HD.out.size WD.out);clear HD WD;have HB:=zo ho HB Lgo;have Kga:=zl ho Kga (by have:=M1.out;omega);have KgB:=zl ho KgB (by have:=M2.out;omega);have Kgo : Hid (w7.heap[go]? = some (.cells #[.string rb.f0,.int .i64 rb.f1,.slice A5 rb.f2.length c5,.slice D5 rb.f3.length d5,.int .u64 rb.f4,.int .u64 rid,.string tg,.int .i64 0] 62 (0,0))):=hk;obtain ⟨f0,f1,f2,f3,f4,f5,f6,f7⟩:=zz8 Kgo.out;have b0:=zb Kga.out 0 (.int .u8 x.kd);obtain ⟨a0,a1,a2,a3,a4⟩:=zz5 KgB.out;clear hk ho))
          | (go_at_call 25;go_must (refine (HCK.out A5 D5 c5 d5 _ Y3.out y1_ Y4.out y2_).mono ?_;rintro e w8 ⟨rfl,hb⟩;have HB:=keepB HB hb;have Y3:=zc Y3 hb;have Y4:=zc Y4 hb;have Kga:=zk Kga hb;have KgB:=zk KgB hb;have Kgo:=zk Kgo hb;clear hb f0 f1 f2 f3 f4 f5 f6 f7 b0 a0 a1 a2 a3 a4;have HG:=keepB HG HB.out;have HM:=zh (owns_below HM.out HB.out);obtain ⟨f0,f1,f2,f3,f4,f5,f6,f7⟩:=zz8 Kgo.out;have b0:=zb Kga.out 0 (.int .u8 x.kd);obtain ⟨a0,a1,a2,a3,a4⟩:=zz5 KgB.out;))
          | ((with_reducible refine gate_store (t:=26) (p:=3) (v:=.tmp 91) rfl ?_);go_must (refine zs 26 (.tmp 3) (.tmp 91) gB 0 26 [.string rb.f0,.int .i64 rb.f1,.slice A5 rb.f2.length c5,.slice D5 rb.f3.length d5,.int .u64 rb.f4] KgB isz_bucket ?_;intro w11 hk ho;have Y3:=zh (keepE Y3.out KgB.out (bk_like _ _ _ _ _ _ _ _ _) ho.out);have Y4:=zh (keepU Y4.out KgB.out (bk_like _ _ _ _ _ _ _ _ _) ho.out);have HM:=zh (owns_only HM.out ho.out (owns_ne HM.out KgB.out));have KgB : Hid (w11.heap[gB]? = some (.cells #[.string rb.f0,.int .i64 rb.f1,.slice A5 rb.f2.length c5,.slice D5 rb.f3.length d5,.int .u64 rb.f4] 26 (0,0))):=hk;have HG:=zo ho HG LgB;clear hk ho)))
      go_roundw
      case rel=>exact ⟨k + 1,D,rb,A5,D5,c5,d5,by go_num,hlt,h40,HGJ,HBR,KgB,zh (HM.out.mono (Nat.le_succ _)),y1_,y2_,Y3,Y4,HG⟩
      case measure=>simp [intOf];omega
     ·have u1 : (Int.tmod x.kd 9 == 6) = false:=beq_eq_false_iff_ne.2 k6
      have u0 : (Int.tmod x.kd 9 != 6) = true:=by unfold bne;rw [u1];rfl
      by_cases hi : rid = 0
      ·subst hi
       have HGJ:=zh (given_le HGI.out s2)
       clear s2 s3 s4 k6
       go_wp2_with (first
           | (go_at_call 22;go_must (refine (HCT.out _).mono ?_;rintro e w1 ⟨rfl,hb⟩;have HB:=keepB HB hb;clear hb))
           | ((with_reducible refine gate_dst (N:=7) rfl ?_);go_must (refine zx HB (N:=7) (cs:=#[.int .u8 0,.string ⟨#[]⟩,.string ⟨#[]⟩,.int .u64 0,.int .i64 0,.int .i64 0,.slice none 0 0]) (t:=59) ?hr ?_;(case hr=>first | (go_simp;done) | (go_simp;rfl));intro ga w2 Kga Lga HB hbelga hqga;clear hbelga hqga))
           | ((with_reducible refine gate_store (t:=59) (p:=7) (v:=.tmp 32) rfl ?_);go_must (refine zs 59 (.tmp 7) (.tmp 32) ga 0 59 [.int .u8 x.kd,.string ky,.string dt,.int .u64 x.id,.int .i64 x.n,.int .i64 x.q,.slice A6 pz.length c6] Kga (by kernel_rfl) ?_;intro w3 hk ho;have Kga : Hid (w3.heap[ga]? = some (.cells #[.int .u8 x.kd,.string ky,.string dt,.int .u64 x.id,.int .i64 x.n,.int .i64 x.q,.slice A6 pz.length c6] 59 (0,0))):=hk;have HB:=zo ho HB Lga;have KgB:=zk KgB HB.out;obtain ⟨a0,a1,a2,a3,a4⟩:=zz5 KgB.out;obtain ⟨b0,b1,b2,b3,b4,b5,b6⟩:=zz7 Kga.out;clear hk ho))
           | (go_at_call 23;go_must (refine (HDO.out _ HB.out).mono ?_;rintro e w5 ⟨A5,c5,D5,d5,rfl,y1_,y2_,y3,y4,hb⟩;have Y3:=zh y3;have Y4:=zh y4;have HB:=keepB HB hb;have Kga:=zk Kga hb;have KgB:=zk KgB hb;clear hb y3 y4 a0 a1 a2 a3 a4 b0 b1 b2 b3 b4 b5 b6))
           | ((with_reducible refine gate_dst (N:=8) rfl ?_);go_must (refine zx HB (N:=8) (cs:=#[.string ⟨#[]⟩,.int .i64 0,.slice none 0 0,.slice none 0 0,.int .u64 0,.int .u64 0,.string ⟨#[]⟩,.int .i64 0]) (t:=62) ?hr ?_;(case hr=>first | (go_simp;done) | (go_simp;rfl));intro go w6 Kgo Lgo HB hbelgo hqgo;have M1:=zh (show ga < go by rw [hqgo];exact blk_lt Kga.out);have M2:=zh (show gB < go by rw [hqgo];exact blk_lt KgB.out);have HD:=zh hbelgo;have WD:=zh (show _ ≤ go by rw [hqgo];exact Nat.le_refl _);have Kga:=zk Kga hbelgo;have KgB:=zk KgB hbelgo;clear hbelgo hqgo))
           | ((with_reducible refine gate_store (t:=62) (p:=8) (v:=.tmp 35) rfl ?_);go_must (refine zs 62 (.tmp 8) (.tmp 35) go 0 62 [.string rb.f0,.int .i64 rb.f1,.slice A5 rb.f2.length c5,.slice D5 rb.f3.length d5,.int .u64 rb.f4,.int .u64 0,.string tg,.int .i64 0] Kgo (by kernel_rfl) ?_;intro w7 hk ho;have Y3:=zc Y3 (ho.out.below HD.out HD.out.size WD.out);have Y4:=zc Y4 (ho.out.below HD.out HD.out.size WD.out);clear HD WD;have HB:=zo ho HB Lgo;have Kga:=zl ho Kga (by have:=M1.out;omega);have KgB:=zl ho KgB (by have:=M2.out;omega);have Kgo : Hid (w7.heap[go]? = some (.cells #[.string rb.f0,.int .i64 rb.f1,.slice A5 rb.f2.length c5,.slice D5 rb.f3.length d5,.int .u64 rb.f4,.int .u64 0,.string tg,.int .i64 0] 62 (0,0))):=hk;obtain ⟨f0,f1,f2,f3,f4,f5,f6,f7⟩:=zz8 Kgo.out;have b0:=zb Kga.out 0 (.int .u8 x.kd);obtain ⟨a0,a1,a2,a3,a4⟩:=zz5 KgB.out;clear hk ho))
           | (go_at_call 25;go_must (refine (HCK.out A5 D5 c5 d5 _ Y3.out y1_ Y4.out y2_).mono ?_;rintro e w8 ⟨rfl,hb⟩;have HB:=keepB HB hb;have Y3:=zc Y3 hb;have Y4:=zc Y4 hb;have Kga:=zk Kga hb;have KgB:=zk KgB hb;have Kgo:=zk Kgo hb;clear hb f0 f1 f2 f3 f4 f5 f6 f7 b0 a0 a1 a2 a3 a4;have HG:=keepB HG HB.out;have HM:=zh (owns_below HM.out HB.out);obtain ⟨f0,f1,f2,f3,f4,f5,f6,f7⟩:=zz8 Kgo.out;have b0:=zb Kga.out 0 (.int .u8 x.kd);obtain ⟨a0,a1,a2,a3,a4⟩:=zz5 KgB.out;))
           | ((with_reducible refine gate_store (t:=26) (p:=3) (v:=.tmp 91) rfl ?_);go_must (refine zs 26 (.tmp 3) (.tmp 91) gB 0 26 [.string rb.f0,.int .i64 rb.f1,.slice A5 rb.f2.length c5,.slice D5 rb.f3.length d5,.int .u64 rb.f4] KgB isz_bucket ?_;intro w11 hk ho;have Y3:=zh (keepE Y3.out KgB.out (bk_like _ _ _ _ _ _ _ _ _) ho.out);have Y4:=zh (keepU Y4.out KgB.out (bk_like _ _ _ _ _ _ _ _ _) ho.out);have HM:=zh (owns_only HM.out ho.out (owns_ne HM.out KgB.out));have KgB : Hid (w11.heap[gB]? = some (.cells #[.string rb.f0,.int .i64 rb.f1,.slice A5 rb.f2.length c5,.slice D5 rb.f3.length d5,.int .u64 rb.f4] 26 (0,0))):=hk;have HG:=zo ho HG LgB;clear hk ho)))
       go_roundw
       case rel=>exact ⟨k + 1,D,rb,A5,D5,c5,d5,by go_num,hlt,h40,HGJ,HBR,KgB,zh (HM.out.mono (Nat.le_succ _)),y1_,y2_,Y3,Y4,HG⟩
       case measure=>simp [intOf];omega
      ·obtain ⟨q1,q2⟩:=s4 rfl (decide_eq_false k6) hi
       subst q1
       rw [q2] at v0 v1
       have HDO1:=HDO
       have HCK1:=HCK
       rw [q2] at HDO1 HCK1
       replace HDO:=HDO1
       replace HCK:=HCK1
       have HGJ : Hid (Given (D.put (ku (b.f4 + 1)) (.lit (.bool true))) rb.f4):=by unfold Hid;rw [q2];exact given_put HGI.out
       have HNO:=zh (given_no HGI.out)
       have HL0 : Hid (0 ≤ b.f4 + 1):=by have:=HBK.out.2;unfold Hid;omega
       have HL1 : Hid (b.f4 + 1 ≤ 281474976710656):=by unfold Hid;omega
       have HKM : Hid (k + 1 < maxLen):=by unfold Hid maxLen;omega
       have i0 : (b.f4 + 1 == 0) = false:=beq_eq_false_iff_ne.2 hi
       have i1 : (b.f4 + 1 != b.f4 + 1) = false:=by simp
       have i2 : (b.f4 + 1 != 0) = true:=by unfold bne;rw [i0];rfl
       have Hq2:=zh q2
       clear s2 s3 s4 k6 hi HDO1 HCK1 q2 hm
       go_wp2_with (first
           | (go_at_call 22;go_must (refine (HCT.out _).mono ?_;rintro e w1 ⟨rfl,hb⟩;have HB:=keepB HB hb;clear hb))
           | ((with_reducible refine gate_dst (N:=7) rfl ?_);go_must (refine zx HB (N:=7) (cs:=#[.int .u8 0,.string ⟨#[]⟩,.string ⟨#[]⟩,.int .u64 0,.int .i64 0,.int .i64 0,.slice none 0 0]) (t:=59) ?hr ?_;(case hr=>first | (go_simp;done) | (go_simp;rfl));intro ga w2 Kga Lga HB hbelga hqga;clear hbelga hqga))
           | ((with_reducible refine gate_store (t:=59) (p:=7) (v:=.tmp 32) rfl ?_);go_must (refine zs 59 (.tmp 7) (.tmp 32) ga 0 59 [.int .u8 x.kd,.string ky,.string dt,.int .u64 x.id,.int .i64 x.n,.int .i64 x.q,.slice A6 pz.length c6] Kga (by kernel_rfl) ?_;intro w3 hk ho;have Kga : Hid (w3.heap[ga]? = some (.cells #[.int .u8 x.kd,.string ky,.string dt,.int .u64 x.id,.int .i64 x.n,.int .i64 x.q,.slice A6 pz.length c6] 59 (0,0))):=hk;have HB:=zo ho HB Lga;have KgB:=zk KgB HB.out;obtain ⟨a0,a1,a2,a3,a4⟩:=zz5 KgB.out;obtain ⟨b0,b1,b2,b3,b4,b5,b6⟩:=zz7 Kga.out;clear hk ho))
           | (go_at_call 23;go_must (refine (HDO.out _ HB.out).mono ?_;rintro e w5 ⟨A5,c5,D5,d5,rfl,y1_,y2_,y3,y4,hb⟩;have Y3:=zh y3;have Y4:=zh y4;have HB:=keepB HB hb;have Kga:=zk Kga hb;have KgB:=zk KgB hb;clear hb y3 y4 a0 a1 a2 a3 a4 b0 b1 b2 b3 b4 b5 b6))
           | ((with_reducible refine gate_dst (N:=8) rfl ?_);go_must (refine zx HB (N:=8) (cs:=#[.string ⟨#[]⟩,.int .i64 0,.slice none 0 0,.slice none 0 0,.int .u64 0,.int .u64 0,.string ⟨#[]⟩,.int .i64 0]) (t:=62) ?hr ?_;(case hr=>first | (go_simp;done) | (go_simp;rfl));intro go w6 Kgo Lgo HB hbelgo hqgo;have M1:=zh (show ga < go by rw [hqgo];exact blk_lt Kga.out);have M2:=zh (show gB < go by rw [hqgo];exact blk_lt KgB.out);have HD:=zh hbelgo;have WD:=zh (show _ ≤ go by rw [hqgo];exact Nat.le_refl _);have Kga:=zk Kga hbelgo;have KgB:=zk KgB hbelgo;clear hbelgo hqgo))
           | ((with_reducible refine gate_store (t:=62) (p:=8) (v:=.tmp 35) rfl ?_);go_must (refine zs 62 (.tmp 8) (.tmp 35) go 0 62 [.string rb.f0,.int .i64 rb.f1,.slice A5 rb.f2.length c5,.slice D5 rb.f3.length d5,.int .u64 (b.f4 + 1),.int .u64 (b.f4 + 1),.string tg,.int .i64 0] Kgo (by kernel_rfl) ?_;intro w7 hk ho;have Y3:=zc Y3 (ho.out.below HD.out HD.out.size WD.out);have Y4:=zc Y4 (ho.out.below HD.out HD.out.size WD.out);clear HD WD;have HB:=zo ho HB Lgo;have Kga:=zl ho Kga (by have:=M1.out;omega);have KgB:=zl ho KgB (by have:=M2.out;omega);have Kgo : Hid (w7.heap[go]? = some (.cells #[.string rb.f0,.int .i64 rb.f1,.slice A5 rb.f2.length c5,.slice D5 rb.f3.length d5,.int .u64 (b.f4 + 1),.int .u64 (b.f4 + 1),.string tg,.int .i64 0] 62 (0,0))):=hk;obtain ⟨f0,f1,f2,f3,f4,f5,f6,f7⟩:=zz8 Kgo.out;have b0:=zb Kga.out 0 (.int .u8 x.kd);obtain ⟨a0,a1,a2,a3,a4⟩:=zz5 KgB.out;clear hk ho))
           | (go_at_call 25;go_must (refine (HCK.out A5 D5 c5 d5 _ Y3.out y1_ Y4.out y2_).mono ?_;rintro e w8 ⟨rfl,hb⟩;have HB:=keepB HB hb;have Y3:=zc Y3 hb;have Y4:=zc Y4 hb;have Kga:=zk Kga hb;have KgB:=zk KgB hb;have Kgo:=zk Kgo hb;clear hb f0 f1 f2 f3 f4 f5 f6 f7 b0 a0 a1 a2 a3 a4;have HG:=keepB HG HB.out;have HM:=zh (owns_below HM.out HB.out);obtain ⟨f0,f1,f2,f3,f4,f5,f6,f7⟩:=zz8 Kgo.out;have b0:=zb Kga.out 0 (.int .u8 x.kd);obtain ⟨a0,a1,a2,a3,a4⟩:=zz5 KgB.out;))
           | ((with_reducible refine gate_dst (N:=78) rfl ?_);go_must (refine wpList_lookU _ rfl (.tmp 75) (.tmp 77) 69 rfl Tryz.underlying69 gM (k + 1) D rfl HM.out (b.f4 + 1) HL0.out HL1.out rfl HNO.out ?_))
           | ((with_reducible refine gate_ (.mapUpdate 69 (.tmp 87) (.tmp 89) (.const (.bool true))) rfl ?_);go_must (refine wpList_mapUpdate_in _ rfl (.tmp 87) (.tmp 89) (.const (.bool true)) 69 rfl 24 4 ulaw Tryz.underlying69 boolR gM (k + 1) D rfl HM.out HKM.out (.int .u64 (b.f4 + 1)) (.bool true) (ku (b.f4 + 1)) rfl rfl (ukey HL0.out HL1.out) (.lit (.bool true)) [] rfl ?_;intro w10 hown htn;have ho:=turned_only htn;obtain ⟨es0,ck0,hes⟩:=owns_at HM.out;have Y3:=zh (mapE Y3.out hes ho);have Y4:=zh (mapU Y4.out hes ho);have Kgo:=zh (ho.blk Kgo.out (Ne.symm (owns_ne HM.out Kgo.out)));have KgB:=zh (ho.blk KgB.out (Ne.symm (owns_ne HM.out KgB.out)));have HG:=zh (ho.below HG.out HG.out.size LgM.out);have HM:=zh hown;clear hes htn ho hown f0 f1 f2 f3 f4 f5 f6 f7 b0 a0 a1 a2 a3 a4;obtain ⟨f0,f1,f2,f3,f4,f5,f6,f7⟩:=zz8 Kgo.out;))
           | ((with_reducible refine gate_store (t:=26) (p:=3) (v:=.tmp 91) rfl ?_);go_must (refine zs 26 (.tmp 3) (.tmp 91) gB 0 26 [.string rb.f0,.int .i64 rb.f1,.slice A5 rb.f2.length c5,.slice D5 rb.f3.length d5,.int .u64 (b.f4 + 1)] KgB isz_bucket ?_;intro w11 hk ho;have Y3:=zh (keepE Y3.out KgB.out (bk_like _ _ _ _ _ _ _ _ _) ho.out);have Y4:=zh (keepU Y4.out KgB.out (bk_like _ _ _ _ _ _ _ _ _) ho.out);have HM:=zh (owns_only HM.out ho.out (owns_ne HM.out KgB.out));have KgB : Hid (w11.heap[gB]? = some (.cells #[.string rb.f0,.int .i64 rb.f1,.slice A5 rb.f2.length c5,.slice D5 rb.f3.length d5,.int .u64 (b.f4 + 1)] 26 (0,0))):=hk;have HG:=zo ho HG LgB;clear hk ho)))
       go_roundw
       case rel=>exact ⟨k + 1,(D.put (ku (b.f4 + 1)) (.lit (.bool true))),rb,A5,D5,c5,d5,by go_num,hlt,h40,HGJ,HBR,(by unfold Hid;rw [Hq2.out];exact KgB.out),HM,y1_,y2_,Y3,Y4,HG⟩
       case measure=>simp [intOf];omega
    ·obtain rfl:=s3 he
     have he0 : (er == 0) = false:=beq_eq_false_iff_ne.2 he
     have he1 : (er != 0) = true:=by unfold bne;rw [he0];rfl
     have HSM : Hid (∀ (A5 D5 : Option Addr) (c5 d5 : Nat) (W : World),Kd.C k56 W A5 rb.f2.length rb.f2 → rb.f2.length ≤ c5 → Kd.C k101 W D5 rb.f3.length rb.f3 → rb.f3.length ≤ d5 → Kd.C k56 W AB rb.f2.length rb.f2 → Kd.C k101 W DB rb.f3.length rb.f3 → Calls Tryz.prog 13 #[.agg #[.string rb.f0,.int .i64 rb.f1,.slice A5 rb.f2.length c5,.slice D5 rb.f3.length d5,.int .u64 rb.f4],.agg #[.string rb.f0,.int .i64 rb.f1,.slice AB rb.f2.length cB,.slice DB rb.f3.length dB,.int .u64 rb.f4]] W (fun e w'=>e = .returned (.bool true) ∧ Below W.heap.size W w')):=fun A5 D5 c5 d5 W h2 g2 h3 g3 h4 h5 =>
      cellarerref09_Same.calls 1010001 rb.f0 rb.f1 A5 c5 rb.f2 D5 d5 rb.f3 rb.f4 rb.f0 rb.f1 AB cB rb.f2 DB dB rb.f3 rb.f4 true W h2 g2 h3 g3 h4 XB h5 YB (same9_self (small_bucket HBK.out.1) _ (by decide))
     clear s2 s3 s4 v0 v1
     have v1 : decide (rb.f4 < rb.f4) = false:=decide_eq_false (by omega)
     go_wp2_with (first
         | (go_at_call 22;go_must (refine (HCT.out _).mono ?_;rintro e w1 ⟨rfl,hb⟩;have HB:=keepB HB hb;clear hb))
         | ((with_reducible refine gate_dst (N:=7) rfl ?_);go_must (refine zx HB (N:=7) (cs:=#[.int .u8 0,.string ⟨#[]⟩,.string ⟨#[]⟩,.int .u64 0,.int .i64 0,.int .i64 0,.slice none 0 0]) (t:=59) ?hr ?_;(case hr=>first | (go_simp;done) | (go_simp;rfl));intro ga w2 Kga Lga HB hbelga hqga;clear hbelga hqga))
         | ((with_reducible refine gate_store (t:=59) (p:=7) (v:=.tmp 32) rfl ?_);go_must (refine zs 59 (.tmp 7) (.tmp 32) ga 0 59 [.int .u8 x.kd,.string ky,.string dt,.int .u64 x.id,.int .i64 x.n,.int .i64 x.q,.slice A6 pz.length c6] Kga (by kernel_rfl) ?_;intro w3 hk ho;have Kga : Hid (w3.heap[ga]? = some (.cells #[.int .u8 x.kd,.string ky,.string dt,.int .u64 x.id,.int .i64 x.n,.int .i64 x.q,.slice A6 pz.length c6] 59 (0,0))):=hk;have HB:=zo ho HB Lga;have KgB:=zk KgB HB.out;obtain ⟨a0,a1,a2,a3,a4⟩:=zz5 KgB.out;obtain ⟨b0,b1,b2,b3,b4,b5,b6⟩:=zz7 Kga.out;clear hk ho))
         | (go_at_call 23;go_must (refine (HDO.out _ HB.out).mono ?_;rintro e w5 ⟨A5,c5,D5,d5,rfl,y1_,y2_,y3,y4,hb⟩;have Y3:=zh y3;have Y4:=zh y4;have HB:=keepB HB hb;have Kga:=zk Kga hb;have KgB:=zk KgB hb;clear hb y3 y4 a0 a1 a2 a3 a4 b0 b1 b2 b3 b4 b5 b6))
         | ((with_reducible refine gate_dst (N:=8) rfl ?_);go_must (refine zx HB (N:=8) (cs:=#[.string ⟨#[]⟩,.int .i64 0,.slice none 0 0,.slice none 0 0,.int .u64 0,.int .u64 0,.string ⟨#[]⟩,.int .i64 0]) (t:=62) ?hr ?_;(case hr=>first | (go_simp;done) | (go_simp;rfl));intro go w6 Kgo Lgo HB hbelgo hqgo;have M1:=zh (show ga < go by rw [hqgo];exact blk_lt Kga.out);have M2:=zh (show gB < go by rw [hqgo];exact blk_lt KgB.out);have HD:=zh hbelgo;have WD:=zh (show _ ≤ go by rw [hqgo];exact Nat.le_refl _);have Kga:=zk Kga hbelgo;have KgB:=zk KgB hbelgo;clear hbelgo hqgo))
         | ((with_reducible refine gate_store (t:=62) (p:=8) (v:=.tmp 35) rfl ?_);go_must (refine zs 62 (.tmp 8) (.tmp 35) go 0 62 [.string rb.f0,.int .i64 rb.f1,.slice A5 rb.f2.length c5,.slice D5 rb.f3.length d5,.int .u64 rb.f4,.int .u64 rid,.string tg,.int .i64 er] Kgo (by kernel_rfl) ?_;intro w7 hk ho;have Y3:=zc Y3 (ho.out.below HD.out HD.out.size WD.out);have Y4:=zc Y4 (ho.out.below HD.out HD.out.size WD.out);clear HD WD;have HB:=zo ho HB Lgo;have Kga:=zl ho Kga (by have:=M1.out;omega);have KgB:=zl ho KgB (by have:=M2.out;omega);have Kgo : Hid (w7.heap[go]? = some (.cells #[.string rb.f0,.int .i64 rb.f1,.slice A5 rb.f2.length c5,.slice D5 rb.f3.length d5,.int .u64 rb.f4,.int .u64 rid,.string tg,.int .i64 er] 62 (0,0))):=hk;obtain ⟨f0,f1,f2,f3,f4,f5,f6,f7⟩:=zz8 Kgo.out;have b0:=zb Kga.out 0 (.int .u8 x.kd);obtain ⟨a0,a1,a2,a3,a4⟩:=zz5 KgB.out;clear hk ho))
         | (go_at_call 25;go_must (refine (HCK.out A5 D5 c5 d5 _ Y3.out y1_ Y4.out y2_).mono ?_;rintro e w8 ⟨rfl,hb⟩;have HB:=keepB HB hb;have Y3:=zc Y3 hb;have Y4:=zc Y4 hb;have Kga:=zk Kga hb;have KgB:=zk KgB hb;have Kgo:=zk Kgo hb;clear hb f0 f1 f2 f3 f4 f5 f6 f7 b0 a0 a1 a2 a3 a4;obtain ⟨f0,f1,f2,f3,f4,f5,f6,f7⟩:=zz8 Kgo.out;have b0:=zb Kga.out 0 (.int .u8 x.kd);obtain ⟨a0,a1,a2,a3,a4⟩:=zz5 KgB.out;))
         | (go_at_call 13;go_must (refine (HSM.out A5 D5 c5 d5 _ Y3.out y1_ Y4.out y2_ (Kd.C_below EB.out HB.out) (Kd.C_below UB.out HB.out)).mono ?_;rintro e w9 ⟨rfl,hb⟩;have HB:=keepB HB hb;have Y3:=zc Y3 hb;have Y4:=zc Y4 hb;have Kga:=zk Kga hb;have KgB:=zk KgB hb;have Kgo:=zk Kgo hb;clear hb f0 f1 f2 f3 f4 f5 f6 f7 b0 a0 a1 a2 a3 a4;have HG:=keepB HG HB.out;have HM:=zh (owns_below HM.out HB.out);obtain ⟨f0,f1,f2,f3,f4,f5,f6,f7⟩:=zz8 Kgo.out;have b0:=zb Kga.out 0 (.int .u8 x.kd);obtain ⟨a0,a1,a2,a3,a4⟩:=zz5 KgB.out;))
         | ((with_reducible refine gate_store (t:=26) (p:=3) (v:=.tmp 91) rfl ?_);go_must (refine zs 26 (.tmp 3) (.tmp 91) gB 0 26 [.string rb.f0,.int .i64 rb.f1,.slice A5 rb.f2.length c5,.slice D5 rb.f3.length d5,.int .u64 rb.f4] KgB isz_bucket ?_;intro w11 hk ho;have Y3:=zh (keepE Y3.out KgB.out (bk_like _ _ _ _ _ _ _ _ _) ho.out);have Y4:=zh (keepU Y4.out KgB.out (bk_like _ _ _ _ _ _ _ _ _) ho.out);have HM:=zh (owns_only HM.out ho.out (owns_ne HM.out KgB.out));have KgB : Hid (w11.heap[gB]? = some (.cells #[.string rb.f0,.int .i64 rb.f1,.slice A5 rb.f2.length c5,.slice D5 rb.f3.length d5,.int .u64 rb.f4] 26 (0,0))):=hk;have HG:=zo ho HG LgB;clear hk ho)))
     go_roundw
     case rel=>exact ⟨k + 1,D,rb,A5,D5,c5,d5,by go_num,hlt,h40,HGI,HBR,KgB,zh (HM.out.mono (Nat.le_succ _)),y1_,y2_,Y3,Y4,HG⟩
     case measure=>simp [intOf];omega
   ·obtain rfl : k = 40:=by omega
    have p1 : (40 : Int) < (l.length : Int):=by omega
    go_wp2_with (go_at_call 14;go_must (refine (HZ.out _).mono ?_;rintro e w20 ⟨rfl,hb⟩;have HG:=keepB HG hb;clear hb))
    go_ret
    exact ⟨rfl,HG.out⟩
  ·obtain rfl : k = l.length:=by omega
   go_wp2_with (go_at_call 14;go_must (refine (HZ.out _).mono ?_;rintro e w20 ⟨rfl,hb⟩;have HG:=keepB HG hb;clear hb))
   go_ret
   exact ⟨rfl,HG.out⟩
end
end Go.Proofs.YtekooapbdgippaaGreatDoor.Q
namespace Go.Proofs.YtekooapbdgippaaGreatDoor.Q
open Go.ChangeShapes Go.WideShapes Go.ChangeAt Go.WideMaps Go.WideElems Go.RowKit
set_option linter.unusedVariables false

theorem own : ownKnob Tryz.prog.godebug = none := by kernel_rfl
theorem laidOut : laidOutB Tryz.prog = true := by kernel_rfl
noncomputable abbrev laid3 := Rows.bucketOffRow.laid
/-- The door's own heap meets the condition. -/
theorem door_met (os : Os) (args : Array Value) : laidMetH Tryz.prog laid3 ((World.doorLaid Tryz.prog 400 os).forCall (fun _ _ => 0) ⟨#[], args, []⟩).memory :=
 laidMetH_of_parts3 (fuel := 8) (laidMet_of_run' 8 (by kernel_rfl) (by kernel_rfl)) (by kernel_rfl) (by kernel_rfl)
end Go.Proofs.YtekooapbdgippaaGreatDoor.Q
namespace Go.Proofs.YtekooapbdgippaaGreatDoor.bucketStays
open Go.ChangeShapes Go.WideShapes Go.ChangeAt Go.RowKit
open Go.ChangeMaps (open_string shut_string)
set_option linter.unusedVariables false

set_option maxRecDepth 100000 in
theorem lifted (os : Os) (started : os.Started) (H : Type) (enc : TypeId × Value → H) :
  ReturnsInHanded {} Tryz.checked os 6 .any (fun w args => (Rows.bucketStaysSpec.pre enc Tryz.prog Tryz.f6 [] false w args ∧ laidMetH Tryz.prog Q.laid3 w) ∧ sizedMet enc Tryz.prog Tryz.f6 (OpenSpec.ofChange Rows.bucketStaysSpec) false w args)
   (Rows.bucketStaysSpec.post enc Tryz.prog Tryz.f6 false true false false) := by
 refine returnsInHanded_of_change_and (C := Tryz.checked) (X := fun w _ => laidMetH Tryz.prog Q.laid3 w) (fun _ _ _ hh h => h.of_heap hh) Q.own started (by kernel_rfl) Tryz.func6
  (ChangeSpec.witness_shaped (enc := enc) (C := Tryz.checked) (os := os) (X := fun w _ => laidMetH Tryz.prog Q.laid3 w) false (World.doorLaid Tryz.prog 400 os) #[.slice none 0 0] 8 rfl (World.shaped_of_RefB (by kernel_rfl) (by kernel_rfl)) (by kernel_rfl) (by kernel_rfl) (by kernel_rfl) (Q.door_met os _)) ?_
 intro W base args ds gs before hval0 hW _ _ hL _
 have hval : ∀ (j : Nat) t v, Tryz.f6.params[j]? = some t → args[j]? = some v → Value.okWide Tryz.prog W .any base t v := hval0
 have hW' := hW
 obtain ⟨p, q, hA0, hV, rfl, hfz, hnd⟩ := hW
 have hA : DataW.TrodAll enc Tryz.prog W 0 (fun _ => true) true Tryz.f6.params.toList args.toList ds p := hA0
 rw [Tryz.params6] at hA hval
 obtain ⟨v0, vs0, d0, ds0, p0, q0, hargs, rfl, rfl, h0, r0⟩ := trodAll_cons hA
 obtain ⟨rfl, rfl, rfl⟩ := trodAll_nil r0
 obtain rfl : args = #[v0] := by cases args; simp_all
 obtain ⟨rfl, rfl⟩ := trodVars_none hV
 have k0 := h0
 have lt0 : ∀ x ∈ p0, x.block < W.heap.size := by obtain ⟨m, hm⟩ := k0; exact DataW.trod_lt m _ _ _ hm
 obtain ⟨l_0, A_0, c_0, rfl, hl_0, hC_0, hw_0⟩ := Q.open_acts (hval 0 66 v0 rfl rfl) h0
 clear hA0 hval0
 refine (Q.stays.walk A_0 c_0 l_0 W hC_0 hl_0 hw_0).mono fun e W' ⟨he, bel⟩ => ?_
 subst he
 exact ⟨_, rfl, _, _, _, [], _, [], hW', trodAll_mk1 (shut_bool Tryz.underlying4 _), (trodAll_cons_mk (Below.trod Q.laidOut (by kernel_rfl) (of_decide_eq_true (by kernel_rfl)) k0 bel lt0) trodAll_mk0), rfl, bel.frame _, fun h => by cases h⟩
theorem over : Rows.bucketStaysRow.holds Tryz.pinned (OpenSpec.ofChange Rows.bucketStaysSpec) :=
 OpenClaim.holds_of_wide 6 Tryz.f6 rfl rfl rfl rfl rfl rfl rfl ⟨rfl, rfl, rfl, rfl, rfl⟩ rfl rfl rfl rfl rfl (by kernel_rfl) Tryz.func6 (by kernel_rfl)
  (of_decide_eq_true (by kernel_rfl)) (by unfold Func.isWrapper; first | (rw [if_pos (by decide +kernel)]; kernel_rfl) | (rw [if_neg (by decide +kernel)]; exact ⟨rfl, rfl⟩))
  (fun os started H enc _ => lifted os started H enc)
end Go.Proofs.YtekooapbdgippaaGreatDoor.bucketStays
namespace Go.Proofs.YtekooapbdgippaaGreatDoor
open Go
/-- The row. -/
theorem bucketStays_holds : Rows.BucketStaysSaid := bucketStays.over
/-- The tied card. -/
theorem bucketStays_card : Rows.BucketStaysCardSaid :=
 Claim7.holds_tied_plain_at .later [] [.data, .data, .data] true (true, "3f924fd3e99d20b6ad08f43943803b65051b3e73ab7a4689db3063d4da1ed7e8") false
  bucketStays_holds (fun _ h => by cases h) (by kernel_rfl) (fun _ h => by cases h) bucketStays_row_tie rfl ⟨rfl, rfl⟩ (by kernel_rfl) rfl
  (fun f fn hf hfn => by
   obtain rfl : f = 6 := Option.some.inj ((show Tryz.prog.funcNamed "cellarer/cellarerlaw09.BucketStays" = some 6 by kernel_rfl).symm.trans hf) |>.symm
   obtain rfl : fn = Tryz.f6 := (Option.some.inj (Tryz.func6.symm.trans hfn)).symm
   exact ⟨by kernel_rfl, fun j t ht => by
    rw [Tryz.params6] at ht
    rcases j with _ | j
    ·obtain rfl : t = 66 := by simpa using ht.symm
     exact (show Tryz.prog.wantsStandIn 66 = false by kernel_rfl)
    ·simp at ht⟩)
  (by kernel_rfl)
#print axioms bucketStays_card
end Go.Proofs.YtekooapbdgippaaGreatDoor
