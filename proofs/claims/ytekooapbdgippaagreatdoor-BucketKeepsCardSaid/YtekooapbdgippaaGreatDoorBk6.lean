/- After each of what is done, every version that was laid is found as it was laid, at its key and its number; whatever the input, as the row says. The last part. -/
import Derived.Test.YtekooapbdgippaaGreatDoorBk5
import Derived.Test.YtekooapbdgippaaGreatDoorRows
import Derived.Test.YtekooapbdgippaaGreatDoorTie
import Derived.Test.YtekooapbdgippaaGreatDoorCards
import Derived.WalkKit
import Derived.ProofKit
import Derived.OpenShut
import Derived.ShutString
import Derived.ChangeOld
import Derived.Below
import Derived.SizedLaws
import Derived.SevenTiedAt
import Derived.Lib.SmallJoins
namespace Go.Proofs.YtekooapbdgippaaGreatDoor.bucketKeeps
open Go.ChangeShapes Go.WideShapes Go.ChangeAt Go.RowKit
open Go.ChangeMaps (open_string shut_string)
set_option linter.unusedVariables false

set_option maxRecDepth 100000 in
theorem lifted (os : Os) (started : os.Started) (H : Type) (enc : TypeId × Value → H) :
  ReturnsInHanded {} Tryz.checked os 9 .any (fun w args => (Rows.bucketKeepsSpec.pre enc Tryz.prog Tryz.f9 [] false w args ∧ laidMetH Tryz.prog Q.laid3 w) ∧ sizedMet enc Tryz.prog Tryz.f9 (OpenSpec.ofChange Rows.bucketKeepsSpec) false w args)
   (Rows.bucketKeepsSpec.post enc Tryz.prog Tryz.f9 false true false false) := by
 refine returnsInHanded_of_change_and (C := Tryz.checked) (X := fun w _ => laidMetH Tryz.prog Q.laid3 w) (fun _ _ _ hh h => h.of_heap hh) Q.own started (by kernel_rfl) Tryz.func9
  (ChangeSpec.witness_shaped (enc := enc) (C := Tryz.checked) (os := os) (X := fun w _ => laidMetH Tryz.prog Q.laid3 w) false (World.doorLaid Tryz.prog 400 os) #[.agg #[.string ByteArray.empty, .int .i64 0, .slice none 0 0, .slice none 0 0, .int .u64 0], .slice none 0 0] 8 rfl (World.shaped_of_RefB (by kernel_rfl) (by kernel_rfl)) (by kernel_rfl) (by kernel_rfl) (by kernel_rfl) (Q.door_met os _)) ?_
 intro W base args ds gs before hval0 hW _ _ hL _
 have hval : ∀ (j : Nat) t v, Tryz.f9.params[j]? = some t → args[j]? = some v → Value.okWide Tryz.prog W .any base t v := hval0
 have hW' := hW
 obtain ⟨p, q, hA0, hV, rfl, hfz, hnd⟩ := hW
 have hA : DataW.TrodAll enc Tryz.prog W 0 (fun _ => true) true Tryz.f9.params.toList args.toList ds p := hA0
 rw [Tryz.params9] at hA hval
 obtain ⟨v0, vs0, d0, ds0, p0, q0, hargs, rfl, rfl, h0, r0⟩ := trodAll_cons hA
 obtain ⟨v1, vs1, d1, ds1, p1, q1, rfl, rfl, rfl, h1, r1⟩ := trodAll_cons r0
 obtain ⟨rfl, rfl, rfl⟩ := trodAll_nil r1
 obtain rfl : args = #[v0, v1] := by cases args; simp_all
 obtain ⟨rfl, rfl⟩ := trodVars_none hV
 have k0 := h0
 have lt0 : ∀ x ∈ p0, x.block < W.heap.size := by obtain ⟨m, hm⟩ := k0; exact DataW.trod_lt m _ _ _ hm
 have k1 := h1
 have lt1 : ∀ x ∈ p1, x.block < W.heap.size := by obtain ⟨m, hm⟩ := k1; exact DataW.trod_lt m _ _ _ hm
 obtain ⟨u_0, A2_0, c2_0, A3_0, c3_0, rfl, hle2_0, hC2_0, hle3_0, hC3_0, hw_0⟩ := Q.open_bucket (hval 0 26 v0 rfl rfl) h0
 obtain ⟨l_1, A_1, c_1, rfl, hl_1, hC_1, hw_1⟩ := Q.open_acts (hval 1 66 v1 rfl rfl) h1
 clear hA0 hval0
 refine (Q.keeps.walk u_0 A2_0 A3_0 c2_0 c3_0 A_1 c_1 l_1 W hC2_0 hle2_0 hC3_0 hle3_0 hw_0.2.2.2.1 hC_1 hl_1 hw_1).mono fun e W' ⟨he, bel⟩ => ?_
 subst he
 exact ⟨_, rfl, _, _, _, [], _, [], hW', trodAll_mk1 (shut_bool Tryz.underlying4 _), (trodAll_cons_mk (Below.trod Q.laidOut (by kernel_rfl) (of_decide_eq_true (by kernel_rfl)) k0 bel lt0) (trodAll_cons_mk (Below.trod Q.laidOut (by kernel_rfl) (of_decide_eq_true (by kernel_rfl)) k1 bel lt1) trodAll_mk0)), rfl, bel.frame _, fun h => by cases h⟩
theorem over : Rows.bucketKeepsRow.holds Tryz.pinned (OpenSpec.ofChange Rows.bucketKeepsSpec) :=
 OpenClaim.holds_of_wide 9 Tryz.f9 rfl rfl rfl rfl rfl rfl rfl ⟨rfl, rfl, rfl, rfl, rfl⟩ rfl rfl rfl rfl rfl (by kernel_rfl) Tryz.func9 (by kernel_rfl)
  (of_decide_eq_true (by kernel_rfl)) (by unfold Func.isWrapper; first | (rw [if_pos (by decide +kernel)]; kernel_rfl) | (rw [if_neg (by decide +kernel)]; exact ⟨rfl, rfl⟩))
  (fun os started H enc _ => lifted os started H enc)
end Go.Proofs.YtekooapbdgippaaGreatDoor.bucketKeeps
namespace Go.Proofs.YtekooapbdgippaaGreatDoor
open Go
/-- The row. -/
theorem bucketKeeps_holds : Rows.BucketKeepsSaid := bucketKeeps.over
/-- The tied card. -/
theorem bucketKeeps_card : Rows.BucketKeepsCardSaid :=
 Claim7.holds_tied_plain_at .later [] [.data, .data, .data] true (true, "3f924fd3e99d20b6ad08f43943803b65051b3e73ab7a4689db3063d4da1ed7e8") false
  bucketKeeps_holds (fun _ h => by cases h) (by kernel_rfl) (fun _ h => by cases h) bucketKeeps_row_tie rfl ⟨rfl, rfl⟩ (by kernel_rfl) rfl
  (fun f fn hf hfn => by
   obtain rfl : f = 9 := Option.some.inj ((show Tryz.prog.funcNamed "cellarer/cellarerlaw09.BucketKeeps" = some 9 by kernel_rfl).symm.trans hf) |>.symm
   obtain rfl : fn = Tryz.f9 := (Option.some.inj (Tryz.func9.symm.trans hfn)).symm
   exact ⟨by kernel_rfl, fun j t ht => by
    rw [Tryz.params9] at ht
    rcases j with _ | _ | j
    ·obtain rfl : t = 26 := by simpa using ht.symm
     exact (show Tryz.prog.wantsStandIn 26 = false by kernel_rfl)
    ·obtain rfl : t = 66 := by simpa using ht.symm
     exact (show Tryz.prog.wantsStandIn 66 = false by kernel_rfl)
    ·simp at ht⟩)
  (by kernel_rfl)
#print axioms bucketKeeps_card
end Go.Proofs.YtekooapbdgippaaGreatDoor
