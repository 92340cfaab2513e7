/- BucketRoom holds for every input: a bucket never has more octets than may be; a version for which there is no room is refused. The conditions are those of the row: every bucket, key and data that the types of the program allow. The last part. -/
import Derived.Test.YtekooapbdgippaaGreatDoorBr5
import Derived.Test.YtekooapbdgippaaGreatDoorRows
import Derived.Test.YtekooapbdgippaaGreatDoorTie
import Derived.Test.YtekooapbdgippaaGreatDoorCards
import Derived.WalkKit
import Derived.ProofKit
import Derived.OpenShut
import Derived.ShutString
import Derived.ChangeOld
import Derived.Below
import Derived.SizedLaws
import Derived.SevenTiedAt
import Derived.Lib.SmallJoins
namespace Go.Proofs.YtekooapbdgippaaGreatDoor.bucketRoom
open Go.ChangeShapes Go.WideShapes Go.ChangeAt Go.RowKit
open Go.ChangeMaps (open_string shut_string)
set_option linter.unusedVariables false

set_option maxRecDepth 100000 in
theorem lifted (os : Os) (started : os.Started) (H : Type) (enc : TypeId × Value → H) :
  ReturnsInHanded {} Tryz.checked os 4 .any (fun w args=>(Rows.bucketRoomSpec.pre enc Tryz.prog Tryz.f4 [] false w args ∧ laidMetH Tryz.prog Q.laid3 w) ∧ sizedMet enc Tryz.prog Tryz.f4 (OpenSpec.ofChange Rows.bucketRoomSpec) false w args)
   (Rows.bucketRoomSpec.post enc Tryz.prog Tryz.f4 false true false false):=by
 refine returnsInHanded_of_change_and (C:=Tryz.checked) (X:=fun w _=>laidMetH Tryz.prog Q.laid3 w) (fun _ _ _ hh h=>h.of_heap hh) Q.own started (by kernel_rfl) Tryz.func4
  (ChangeSpec.witness_shaped (enc:=enc) (C:=Tryz.checked) (os:=os) (X:=fun w _=>laidMetH Tryz.prog Q.laid3 w) false (World.doorLaid Tryz.prog 400 os) #[.agg #[.string ByteArray.empty,.int .i64 0,.slice none 0 0,.slice none 0 0,.int .u64 0],.string ByteArray.empty,.string ByteArray.empty] 8 rfl (World.shaped_of_RefB (by kernel_rfl) (by kernel_rfl)) (by kernel_rfl) (by kernel_rfl) (by kernel_rfl) (Q.door_met os _)) ?_
 intro W base args ds gs before hval0 hW _ _ hL _
 have hval : ∀ (j : Nat) t v,Tryz.f4.params[j]? = some t → args[j]? = some v → Value.okWide Tryz.prog W .any base t v:=hval0
 have hW':=hW
 obtain ⟨p,q,hA0,hV,rfl,hfz,hnd⟩:=hW
 have hA : DataW.TrodAll enc Tryz.prog W 0 (fun _=>true) true Tryz.f4.params.toList args.toList ds p:=hA0
 rw [Tryz.params4] at hA hval
 obtain ⟨v0,vs0,d0,ds0,p0,q0,hargs,rfl,rfl,h0,r0⟩:=trodAll_cons hA
 obtain ⟨v1,vs1,d1,ds1,p1,q1,rfl,rfl,rfl,h1,r1⟩:=trodAll_cons r0
 obtain ⟨v2,vs2,d2,ds2,p2,q2,rfl,rfl,rfl,h2,r2⟩:=trodAll_cons r1
 obtain ⟨rfl,rfl,rfl⟩:=trodAll_nil r2
 obtain rfl : args = #[v0,v1,v2]:=by cases args;simp_all
 obtain ⟨rfl,rfl⟩:=trodVars_none hV
 have k0:=h0
 have lt0 : ∀ x ∈ p0,x.block < W.heap.size:=by obtain ⟨m,hm⟩:=k0;exact DataW.trod_lt m _ _ _ hm
 obtain ⟨u_0,A2_0,c2_0,A3_0,c3_0,rfl,hle2_0,hC2_0,hle3_0,hC3_0,hw_0⟩:=Q.open_bucket (hval 0 26 v0 rfl rfl) h0
 obtain ⟨s_1,rfl,rfl,rfl,z_1⟩:=open_string Tryz.underlying9 (hval 1 9 v1 rfl rfl) h1
 obtain ⟨s_2,rfl,rfl,rfl,z_2⟩:=open_string Tryz.underlying9 (hval 2 9 v2 rfl rfl) h2
 clear hA0 hval0
 refine (Q.room.walk u_0 A2_0 A3_0 c2_0 c3_0 s_1 s_2 W hC2_0 hle2_0 hC3_0 hle3_0 hw_0.2.2.2.1).mono fun e W' ⟨he,bel⟩=>?_
 subst he
 exact ⟨_,rfl,_,_,_,[],_,[],hW',trodAll_mk1 (shut_bool Tryz.underlying4 _),(trodAll_cons_mk (Below.trod Q.laidOut (by kernel_rfl) (of_decide_eq_true (by kernel_rfl)) k0 bel lt0) (trodAll_cons_mk (shut_string Tryz.underlying9 z_1) (trodAll_cons_mk (shut_string Tryz.underlying9 z_2) trodAll_mk0))),rfl,bel.frame _,fun h=>by cases h⟩
theorem over : Rows.bucketRoomRow.holds Tryz.pinned (OpenSpec.ofChange Rows.bucketRoomSpec) :=
 OpenClaim.holds_of_wide 4 Tryz.f4 rfl rfl rfl rfl rfl rfl rfl ⟨rfl,rfl,rfl,rfl,rfl⟩ rfl rfl rfl rfl rfl (by kernel_rfl) Tryz.func4 (by kernel_rfl)
  (of_decide_eq_true (by kernel_rfl)) (by unfold Func.isWrapper;first | (rw [if_pos (by decide +kernel)];kernel_rfl) | (rw [if_neg (by decide +kernel)];exact ⟨rfl,rfl⟩))
  (fun os started H enc _=>lifted os started H enc)
end Go.Proofs.YtekooapbdgippaaGreatDoor.bucketRoom
namespace Go.Proofs.YtekooapbdgippaaGreatDoor
open Go
/-- The row. -/
theorem bucketRoom_holds : Rows.BucketRoomSaid:=bucketRoom.over
/-- The tied card. -/
theorem bucketRoom_card : Rows.BucketRoomCardSaid :=
 Claim7.holds_tied_plain_at .later [] [.data, .data, .data] true (true, "3f924fd3e99d20b6ad08f43943803b65051b3e73ab7a4689db3063d4da1ed7e8") false
  bucketRoom_holds (fun _ h=>by cases h) (by kernel_rfl) (fun _ h=>by cases h) bucketRoom_row_tie rfl ⟨rfl,rfl⟩ (by kernel_rfl) rfl
  (fun f fn hf hfn=>by
   obtain rfl : f = 4 := Option.some.inj ((show Tryz.prog.funcNamed "cellarer/cellarerlaw09.BucketRoom" = some 4 by kernel_rfl).symm.trans hf) |>.symm
   obtain rfl : fn = Tryz.f4:=(Option.some.inj (Tryz.func4.symm.trans hfn)).symm
   exact ⟨by kernel_rfl,fun j t ht=>by
    rw [Tryz.params4] at ht
    rcases j with _ | _ | _ | j
    ·obtain rfl : t = 26:=by simpa using ht.symm
     exact (show Tryz.prog.wantsStandIn 26 = false by kernel_rfl)
    ·obtain rfl : t = 9:=by simpa using ht.symm
     exact (show Tryz.prog.wantsStandIn 9 = false by kernel_rfl)
    ·obtain rfl : t = 9:=by simpa using ht.symm
     exact (show Tryz.prog.wantsStandIn 9 = false by kernel_rfl)
    ·simp at ht⟩)
  (by kernel_rfl)
#print axioms bucketRoom_card
end Go.Proofs.YtekooapbdgippaaGreatDoor
