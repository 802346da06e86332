/- Part PzLGroupApply. -/
import Derived.Test.YtlbmnokpiilfpaaGreatDoorPzLGp
import Derived.Test.YtlbmnokpiilfpaaGreatDoorPzFrT
import Derived.Test.YtlbmnokpiilfpaaGreatDoorRows
import Derived.WalkKit
import Derived.ProofKit
import Derived.OpenShut
import Derived.LaidMore
import Derived.ChangeOld
import Derived.Below
import Derived.ShutString
set_option maxRecDepth 100000
set_option maxHeartbeats 100000000
namespace Go.Proofs.YtlbmnokpiilfpaaGreatDoor.groupApply
open Go.ChangeShapes Go.WideShapes Go.ChangeAt Go.RowKit
open Go.ChangeMaps (open_string shut_string)
set_option linter.unusedVariables false
theorem own:ownKnob Tryz.prog.godebug=none:=by kernel_rfl
theorem laidOut:laidOutB Tryz.prog=true:=by kernel_rfl
theorem door_met (os:Os) (args:Array Value):laidMetH Tryz.prog Rows.groupApplyRow.laid ((World.doorLaid Tryz.prog 24 os).forCall (fun _ _=>0) ⟨#[],args,[]⟩).memory :=
 laidMetH_of_parts3 (fuel:=8) (laidMet_of_run' 8 (by kernel_rfl) (by kernel_rfl)) (by kernel_rfl) (by kernel_rfl)
theorem lifted (os:Os) (started:os.Started) (H:Type) (enc:TypeId×Value→H) :
 ReturnsInHanded {} Tryz.checked os 7 .any (fun w args=>(Rows.groupApplySpec.pre enc Tryz.prog Tryz.f7 [] false w args∧laidMetH Tryz.prog Rows.groupApplyRow.laid w)∧sizedMet enc Tryz.prog Tryz.f7 (OpenSpec.ofChange Rows.groupApplySpec) false w args)
  (Rows.groupApplySpec.post enc Tryz.prog Tryz.f7 false true false false):=by
 refine returnsInHanded_of_change_and (C:=Tryz.checked) (X:=fun w _=>laidMetH Tryz.prog Rows.groupApplyRow.laid w) (fun _ _ _ hh h=>h.of_heap hh) own started (by kernel_rfl) Tryz.func7
  (ChangeSpec.witness_shaped (enc:=enc) (C:=Tryz.checked) (os:=os) (X:=fun w _=>laidMetH Tryz.prog Rows.groupApplyRow.laid w) false (World.doorLaid Tryz.prog 24 os) #[.int .i64 0, .slice none 0 0, .slice none 0 0, .slice none 0 0, .agg #[.int .i64 0, .slice none 0 0], .slice none 0 0, .bool false] 8 rfl (World.shaped_of_RefB (by kernel_rfl) (by kernel_rfl)) (by kernel_rfl) (by kernel_rfl) (by kernel_rfl) (door_met os _)) ?_
 intro W base args ds gs before hval0 hW _ _ hL _;have hval:∀ (j:Nat) t v,Tryz.f7.params[j]?=some t→args[j]?=some v→Value.okWide Tryz.prog W .any base t v:=hval0;have hW':=hW;obtain ⟨p,q,hA0,hV,rfl,hfz,hnd⟩:=hW;have hA:DataW.TrodAll enc Tryz.prog W 0 (fun _=>true) true Tryz.f7.params.toList args.toList ds p:=hA0;rw [Tryz.params7] at hA hval;obtain ⟨v0,vs0,d0,ds0,p0,q0,hargs,rfl,rfl,h0,r0⟩:=trodAll_cons hA;obtain ⟨v1,vs1,d1,ds1,p1,q1,rfl,rfl,rfl,h1,r1⟩:=trodAll_cons r0;obtain ⟨v2,vs2,d2,ds2,p2,q2,rfl,rfl,rfl,h2,r2⟩:=trodAll_cons r1;obtain ⟨v3,vs3,d3,ds3,p3,q3,rfl,rfl,rfl,h3,r3⟩:=trodAll_cons r2
 obtain ⟨v4,vs4,d4,ds4,p4,q4,rfl,rfl,rfl,h4,r4⟩:=trodAll_cons r3;obtain ⟨v5,vs5,d5,ds5,p5,q5,rfl,rfl,rfl,h5,r5⟩:=trodAll_cons r4;obtain ⟨v6,vs6,d6,ds6,p6,q6,rfl,rfl,rfl,h6,r6⟩:=trodAll_cons r5;obtain ⟨rfl,rfl,rfl⟩:=trodAll_nil r6;obtain rfl:args=#[v0,v1,v2,v3,v4,v5,v6]:=by cases args; simp_all
 obtain ⟨rfl,rfl⟩:=trodVars_none hV;obtain ⟨a0,rfl,rfl,rfl,w0⟩:=open_int Tryz.underlying3 (hval 0 3 v0 rfl rfl) h0;have k1:=h1;have lt1:∀ x∈p1,x.block<W.heap.size:=by obtain ⟨m,hm⟩:=k1; exact DataW.trod_lt m _ _ _ hm
 obtain ⟨a1,n1,c1,rfl⟩:=okWide_slice Tryz.underlying24 (hval 1 24 v1 rfl rfl);obtain ⟨fuel1,hf1⟩:=h1;obtain ⟨ls1,hx1⟩:=Qz hf1;have k2:=h2;have lt2:∀ x∈p2,x.block<W.heap.size:=by obtain ⟨m,hm⟩:=k2; exact DataW.trod_lt m _ _ _ hm
 obtain ⟨a2,n2,c2,rfl⟩:=okWide_slice Tryz.underlying24 (hval 2 24 v2 rfl rfl);obtain ⟨fuel2,hf2⟩:=h2;obtain ⟨ls2,hx2⟩:=Qz hf2;have k3:=h3;have lt3:∀ x∈p3,x.block<W.heap.size:=by obtain ⟨m,hm⟩:=k3; exact DataW.trod_lt m _ _ _ hm
 obtain ⟨a3,n3,c3,rfl⟩:=okWide_slice Tryz.underlying24 (hval 3 24 v3 rfl rfl);obtain ⟨fuel3,hf3⟩:=h3;obtain ⟨ls3,hx3⟩:=Qz hf3;have k4:=h4;have lt4:∀ x∈p4,x.block<W.heap.size:=by obtain ⟨m,hm⟩:=k4; exact DataW.trod_lt m _ _ _ hm
 obtain ⟨cs4,rfl,hsz4⟩:=okWide_struct Tryz.underlying28 (hval 4 28 v4 rfl rfl);obtain ⟨fuel4,hf4⟩:=h4;obtain ⟨va4,a4,n4,c4,ts4,hcs4,hwv4,hx4⟩:=Dl (cs:=cs4.toList) hf4;obtain rfl:cs4=#[.int .i64 va4, .slice a4 n4 c4]:=by
  apply Array.ext';exact hcs4
 have k5:=h5;have lt5:∀ x∈p5,x.block<W.heap.size:=by obtain ⟨m,hm⟩:=k5; exact DataW.trod_lt m _ _ _ hm
 obtain ⟨a5,n5,c5,rfl⟩:=okWide_slice Tryz.underlying54 (hval 5 54 v5 rfl rfl);obtain ⟨fuel5,hf5⟩:=h5;obtain ⟨ls5,hx5⟩:=ic hf5;obtain ⟨b6,rfl,rfl,rfl⟩:=open_bool Tryz.underlying4 (hval 6 4 v6 rfl rfl) h6;have hT:=JA hL;clear hA0 hval0;refine (ew hT  hx1 hx2 hx3 hx4 hx5).mono fun e W' ⟨he,bel⟩ => ?_;subst he
 exact ⟨_,rfl,_,_,_,[],_,[],hW',trodAll_mk1 (shut_bool Tryz.underlying4 _),(trodAll_cons_mk (shut_int Tryz.underlying3 w0) (trodAll_cons_mk (Below.trod laidOut (by kernel_rfl) (of_decide_eq_true (by kernel_rfl)) k1 bel lt1) (trodAll_cons_mk (Below.trod laidOut (by kernel_rfl) (of_decide_eq_true (by kernel_rfl)) k2 bel lt2) (trodAll_cons_mk (Below.trod laidOut (by kernel_rfl) (of_decide_eq_true (by kernel_rfl)) k3 bel lt3) (trodAll_cons_mk (Below.trod laidOut (by kernel_rfl) (of_decide_eq_true (by kernel_rfl)) k4 bel lt4) (trodAll_cons_mk (Below.trod laidOut (by kernel_rfl) (of_decide_eq_true (by kernel_rfl)) k5 bel lt5) (trodAll_cons_mk (shut_bool Tryz.underlying4 _) trodAll_mk0))))))),rfl,bel.frame _,fun h=>by cases h⟩
end Go.Proofs.YtlbmnokpiilfpaaGreatDoor.groupApply
