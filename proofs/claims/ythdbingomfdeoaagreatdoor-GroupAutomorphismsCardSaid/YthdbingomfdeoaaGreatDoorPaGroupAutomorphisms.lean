/- GroupAutomorphisms returns true for every argument and changes none. The conditions are the statement's own: the listed tables of Go's library read as given, which is tied to the program's text. -/
import Derived.Test.YthdbingomfdeoaaGreatDoorPa1
import Derived.Test.YthdbingomfdeoaaGreatDoorPaCGroupAutomorphisms
import Derived.Test.YthdbingomfdeoaaGreatDoorPaLGroupAutomorphisms
import Derived.Test.YthdbingomfdeoaaGreatDoorRows
import Derived.Test.YthdbingomfdeoaaGreatDoorCards
import Derived.Test.YthdbingomfdeoaaGreatDoorTie
import Derived.SevenTiedAt
set_option maxRecDepth 100000
set_option maxHeartbeats 100000000
namespace Go.Proofs.YthdbingomfdeoaaGreatDoor.groupAutomorphisms
open Go
theorem over:Rows.groupAutomorphismsRow.holds Tryz.pinned (OpenSpec.ofChange Rows.groupAutomorphismsSpec) :=
 OpenClaim.holds_of_wide 3 Tryz.f3 rfl rfl rfl rfl rfl rfl rfl ⟨rfl,rfl,rfl,rfl,rfl⟩ rfl rfl rfl rfl rfl (by as_aux_lemma=>kernel_rfl) Tryz.func3 closed
  (of_decide_eq_true (by as_aux_lemma=>kernel_rfl)) (by as_aux_lemma=>unfold Func.isWrapper; first | (rw [if_pos (by decide +kernel)]; kernel_rfl) | (rw [if_neg (by decide +kernel)]; exact ⟨rfl,rfl⟩))
  (fun os started H enc _=>lifted os started H enc)
theorem named:Tryz.prog.funcNamed "sosopt/sosoptlaw18.GroupAutomorphisms" = some 3:=by kernel_rfl
theorem looks0:false=Tryz.prog.looks []:=by kernel_rfl
theorem goes0:false=Rows.groupAutomorphismsRow.goesBy Tryz.prog:=by kernel_rfl
theorem text0:Rows.groupAutomorphismsRow.wfByText (OpenSpec.ofChange Rows.groupAutomorphismsSpec)=true:=by kernel_rfl
theorem main0:Tryz.prog.mainIs=some (Rows.groupAutomorphismsCard.stood.harness.1,Rows.groupAutomorphismsCard.stood.harness.2.toList):=by kernel_rfl
theorem stand0:([24,25,25].all fun u => !Tryz.prog.wantsStandIn u)=true:=by kernel_rfl
theorem card:Claim7.holds Tryz.pinned (.plain (OpenSpec.ofChange Rows.groupAutomorphismsSpec)) Rows.groupAutomorphismsCard :=
 Claim7.holds_tied_plain_at .later [] [.data] true Rows.groupAutomorphismsCard.stood.harness false
  over (fun _ h=>by cases h) text0 (fun _ h=>by cases h) groupAutomorphisms_row_tie rfl ⟨rfl,rfl⟩ main0 rfl
  (fun f fn hf hfn=>by
   obtain rfl:f=3:=Option.some.inj (named.symm.trans hf) |>.symm;obtain rfl:fn=Tryz.f3:=(Option.some.inj (Tryz.func3.symm.trans hfn)).symm
   exact ⟨looks0,fun j t ht=>by
    rw [Tryz.params3] at ht;have hm:t∈[24,25,25]:=by simpa using Array.mem_of_getElem? ht
    exact (show Tryz.prog.wantsStandIn t=false by simpa using List.all_eq_true.1 stand0 t (by simpa using hm))⟩)
  goes0
theorem proved:Rows.GroupAutomorphismsCardSaid:=card
#print axioms proved
end Go.Proofs.YthdbingomfdeoaaGreatDoor.groupAutomorphisms
