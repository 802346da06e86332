/- PolyOwn returns true for every polynomial and leaves it as it was. The conditions are the statement's own: the listed tables of Go's library read as given, which is tied to the program's text. -/
import Derived.Test.YtbiifaciddajnaaGreatDoorRows
import Derived.Test.YtbiifaciddajnaaGreatDoorCards
import Derived.Test.YtbiifaciddajnaaGreatDoorTie
import Derived.Test.YtbiifaciddajnaaGreatDoorOwnOC
import Derived.Test.YtbiifaciddajnaaGreatDoorOwnOL
import Derived.SevenTiedAt
set_option maxRecDepth 100000
set_option maxHeartbeats 100000000
namespace Go.Proofs.YtbiifaciddajnaaGreatDoor.polyOwn
open Go
theorem over:Rows.polyOwnRow.holds Tryz.pinned (OpenSpec.ofChange Rows.polyOwnSpec) :=
 OpenClaim.holds_of_wide 10 Tryz.f10 rfl rfl rfl rfl rfl rfl rfl ⟨rfl,rfl,rfl,rfl,rfl⟩ rfl rfl rfl rfl rfl (by as_aux_lemma=>kernel_rfl) Tryz.func10 closed
  (of_decide_eq_true (by as_aux_lemma=>kernel_rfl)) (by as_aux_lemma=>unfold Func.isWrapper; first | (rw [if_pos (by decide +kernel)]; kernel_rfl) | (rw [if_neg (by decide +kernel)]; exact ⟨rfl,rfl⟩))
  (fun os started H enc _=>lifted os started H enc)
theorem named:Tryz.prog.funcNamed "sosopt/sosoptlaw06.PolyOwn" = some 10:=by kernel_rfl
theorem looks0:false=Tryz.prog.looks []:=by kernel_rfl
theorem goes0:false=Rows.polyOwnRow.goesBy Tryz.prog:=by kernel_rfl
theorem text0:Rows.polyOwnRow.wfByText (OpenSpec.ofChange Rows.polyOwnSpec)=true:=by kernel_rfl
theorem main0:Tryz.prog.mainIs=some (Rows.polyOwnCard.stood.harness.1,Rows.polyOwnCard.stood.harness.2.toList):=by kernel_rfl
theorem stand0:([24].all fun u => !Tryz.prog.wantsStandIn u)=true:=by kernel_rfl
theorem card:Claim7.holds Tryz.pinned (.plain (OpenSpec.ofChange Rows.polyOwnSpec)) Rows.polyOwnCard :=
 Claim7.holds_tied_plain_at .later [] [.data, .data, .data] true Rows.polyOwnCard.stood.harness false
  over (fun _ h=>by cases h) text0 (fun _ h=>by cases h) polyOwn_row_tie rfl ⟨rfl,rfl⟩ main0 rfl
  (fun f fn hf hfn=>by
   obtain rfl:f=10:=Option.some.inj (named.symm.trans hf) |>.symm
   obtain rfl:fn=Tryz.f10:=(Option.some.inj (Tryz.func10.symm.trans hfn)).symm
   exact ⟨looks0,fun j t ht=>by
    rw [Tryz.params10] at ht
    have hm:t∈[24]:=by simpa using Array.mem_of_getElem? ht
    exact (show Tryz.prog.wantsStandIn t=false by simpa using List.all_eq_true.1 stand0 t hm)⟩)
  goes0
theorem proved:Rows.PolyOwnCardSaid:=card
#print axioms proved
end Go.Proofs.YtbiifaciddajnaaGreatDoor.polyOwn
