/- PolytextOperators returns true for every argument and changes none. The conditions are the statement's own: the listed tables of Go's library read as given, which is tied to the program's text. -/
import Derived.Test.YtpkijbkpjhpfmaaGreatDoorPw1
import Derived.Test.YtpkijbkpjhpfmaaGreatDoorPwCPolytextOperators
import Derived.Test.YtpkijbkpjhpfmaaGreatDoorPwLPolytextOperators
import Derived.Test.YtpkijbkpjhpfmaaGreatDoorRows
import Derived.Test.YtpkijbkpjhpfmaaGreatDoorCards
import Derived.Test.YtpkijbkpjhpfmaaGreatDoorTie
import Derived.SevenTiedAt
set_option maxRecDepth 100000
set_option maxHeartbeats 100000000
namespace Go.Proofs.YtpkijbkpjhpfmaaGreatDoor.polytextOperators
open Go
theorem over:Rows.polytextOperatorsRow.holds Tryz.pinned (OpenSpec.ofChange Rows.polytextOperatorsSpec) :=
 OpenClaim.holds_of_wide 7 Tryz.f7 rfl rfl rfl rfl rfl rfl rfl ⟨rfl,rfl,rfl,rfl,rfl⟩ rfl rfl rfl rfl rfl (by as_aux_lemma=>kernel_rfl) Tryz.func7 closed
  (of_decide_eq_true (by as_aux_lemma=>kernel_rfl)) (by as_aux_lemma=>unfold Func.isWrapper; first | (rw [if_pos (by decide +kernel)]; kernel_rfl) | (rw [if_neg (by decide +kernel)]; exact ⟨rfl,rfl⟩))
  (fun os started H enc _=>lifted os started H enc)
theorem named:Tryz.prog.funcNamed "sosopt/sosoptlaw07.PolytextOperators" = some 7:=by kernel_rfl
theorem looks0:true=Tryz.prog.looks []:=by kernel_rfl
theorem goes0:false=Rows.polytextOperatorsRow.goesBy Tryz.prog:=by kernel_rfl
theorem text0:Rows.polytextOperatorsRow.wfByText (OpenSpec.ofChange Rows.polytextOperatorsSpec)=true:=by kernel_rfl
theorem main0:Tryz.prog.mainIs=some (Rows.polytextOperatorsCard.stood.harness.1,Rows.polytextOperatorsCard.stood.harness.2.toList):=by kernel_rfl
theorem stand0:([30,30,22,4].all fun u => !Tryz.prog.wantsStandIn u)=true:=by kernel_rfl
theorem card:Claim7.holds Tryz.pinned (.plain (OpenSpec.ofChange Rows.polytextOperatorsSpec)) Rows.polytextOperatorsCard :=
 Claim7.holds_tied_plain_at .later [] [.data, .data, .data, .sentinel, .sentinel] true Rows.polytextOperatorsCard.stood.harness true
  over (fun _ h=>by cases h) text0 (fun _ h=>by cases h) polytextOperators_row_tie rfl ⟨rfl,rfl⟩ main0 rfl
  (fun f fn hf hfn=>by
   obtain rfl:f=7:=Option.some.inj (named.symm.trans hf) |>.symm;obtain rfl:fn=Tryz.f7:=(Option.some.inj (Tryz.func7.symm.trans hfn)).symm
   exact ⟨looks0,fun j t ht=>by
    rw [Tryz.params7] at ht;have hm:t∈[30,30,22,4]:=by simpa using Array.mem_of_getElem? ht
    exact (show Tryz.prog.wantsStandIn t=false by simpa using List.all_eq_true.1 stand0 t (by simpa using hm))⟩)
  goes0
theorem proved:Rows.PolytextOperatorsCardSaid:=card
#print axioms proved
end Go.Proofs.YtpkijbkpjhpfmaaGreatDoor.polytextOperators
