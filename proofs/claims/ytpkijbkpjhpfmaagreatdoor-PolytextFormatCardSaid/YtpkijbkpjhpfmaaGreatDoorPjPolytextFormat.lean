/- PolytextFormat returns true for every argument and changes none. The conditions are the statement's own: the listed tables of Go's library read as given, which is tied to the program's text. -/
import Derived.Test.YtpkijbkpjhpfmaaGreatDoorPj1
import Derived.Test.YtpkijbkpjhpfmaaGreatDoorPjCPolytextFormat
import Derived.Test.YtpkijbkpjhpfmaaGreatDoorPjLPolytextFormat
import Derived.Test.YtpkijbkpjhpfmaaGreatDoorRows
import Derived.Test.YtpkijbkpjhpfmaaGreatDoorCards
import Derived.Test.YtpkijbkpjhpfmaaGreatDoorTie
import Derived.SevenTiedAt
set_option maxRecDepth 100000
set_option maxHeartbeats 100000000
namespace Go.Proofs.YtpkijbkpjhpfmaaGreatDoor.polytextFormat
open Go
theorem over:Rows.polytextFormatRow.holds Tryz.pinned (OpenSpec.ofChange Rows.polytextFormatSpec) :=
 OpenClaim.holds_of_wide 5 Tryz.f5 rfl rfl rfl rfl rfl rfl rfl ⟨rfl,rfl,rfl,rfl,rfl⟩ rfl rfl rfl rfl rfl (by as_aux_lemma=>kernel_rfl) Tryz.func5 closed
  (of_decide_eq_true (by as_aux_lemma=>kernel_rfl)) (by as_aux_lemma=>unfold Func.isWrapper; first | (rw [if_pos (by decide +kernel)]; kernel_rfl) | (rw [if_neg (by decide +kernel)]; exact ⟨rfl,rfl⟩))
  (fun os started H enc _=>lifted os started H enc)
theorem named:Tryz.prog.funcNamed "sosopt/sosoptlaw07.PolytextFormat" = some 5:=by kernel_rfl
theorem looks0:true=Tryz.prog.looks []:=by kernel_rfl
theorem goes0:false=Rows.polytextFormatRow.goesBy Tryz.prog:=by kernel_rfl
theorem text0:Rows.polytextFormatRow.wfByText (OpenSpec.ofChange Rows.polytextFormatSpec)=true:=by kernel_rfl
theorem main0:Tryz.prog.mainIs=some (Rows.polytextFormatCard.stood.harness.1,Rows.polytextFormatCard.stood.harness.2.toList):=by kernel_rfl
theorem stand0:([30,22].all fun u => !Tryz.prog.wantsStandIn u)=true:=by kernel_rfl
theorem card:Claim7.holds Tryz.pinned (.plain (OpenSpec.ofChange Rows.polytextFormatSpec)) Rows.polytextFormatCard :=
 Claim7.holds_tied_plain_at .later [] [.data, .data, .data, .sentinel, .sentinel] true Rows.polytextFormatCard.stood.harness true
  over (fun _ h=>by cases h) text0 (fun _ h=>by cases h) polytextFormat_row_tie rfl ⟨rfl,rfl⟩ main0 rfl
  (fun f fn hf hfn=>by
   obtain rfl:f=5:=Option.some.inj (named.symm.trans hf) |>.symm;obtain rfl:fn=Tryz.f5:=(Option.some.inj (Tryz.func5.symm.trans hfn)).symm
   exact ⟨looks0,fun j t ht=>by
    rw [Tryz.params5] at ht;have hm:t∈[30,22]:=by simpa using Array.mem_of_getElem? ht
    exact (show Tryz.prog.wantsStandIn t=false by simpa using List.all_eq_true.1 stand0 t (by simpa using hm))⟩)
  goes0
theorem proved:Rows.PolytextFormatCardSaid:=card
#print axioms proved
end Go.Proofs.YtpkijbkpjhpfmaaGreatDoor.polytextFormat
