/- Part Gav42. -/
import Derived.Test.YtlpgonpfjbhmfaaGreatDoorGav29
import Derived.Test.YtlpgonpfjbhmfaaGreatDoorGav34
import Derived.ProofKit
import Derived.Lib.LaidTab
import Derived.Stop.LaidErr
import Derived.MakeChecks
import Derived.Test.YtlpgonpfjbhmfaaGreatDoorRows
import Derived.Test.YtlpgonpfjbhmfaaGreatDoorGav12
import Derived.Test.YtlpgonpfjbhmfaaGreatDoorGav32
import Derived.SliceStrings
set_option maxRecDepth 100000
set_option maxHeartbeats 100000000
namespace Go.Proofs.YtlpgonpfjbhmfaaGreatDoor
open Go Go.RowKit Go.ChangeShapes Go.WideShapes Go.ChangeAt
variable {x y:Addr} {held:Bool} {zs:List Int} {cs:List Value} {base cap fuel k len:Nat} {a:Option Addr} {v:Value} {w:World}
theorem LM (h:w.cell? x=some v):x.spot=none:=by
 unfold World.cell? at h;split at h
 · cases hs:x.spot with
   | none=>rfl
   | some s=>rw [hs] at h; simp at h
 · cases h
theorem KA {b off i:Nat}:Addr.add ⟨b,off,none⟩ i=⟨b,off+i,none⟩:=by
 unfold Addr.add;split
 · next h=>subst h; rfl
 · rfl
theorem Qf 
 (h:(a=none∧len=0∧cap=0∧zs=[])∨∃ x,a=some x∧len≤cap∧cap≤maxLen∧zs.length=cap∧(∀ i,i<zs.length→w.cell? (x.add i)=some (.int .i64 (zs.getD i 0)))) :
 SlI w a len cap (zs.take len):=by
 rcases h with ⟨rfl,rfl,rfl,rfl⟩|⟨x,rfl,h1,h2,h3,h4⟩
 · exact Sl.nil w
 · refine ⟨by simp; omega,h1,h2,fun hn => ?_⟩;have h0:=h4 0 (by omega);have hs:x.spot=none:=LM (x:=x) (by simpa [Addr.add] using h0);obtain ⟨b,off,sp⟩:=x;simp only at hs;subst hs;refine ⟨b,off,rfl,fun i hi => ?_⟩;have:=h4 i (by omega);rw [KA] at this;rw [this];have hi':i<zs.length:=by omega
   simp [hi,hi']
theorem KB {Q:Nat→List Value→Tx→Prop}:∀ n:Nat,(∀ i,i<n→∃ r t,Q i r t)→∃ (rows:List (List Value)) (ts:List Tx),rows.length=n∧ts.length=n∧∀ i,i<n→Q i (rows.getD i []) (ts.getD i tm0)
 | 0,_=>⟨[],[],rfl,rfl,fun i hi=>absurd hi (by omega)⟩
 | n+1,h=>by
  obtain ⟨rows,ts,h1,h2,h3⟩:=KB n (fun i hi=>h i (by omega));obtain ⟨r,t,h4⟩:=h n (by omega);refine ⟨rows ++ [r],ts ++ [t],by simp [h1],by simp [h2],fun i hi => ?_⟩;by_cases e:i=n
  · subst e;have e1:(rows ++ [r]).getD i []=r:=by rw [gqq,List.getElem?_append_right (by omega),h1,Nat.sub_self]; rfl
    have e2:(ts ++ [t]).getD i tm0=t:=by rw [gqq,List.getElem?_append_right (by omega),h2,Nat.sub_self]; rfl
    rw [e1,e2]; exact h4
  · rw [gqq,List.getElem?_append_left (by omega),←gqq,gqq (l:=ts ++ [t]),List.getElem?_append_left (by omega),←gqq];exact h3 i (by omega)
theorem Tn (h:w.cells? base y k=some cs):cs.length=k∧∀ j,j<k→∃ v,cs[j]?=some v∧w.cell? (y.add j)=some v:=by
 unfold World.cells? at h;split at h
 · refine ⟨by have:=Lib.mapM_length h; simpa using this,fun j hj => ?_⟩;obtain ⟨b,h1,h2⟩:=Lib.mapM_at h j j (by simp [hj]);exact ⟨b,h1,h2⟩
 · cases h
theorem O9:Tryz.prog.cellsOf 60=2:=by kernel_rfl
theorem Rs:Tryz.prog.cellsOf 9=1:=by kernel_rfl
theorem LN:Tryz.prog.cellsOf 3=1:=by kernel_rfl
theorem Pa:Tryz.prog.cellsOf 22=1:=by kernel_rfl
theorem Oh:Tryz.prog.cellsOf 23=1:=by kernel_rfl
theorem KC {H:Type} {enc:TypeId×Value→H} {x:DataW H×List MemPlace}
 (h:DataW.trod enc Tryz.prog w base (fun _=>true) held fuel 22 cs=some x):∃ a n c xs,cs=[.slice a n c]∧SlI w a n c xs:=by
 rcases open_ints Tryz.underlying22 Tryz.underlying3 LN h with ⟨hcs,_⟩|⟨y,l,c,zs,hcs,_,hl,hm,hz,_,hcell,hwz⟩
 · exact ⟨none,0,0,_,hcs,Qf (zs:=[]) (.inl ⟨rfl,rfl,rfl,rfl⟩)⟩
 · exact ⟨_,_,_,_,hcs,Qf (zs:=zs) (.inr ⟨_,rfl,hl,hm,by simpa using hz,hcell⟩)⟩
theorem Pb {H:Type} {enc:TypeId×Value→H} {x:DataW H×List MemPlace}
 (h:DataW.trod enc Tryz.prog w base (fun _=>true) held fuel 23 cs=some x):∃ a n c ts,cs=[.slice a n c]∧CJ w a n c ts:=by
 rcases DataW.trod_slice Tryz.underlying23 h with ⟨hcs,_⟩|⟨y,len,cap,elems,rest,fu,_,hcs,_,hb,hl,hm,hlen,hel,_,_⟩
 · exact ⟨none,0,0,[],hcs,[],SlK.nil w 2,rfl,fun i hi=>absurd hi (by omega)⟩
 · rw [O9] at hel;have key:∀ i,i<len→∃ (r:List Value) (t:Tx),r.length=2∧Sk w r t∧∀ j,j<2→w.cell? ((y.add (i*2)).add j)=some (r.getD j undef):=by
    intro i hi;have h1:=hel i hi;rw [List.getElem?_eq_getElem (by omega),Option.bind_eq_some_iff] at h1;obtain ⟨cs',h2,h3⟩:=h1;obtain ⟨hc2,hcell⟩:=Tn h2;obtain ⟨y0,y1,k,_,_,u0,u1⟩:=trod_struct2 Tryz.underlying60 h3;obtain ⟨s,e0,_,_⟩:=DataW.trod_string Tryz.underlying9 u0;obtain ⟨a',n',c',xs,e1,hx⟩:=KC u1;have f0:(cs'.drop 0).take (Tryz.prog.cellsOf 9)=[.string s]:=e0;have f1:(cs'.drop 1).take (Tryz.prog.cellsOf 22)=[.slice a' n' c']:=e1;rw [Rs] at f0;rw [Pa] at f1;clear e0 e1 u0 u1 h3
    match cs',hc2,f0,f1 with
    | [v0,v1],_,f0,f1 =>
     simp only [List.drop_zero,List.drop_succ_cons,List.take_succ_cons,List.take_zero,List.cons.injEq,and_true] at f0 f1;subst f0;subst f1;refine ⟨[.string s, .slice a' n' c'],(Am s,xs),rfl,⟨s,a',n',c',rfl,rfl,hx⟩,fun j hj => ?_⟩;obtain ⟨v,h4,h5⟩:=hcell j hj;rw [h5,gqq,h4];rfl
   obtain ⟨rows,ts,h1,h2,h3⟩:=KB len key;refine ⟨some y,len,cap,ts,hcs,rows,⟨h1,hl,hm,fun r hr => ?_,fun h0 => ?_⟩,h2,fun i hi=>(h3 i hi).2.1⟩
   · obtain ⟨i,hi,rfl⟩:=List.mem_iff_getElem.1 hr;have:=(h3 i (by omega)).1;simpa [hi] using this
   · have hs:y.spot=none:=by
      have h4:=(h3 0 h0).2.2 0 (by omega);have h5:=LM h4;simpa [Addr.add] using h5
     obtain ⟨b,off,sp⟩:=y;simp only at hs;subst hs;refine ⟨b,off,rfl,fun i hi j hj => ?_⟩;have h4:=(h3 i hi).2.2 j hj
     rwa [KA,KA] at h4
theorem Rt {H:Type} {enc:TypeId×Value→H} {x:DataW H×List MemPlace}
 (h:DataW.trod enc Tryz.prog w base (fun _=>true) held fuel 25 cs=some x):∃ va a n c ts,cs=[.int .i64 va, .slice a n c]∧(-9223372036854775808≤va∧va≤9223372036854775807)∧CJ w a n c ts:=by
 obtain ⟨y0,y1,k,_,hl,u0,u1⟩:=trod_struct2 Tryz.underlying25 h;obtain ⟨va,e0,_,hwf⟩:=DataW.trod_int Tryz.underlying3 u0;have hwv : -9223372036854775808≤va∧va≤9223372036854775807:=by
  simp only [Lit.wf,Bool.and_eq_true,decide_eq_true_eq] at hwf;exact hwf
 obtain ⟨a,n,c,ts,e1,hx⟩:=Pb u1;have hc:Tryz.prog.cellsOf 25=2:=by kernel_rfl
 rw [hc] at hl;have f0:(cs.drop 0).take (Tryz.prog.cellsOf 3)=[.int .i64 va]:=e0;have f1:(cs.drop 1).take (Tryz.prog.cellsOf 23)=[.slice a n c]:=e1;rw [LN] at f0;rw [Oh] at f1;clear e0 e1 u0 u1 h
 match cs,hl,f0,f1 with
 | [v0,v1],_,f0,f1 =>
  simp only [List.drop_zero,List.drop_succ_cons,List.take_succ_cons,List.take_zero,List.cons.injEq,and_true] at f0 f1;subst f0;subst f1;exact ⟨va,a,n,c,ts,rfl,hwv,hx⟩
end Go.Proofs.YtlpgonpfjbhmfaaGreatDoor
namespace Go.Proofs.YtlpgonpfjbhmfaaGreatDoor
open Go Go.RowKit
variable {W:World}
theorem g64:Tryz.prog.globalNamed "math/bits.deBruijn64tab" = some 0:=by kernel_rfl
theorem Wx:Tryz.prog.globalNamed "internal/strconv.uint64pow10" = some 3:=by kernel_rfl
theorem Vw:(Rows.laid_math_bits_deBruijn64tab:DataW Unit)=Lib.tabData .u8 (Lib.deBruijn64tab.map Int.ofNat):=by kernel_rfl
theorem Ut:(Rows.laid_internal_strconv_uint64pow10:DataW Unit)=Lib.tabData .u64 Lib.pow10Tab:=by kernel_rfl
theorem Uu (h:laidMetH Tryz.prog [("math/bits.deBruijn32tab",Rows.laid_math_bits_deBruijn32tab),("math/bits.deBruijn64tab",Rows.laid_math_bits_deBruijn64tab),("internal/strconv.uint64pow10",Rows.laid_internal_strconv_uint64pow10)] W):A2 W:=by
 rw [MakeChecks.laidMetH_plain _ _ _ (by kernel_rfl)] at h;have h1:=laidMet.tail h;have h2:=laidMet.tail h1;rw [Vw] at h1;rw [Ut] at h2;have t1:=Lib.tabIs_of_head g64 (t:=242) (e:=5) (n:=64) (by kernel_rfl) Tryz.underlying242 Tryz.underlying5 (by kernel_rfl) (by kernel_rfl) h1;have t2:=Lib.tabIs_of_head Wx (t:=248) (e:=143) (n:=20) (by kernel_rfl) Tryz.underlying248 Tryz.underlying143 (by kernel_rfl) (by kernel_rfl) h2;refine ⟨fun j hj => ?_,t2⟩;have h3:=t1.cell g64 j (by simpa using hj);rw [h3];simp [hj]
end Go.Proofs.YtlpgonpfjbhmfaaGreatDoor
namespace Go.Proofs.YtlpgonpfjbhmfaaGreatDoor
open Go Go.RowKit Go.ChangeShapes Go.WideShapes Go.ChangeAt
variable {held:Bool} {base c fuel n:Nat} {a:Option Addr} {w:World}
theorem KD {H:Type} {enc:TypeId×Value→H} {x:DataW H×List MemPlace}
 (h:DataW.trod enc Tryz.prog w base (fun _=>true) held fuel 22 [.slice a n c]=some x):∃ xs,SlI w a n c xs:=by
 obtain ⟨a',n',c',xs,e,hx⟩:=KC h;cases e;exact ⟨xs,hx⟩
end Go.Proofs.YtlpgonpfjbhmfaaGreatDoor
