/- Part Pmk32. -/
import Derived.Test.YtlbmnokpiilfpaaGreatDoorPmk17
import Derived.Test.YtlbmnokpiilfpaaGreatDoorPmk26
import Derived.ProofKit
import Derived.Lib.LaidTab
import Derived.Stop.LaidErr
import Derived.MakeChecks
import Derived.Test.YtlbmnokpiilfpaaGreatDoorRows
import Derived.Test.YtlbmnokpiilfpaaGreatDoorPmk5
set_option maxRecDepth 100000
set_option maxHeartbeats 100000000
namespace Go.Proofs.YtlbmnokpiilfpaaGreatDoor
open Go Go.RowKit Go.ChangeShapes Go.WideShapes Go.ChangeAt
variable {x y:Addr} {held:Bool} {zs:List Int} {cs:List Value} {base c cap fuel k len n:Nat} {a:Option Addr} {v:Value} {w:World}
theorem Kc (h:w.cell? x=some v):x.spot=none:=by
 unfold World.cell? at h;split at h
 · cases a:x.spot with
   | none=>rfl
   | some s=>rw [a] at h; simp at h
 · cases h
theorem I3 {b a i:Nat}:Addr.add ⟨b,a,none⟩ i=⟨b,a+i,none⟩:=by
 unfold Addr.add;split
 · next h=>subst h; rfl
 · rfl
theorem OM 
 (h:(a=none/\len=0/\cap=0/\zs=[])\/∃ x,a=some x/\len<=cap/\cap<=maxLen/\zs.length=cap/\(∀ i,i<zs.length->w.cell? (x.add i)=some (.int .i64 (zs.getD i 0)))) :
 SlI w a len cap (zs.take len):=by
 rcases h with ⟨rfl,rfl,rfl,rfl⟩|⟨x,rfl,h1,h2,h3,h4⟩
 · exact Sl.nil w
 · refine ⟨by simp; omega,h1,h2,fun g => ?_⟩;have h0:=h4 0 (by omega);have e:x.spot=none:=Kc (x:=x) (by simpa [Addr.add] using h0);obtain ⟨b,d,j⟩:=x;simp only at e;subst e;refine ⟨b,d,rfl,fun i f => ?_⟩;have:=h4 i (by omega);rw [I3] at this;rw [this];have c:i<zs.length:=by omega
   simp [f,c]
theorem I4 {Q:Nat->List Value->Tx->Prop}:∀ n:Nat,(∀ i,i<n->∃ r t,Q i r t)->∃ (a:List (List Value)) (b:List Tx),a.length=n/\b.length=n/\∀ i,i<n->Q i (a.getD i []) (b.getD i tm0)
 | 0,_=>⟨[],[],rfl,rfl,fun i c=>absurd c (by omega)⟩
 | n+1,h=>by
  obtain ⟨a,b,h1,h2,h3⟩:=I4 n (fun i c=>h i (by omega));obtain ⟨r,t,h4⟩:=h n (by omega);refine ⟨a ++ [r],b ++ [t],by simp [h1],by simp [h2],fun i c => ?_⟩;by_cases e:i=n
  · subst e;have d:(a ++ [r]).getD i []=r:=by rw [gqq,List.getElem?_append_right (by omega),h1,Nat.sub_self]; rfl
    have f:(b ++ [t]).getD i tm0=t:=by rw [gqq,List.getElem?_append_right (by omega),h2,Nat.sub_self]; rfl
    rw [d,f]; exact h4
  · rw [gqq,List.getElem?_append_left (by omega),<-gqq,gqq (l:=b ++ [t]),List.getElem?_append_left (by omega),<-gqq];exact h3 i (by omega)
theorem Rj (h:w.cells? base y k=some cs):cs.length=k/\∀ j,j<k->∃ v,cs[j]?=some v/\w.cell? (y.add j)=some v:=by
 unfold World.cells? at h;split at h
 · refine ⟨by have:=Lib.mapM_length h; simpa using this,fun j a => ?_⟩;obtain ⟨b,h1,h2⟩:=Lib.mapM_at h j j (by simp [a]);exact ⟨b,h1,h2⟩
 · cases h
theorem NE:Tryz.prog.cellsOf 26=2:=by kernel_rfl
theorem PP:Tryz.prog.cellsOf 9=1:=by kernel_rfl
theorem PQ:Tryz.prog.cellsOf 3=1:=by kernel_rfl
theorem NF:Tryz.prog.cellsOf 24=1:=by kernel_rfl
theorem NG {H:Type} {enc:TypeId×Value->H} {x:DataW H×List MemPlace}
 (h:DataW.trod enc Tryz.prog w base (fun _=>true) held fuel 24 cs=some x):∃ a n c j,cs=[.slice a n c]/\SlI w a n c j:=by
 rcases open_ints Tryz.underlying24 Tryz.underlying3 PQ h with ⟨d,_⟩|⟨y,l,c,zs,d,_,e,f,i,_,b,g⟩
 · exact ⟨none,0,0,_,d,OM (zs:=[]) (.inl ⟨rfl,rfl,rfl,rfl⟩)⟩
 · exact ⟨_,_,_,_,d,OM (zs:=zs) (.inr ⟨_,rfl,e,f,by simpa using i,b⟩)⟩
theorem NH {H:Type} {enc:TypeId×Value->H} {x:DataW H×List MemPlace}
 (h:DataW.trod enc Tryz.prog w base (fun _=>true) held fuel 22 cs=some x):∃ a n c J,cs=[.slice a n c]/\Bk w a n c J:=by
 rcases DataW.trod_slice Tryz.underlying22 h with ⟨g,_⟩|⟨y,l,B,C,N,T,_,g,_,U,O,P,L,p,_,_⟩
 · exact ⟨none,0,0,[],g,[],SlK.nil w 2,rfl,fun i d=>absurd d (by omega)⟩
 · rw [NE] at p;have F:∀ i,i<l->∃ (r:List Value) (t:Tx),r.length=2/\Pf w r t/\∀ j,j<2->w.cell? ((y.add (i*2)).add j)=some (r.getD j undef):=by
    intro i d;have h1:=p i d;rw [List.getElem?_eq_getElem (by omega),Option.bind_eq_some_iff] at h1;obtain ⟨e,h2,h3⟩:=h1;obtain ⟨D,f⟩:=Rj h2;obtain ⟨W,X,k,_,_,u0,u1⟩:=trod_struct2 Tryz.underlying26 h3;obtain ⟨s,e0,_,_⟩:=DataW.trod_string Tryz.underlying9 u0;obtain ⟨z,G,A,S,K,R⟩:=NG u1;have m:(e.drop 0).take (Tryz.prog.cellsOf 9)=[.string s]:=e0;have o:(e.drop 1).take (Tryz.prog.cellsOf 24)=[.slice z G A]:=K;rw [PP] at m;rw [NF] at o;clear e0 K u0 u1 h3
    match e,D,m,o with
    | [v0,v1],_,m,o =>
     simp only [List.drop_zero,List.drop_succ_cons,List.take_succ_cons,List.take_zero,List.cons.injEq,and_true] at m o;subst m;subst o;refine ⟨[.string s, .slice z G A],(Aj s,S),rfl,⟨s,z,G,A,rfl,rfl,R⟩,fun j E => ?_⟩;obtain ⟨v,h4,h5⟩:=f j E;rw [h5,gqq,h4];rfl
   obtain ⟨q,J,h1,h2,h3⟩:=I4 l F;refine ⟨some y,l,B,J,g,q,⟨h1,O,P,fun r Q => ?_,fun h0 => ?_⟩,h2,fun i d=>(h3 i d).2.1⟩
   · obtain ⟨i,d,rfl⟩:=List.mem_iff_getElem.1 Q;have:=(h3 i (by omega)).1;simpa [d] using this
   · have M:y.spot=none:=by
      have h4:=(h3 0 h0).2.2 0 (by omega);have h5:=Kc h4;simpa [Addr.add] using h5
     obtain ⟨b,I,V⟩:=y;simp only at M;subst M;refine ⟨b,I,rfl,fun i d j E => ?_⟩;have h4:=(h3 i d).2.2 j E
     rwa [I3,I3] at h4
theorem Mw {H:Type} {enc:TypeId×Value->H} {x:DataW H×List MemPlace}
 (h:DataW.trod enc Tryz.prog w base (fun _=>true) held fuel 22 [.slice a n c]=some x):∃ b,Bk w a n c b:=by
 obtain ⟨f,i,g,b,e,d⟩:=NH h;cases e;exact ⟨b,d⟩
end Go.Proofs.YtlbmnokpiilfpaaGreatDoor
namespace Go.Proofs.YtlbmnokpiilfpaaGreatDoor
open Go Go.RowKit
variable {W:World}
theorem g64:Tryz.prog.globalNamed "math/bits.deBruijn64tab" = some 1:=by kernel_rfl
theorem UH:Tryz.prog.globalNamed "internal/strconv.uint64pow10" = some 0:=by kernel_rfl
theorem TI:(Rows.laid_math_bits_deBruijn64tab:DataW Unit)=Lib.tabData .u8 (Lib.deBruijn64tab.map Int.ofNat):=by kernel_rfl
theorem St:(Rows.laid_internal_strconv_uint64pow10:DataW Unit)=Lib.tabData .u64 Lib.pow10Tab:=by kernel_rfl
theorem Su (h:laidMetH Tryz.prog [("math/bits.deBruijn32tab",Rows.laid_math_bits_deBruijn32tab),("math/bits.deBruijn64tab",Rows.laid_math_bits_deBruijn64tab),("internal/strconv.uint64pow10",Rows.laid_internal_strconv_uint64pow10)] W):AR W:=by
 rw [MakeChecks.laidMetH_plain _ _ _ (by kernel_rfl)] at h;have h1:=laidMet.tail h;have h2:=laidMet.tail h1;rw [TI] at h1;rw [St] at h2;have b:=Lib.tabIs_of_head g64 (t:=330) (e:=5) (n:=64) (by kernel_rfl) Tryz.underlying330 Tryz.underlying5 (by kernel_rfl) (by kernel_rfl) h1;have c:=Lib.tabIs_of_head UH (t:=319) (e:=238) (n:=20) (by kernel_rfl) Tryz.underlying319 Tryz.underlying238 (by kernel_rfl) (by kernel_rfl) h2;refine ⟨fun j a => ?_,c⟩;have h3:=b.cell g64 j (by simpa using a);rw [h3];simp [a]
end Go.Proofs.YtlbmnokpiilfpaaGreatDoor
