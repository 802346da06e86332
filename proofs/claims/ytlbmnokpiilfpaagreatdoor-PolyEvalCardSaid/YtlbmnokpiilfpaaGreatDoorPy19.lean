/- Part Py19. -/
import Derived.Test.YtlbmnokpiilfpaaGreatDoorPy13
import Derived.ProofKit
import Derived.Lib.LaidTab
import Derived.Stop.LaidErr
import Derived.MakeChecks
import Derived.SliceStrings
set_option linter.all false
set_option maxRecDepth 100000
set_option maxHeartbeats 100000000
namespace Go.Proofs.YtlbmnokpiilfpaaGreatDoor
open Tryz Go Go.RowKit Go.ChangeShapes Go.WideShapes Go.ChangeAt
def nF:=@List.take_succ_cons
variable {x y:Addr} {held:Bool} {zs:List Int} {cs:List Value} {base cap fuel k len:Nat} {a:Option Addr} {v:Value} {w:World}
theorem G6(h:w.cell? x=some v):x.spot=none:=by
 unfold World.cell? at h;split at h
 · cases a:x.spot with
   | none=>rfl
   | some s=>rw[a]at h;simp at h
 · cases h
theorem Gi{b a i:Nat}:Addr.add ⟨b,a,none⟩ i=⟨b,a+i,none⟩:=by
 unfold Addr.add;split
 · next h=>subst h;rfl
 · rfl
theorem Ph 
 (h:(a=none/\len=0/\cap=0/\zs=[])\/∃ x,a=some x/\len<=cap/\cap<=maxLen/\zs.length=cap/\(∀ i,i<zs.length->w.cell? (x.add i)=some (.int .i64 (zs.getD i 0)))) :
 SlI w a len cap (zs.take len):=by
 rcases h with⟨rfl,rfl,rfl,rfl⟩|⟨x,rfl,h1,h2,h3,h4⟩
 · exact Sl.nil w
 · refine⟨by simp;omega,h1,h2,fun g => ?_⟩;have h0:=h4 0 (by omega);have e:x.spot=none:=G6 (x:=x) (by simpa[Addr.add]using h0);obtain⟨b,d,j⟩:=x;simp only at e;subst e;refine⟨b,d,rfl,fun i f => ?_⟩;have:=h4 i (by omega);rw[Gi]at this;rw[this];have c:i<zs.length:=by omega
   simp[f,c]
theorem Jv{Q:Nat->List Value->Tx->Prop}:∀ n:Nat,(∀ i,i<n->∃ r t,Q i r t)->∃ (a:List (List Value)) (b:List Tx),a.length=n/\b.length=n/\∀ i,i<n->Q i (a.getD i []) (b.getD i tm0)
 | 0,_=>⟨[],[],rfl,rfl,fun i c=>absurd c (by omega)⟩
 | n+1,h=>by
  obtain⟨a,b,h1,h2,h3⟩:=Jv n (fun i c=>h i (by omega));obtain⟨r,t,h4⟩:=h n (by omega);refine⟨a ++ [r],b ++ [t],by simp[h1],by simp[h2],fun i c => ?_⟩;by_cases e:i=n
  · subst e;have d:(a ++ [r]).getD i []=r:=by rw[gqq,gN (by omega),h1,jt];rfl
    have f:(b ++ [t]).getD i tm0=t:=by rw[gqq,gN (by omega),h2,jt];rfl
    rw[d,f];exact h4
  · rw[gqq,gF (by omega),<-gqq,gqq (l:=b ++ [t]),gF (by omega),<-gqq];exact h3 i (by omega)
theorem R9(h:w.cells? base y k=some cs):cs.length=k/\∀ j,j<k->∃ v,cs[j]?=some v/\w.cell? (y.add j)=some v:=by
 unfold World.cells? at h;split at h
 · refine⟨by have:=Lib.mapM_length h;simpa using this,fun j a => ?_⟩;obtain⟨b,h1,h2⟩:=Lib.mapM_at h j j (by simp[a]);exact⟨b,h1,h2⟩
 · cases h
theorem Oj:prog.cellsOf 26=2:=by kernel_rfl
theorem KI:prog.cellsOf 9=1:=by kernel_rfl
theorem KJ:prog.cellsOf 3=1:=by kernel_rfl
theorem Ok:prog.cellsOf 24=1:=by kernel_rfl
theorem MM:prog.cellsOf 22=1:=by kernel_rfl
theorem Ol{H:Type}{enc:TypeId×Value->H}{x:DataW H×List MemPlace}
 (h:DataW.trod enc prog w base (fun _=>true) held fuel 24 cs=some x):∃ a n c j,cs=[.slice a n c]/\SlI w a n c j:=by
 rcases open_ints underlying24 underlying3 KJ h with⟨d,_⟩|⟨y,l,c,zs,d,_,e,f,i,_,b,g⟩
 · exact⟨none,0,0,_,d,Ph (zs:=[]) (.inl ⟨rfl,rfl,rfl,rfl⟩)⟩
 · exact⟨_,_,_,_,d,Ph (zs:=zs) (.inr ⟨_,rfl,e,f,by simpa using i,b⟩)⟩
theorem Om{H:Type}{enc:TypeId×Value->H}{x:DataW H×List MemPlace}
 (h:DataW.trod enc prog w base (fun _=>true) held fuel 22 cs=some x):∃ a n c J,cs=[.slice a n c]/\Be w a n c J:=by
 rcases DataW.trod_slice underlying22 h with⟨g,_⟩|⟨y,l,B,C,N,T,_,g,_,U,O,P,L,p,_,_⟩
 · exact⟨none,0,0,[],g,[],SlK.nil w 2,rfl,fun i d=>absurd d (by omega)⟩
 · rw[Oj]at p;have F:∀ i,i<l->∃ (r:List Value) (t:Tx),r.length=2/\Q2 w r t/\∀ j,j<2->w.cell? ((y.add (i*2)).add j)=some (r.getD j undef):=by
    intro i d;have h1:=p i d;rw[oN (by omega),Option.bind_eq_some_iff]at h1;obtain⟨e,h2,h3⟩:=h1;obtain⟨D,f⟩:=R9 h2;obtain⟨W,X,k,_,_,u0,u1⟩:=trod_struct2 underlying26 h3;obtain⟨s,e0,_,_⟩:=DataW.trod_string underlying9 u0;obtain⟨z,G,A,S,K,R⟩:=Ol u1;have m:(e.drop 0).take (prog.cellsOf 9)=[.string s]:=e0;have o:(e.drop 1).take (prog.cellsOf 24)=[.slice z G A]:=K;rw[KI]at m;rw[Ok]at o;clear e0 K u0 u1 h3
    match e,D,m,o with
    | [v0,v1],_,m,o =>
     simp only[iw,kf,nF,jK,kX,iY]at m o;subst m;subst o;refine⟨[.string s,.slice z G A],(Al s,S),rfl,⟨s,z,G,A,rfl,rfl,R⟩,fun j E => ?_⟩;obtain⟨v,h4,h5⟩:=f j E;rw[h5,gqq,h4];rfl
   obtain⟨q,J,h1,h2,h3⟩:=Jv l F;refine⟨some y,l,B,J,g,q,⟨h1,O,P,fun r Q => ?_,fun h0 => ?_⟩,h2,fun i d=>(h3 i d).2.1⟩
   · obtain⟨i,d,rfl⟩:=jC.1 Q;have:=(h3 i (by omega)).1;simpa[d]using this
   · have M:y.spot=none:=by
      have h4:=(h3 0 h0).2.2 0 (by omega);have h5:=G6 h4;simpa[Addr.add]using h5
     obtain⟨b,I,V⟩:=y;simp only at M;subst M;refine⟨b,I,rfl,fun i d j E => ?_⟩;have h4:=(h3 i d).2.2 j E
     rwa[Gi,Gi]at h4
theorem Qs{H:Type}{enc:TypeId×Value->H}{x:DataW H×List MemPlace}
 (h:DataW.trod enc prog w base (fun _=>true) held fuel 28 cs=some x):∃ b a n c i,cs=[.int .i64 b,.slice a n c]/\(-9223372036854775808<=b/\b<=9223372036854775807)/\Be w a n c i:=by
 obtain⟨p,q,k,_,l,u0,u1⟩:=trod_struct2 underlying28 h;obtain⟨b,e0,_,f⟩:=DataW.trod_int underlying3 u0;have g : -9223372036854775808<=b/\b<=9223372036854775807:=by
  simp only[Lit.wf,iH,jP]at f;exact f
 obtain⟨a,n,c,i,j,o⟩:=Om u1;have m:prog.cellsOf 28=2:=by kernel_rfl
 rw[m]at l;have d:(cs.drop 0).take (prog.cellsOf 3)=[.int .i64 b]:=e0;have e:(cs.drop 1).take (prog.cellsOf 22)=[.slice a n c]:=j;rw[KJ]at d;rw[MM]at e;clear e0 j u0 u1 h
 match cs,l,d,e with
 | [v0,v1],_,d,e =>
  simp only[iw,kf,nF,jK,kX,iY]at d e;subst d;subst e;exact⟨b,a,n,c,i,rfl,g,o⟩
end Go.Proofs.YtlbmnokpiilfpaaGreatDoor
namespace Go.Proofs.YtlbmnokpiilfpaaGreatDoor
open Tryz Go Go.RowKit Go.ChangeShapes Go.WideShapes Go.ChangeAt
variable {held:Bool} {cs:List Value} {base c fuel n:Nat} {a:Option Addr} {w:World}
theorem On{H:Type}{enc:TypeId×Value->H}{x:DataW H×List MemPlace}
 (h:DataW.trod enc prog w base (fun _=>true) held fuel 69 cs=some x):∃ a n c s,cs=[.slice a n c]/\Db w a n c s:=by
 rcases open_strings underlying69 underlying9 KI h with⟨f,_⟩|⟨y,l,c,g,f,_,o,p,q,_,d,_⟩
 · exact⟨none,0,0,[],f,[],Sl.nil w,rfl,fun i j=>absurd j (by omega)⟩
 · have r:g.length=c:=by simpa using q
   refine⟨some y,l,c,(g.take l).map Al,f,(g.take l).map Value.string,⟨by simp;omega,o,p,fun t => ?_⟩,by simp;omega,fun i j=>⟨g.getD i ByteArray.empty,?_,?_⟩⟩
   · have h0:=d 0 (by omega);have m:y.spot=none:=G6 (x:=y) (by simpa[Addr.add]using h0);obtain⟨b,k,v⟩:=y;simp only at m;subst m;refine⟨b,k,rfl,fun i j => ?_⟩;have h1:=d i (by omega);rw[Gi]at h1;rw[h1];have e:i<g.length:=by omega
     simp[j,e]
   · have e:i<g.length:=by omega
     simp[j,e]
   · have e:i<g.length:=by omega
     simp[j,e]
theorem Qu{H:Type}{enc:TypeId×Value->H}{x:DataW H×List MemPlace}
 (h:DataW.trod enc prog w base (fun _=>true) held fuel 69 [.slice a n c]=some x):∃ b,Db w a n c b:=by
 obtain⟨f,i,g,b,e,d⟩:=On h;cases e;exact⟨b,d⟩
end Go.Proofs.YtlbmnokpiilfpaaGreatDoor
