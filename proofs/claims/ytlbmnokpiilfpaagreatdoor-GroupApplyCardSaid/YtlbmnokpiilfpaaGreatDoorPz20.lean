/- Part Pz20. -/
import Derived.Test.YtlbmnokpiilfpaaGreatDoorPz12
import Derived.ProofKit
import Derived.Lib.LaidTab
import Derived.Stop.LaidErr
import Derived.MakeChecks
import Derived.SliceStrings
import Derived.Deep.Matrix
set_option linter.all false
set_option maxRecDepth 100000
set_option maxHeartbeats 100000000
namespace Go.Proofs.YtlbmnokpiilfpaaGreatDoor
open Tryz Go Go.RowKit
variable {cs:Array Value} {p q:Int} {gs xss:List (List Int)} {xs:List Int} {c cg n ng:Nat} {a ag:Option Addr} {w:World}
theorem Z4{m:Nat}(q:SlI w a n c xs)(l:m<=6) :
 Calls prog 44 #[.slice a n c,.int .i64 m] w (fun e g=>∃ b d p,e = .returned (.slice b m d)/\Ext w g/\SlI g b m d p/\G1 p=true/\p.length=m):=by
 refine(cV q (by omega)).mono ?_;rintro e s ⟨i,r,j,rfl,k,f⟩;have o:r=m:=by have:=f.sl.len;rw[af]at this;exact this.symm
 subst o;exact⟨i,j,_,rfl,k,f.sl,gT xs l,af xs _⟩
theorem cY{xs:List (List Int)}(f:SlL w a n c xs) :
 Calls prog 41 #[.slice a n c,.int .i64 p,.int .i64 q] w fun e o=>e = .returned (.bool (ZL xs p q))/\w=o:=by
 have A:=f.le;have b:=lz f.len;by_cases z:p<(n:Int)
 · go_enter func41,ntmps41
   go_wp2;go_ret;refine⟨YJ ?_,rfl⟩;have:¬ ((xs.length:Int)<=p):=by have:=b.out;omega
   simp[ZL,this]
 · go_enter func41,ntmps41
   go_wp2
   go_loop[7] (fun i=>∃ k:Nat,k<=n/\i = .int .i64 k/\(xs.take k).all (fun x=>decide ((x.length:Int)<=q))=true) (fun i=>n-(intOf i).toNat)
   case atStart=>exact⟨0,pE _,rfl,rfl⟩
   case round =>
    obtain⟨k,y,rfl,hp⟩:=hrel;have g:=lz hp;clear hp;by_cases d:k<n
    · obtain⟨s,C,r,m,t,rfl,v,s1⟩:=f.at d;have l:=s1.len;have j:=lz l;clear l s1;by_cases B:q<(m:Int)
      · go_wp2;go_ret;refine⟨YJ ?_,rfl⟩;unfold ZL;rw[jm (k:=k) (by have:=b.out;omega) (by rw[j.out];simp;omega)];simp
      · go_wp2;go_round
        case rel=>exact⟨k+1,by omega,by go_num,fL (by have:=b.out;omega) g.out (by rw[j.out];simp;omega)⟩
        case measure=>simp[intOf];omega
    · go_wp2;go_ret;refine⟨YJ ?_,rfl⟩;have h1:=g.out;rw[pu (by have:=b.out;omega)]at h1;have:(xs.length:Int)<=p:=by have:=b.out;omega
      unfold ZL;rw[h1];simp[this]
theorem bU(N:SlL w ag ng cg gs)(J:n<=6)(hp:Zs gs n)(h16:ng<=16)
 (h12:∀ L:List (List Int),L.Nodup->(∀ p,p∈L<->Zz gs n p)->L.length<=12) :
 Calls prog 99 #[.int .i64 n,.slice ag ng cg] w (fun e w'=>∃ o,li w o 0 e w'/\o.Nodup/\(∀ p,p∈o<->Zz gs n p)/\ZK o 0 o.length):=by
 have K:=lz N.len;have y:=lz hp;have z:=lz h12;clear hp h12
 go_enter func99,ntmps99
 go_wp2
 go_loopw[21] (fun i wr=>∃ k:Nat,k<=ng/\i = .int .i64 k/\Ext w wr) (fun i _=>ng-(intOf i).toNat)
 case atStart=>exact⟨0,pE _,rfl,Ext.refl _⟩
 case round =>
  obtain⟨k,W,rfl,D⟩:=hrel;have l:=N.ext D;by_cases c:k<ng
  · obtain⟨R,og,B,m,C,rfl,I,d⟩:=l.at c;have hv:G1 (gs.getD k [])=true:=(y.out _ (by simp[K.out,c])).1;generalize gs.getD k []=gk at *
    go_wp2_with fail
    refine(G4 d).mono ?_;rintro e w1 ⟨rfl,g⟩;go_wp2;go_roundw
    case rel=>exact⟨k+1,by omega,by go_num,D.trans g⟩
    case measure=>simp[intOf];omega
  · obtain⟨O,rfl⟩:∃ O:World,O=wr:=⟨_,rfl⟩;go_wp2
    go_loop[31] (fun i=>∃ k:Nat,k<=ng/\i = .int .i64 k) (fun i=>ng-(intOf i).toNat)
    case atStart=>exact⟨0,pE _,rfl⟩
    case round =>
     clear c;obtain⟨k,W,rfl⟩:=hrel;by_cases c:k<ng
     · obtain⟨R,og,B,m,C,rfl,I,d⟩:=l.at c;have X:(gs.getD k []).length=n:=(y.out _ (by simp[K.out,c])).2;have q:m=n:=by have:=d.len;omega
       have Y:((m:Int) != (n:Int))=false:=by simp[q]
       clear X q d;go_wp2;go_round
       case rel=>exact⟨k+1,by omega,by go_num⟩
       case measure=>simp[intOf];omega
     · go_wp2_with fail
       refine(Z8 l J y.out).mono ?_;rintro e w1 ⟨r,L,rfl,g,hr,U,t,b⟩;have M:=z.out L t b;have F:0<L.length:=rj ((b _).2 (Z1 gs n))
       go_wp2_with fail
       refine(eF U J (fun x Z=>(Zq J y.out ((b x).1 Z)).2) (by omega) F).mono ?_;rintro e w2 ⟨o,⟨Q,n2,T,f,rfl,E,s,G,H⟩,a,v⟩;have A:=lz s;clear s;go_wp2
       go_ret2
       have j:=D.trans g;refine⟨o,⟨Q,n2,T,f,rfl,j.trans E,A.out,Own.mono G j.size,?_⟩,a.nodup_iff.2 t,fun p=>by rw[a.mem_iff,b],by rw[a.length_eq];exact v⟩;intro i V;obtain⟨P,n',S,h1,h2⟩:=H i V;exact⟨P,n',S,h1,Own.mono h2 j.size⟩
def awG:List (List Int):=[[1,2,0]]
def awE:List (List Int):=[[0,1,2],[1,2,0],[2,0,1]]
theorem io(p:List Int):p∈awE<->Zz awG 3 p:=by
 constructor
 · intro h;simp only[awE,qj,rI,vQ]at h;rcases h with rfl|rfl|rfl
   · exact⟨[],by simp,by decide⟩
   · exact⟨[[1,2,0]],by simp[awG],by decide⟩
   · exact⟨[[1,2,0],[1,2,0]],by simp[awG],by decide⟩
 · rintro⟨a,h1,rfl⟩
   induction a with
   | nil=>decide
   | cons g a ih =>
    have b:g=[1,2,0]:=by simpa[awG]using h1 g (by simp)
    have:=ih (fun x c=>h1 x (by simp[c]));subst b;rw[oY];revert this;generalize List.foldr comp (idn 3) a=q;intro this;simp only[awE,qj,rI,vQ]at this;rcases this with rfl|rfl|rfl <;> decide
theorem bQ(a:cs.size=n)(h6:n<=1000000)(h:cs.toList=xs.map (Value.int .i64)):SlI (w.alloc (.cells cs 3)) (some ⟨w.heap.size,0,none⟩) n n xs:=by
 have:=(AB w 0 3 cs n a (pE _) h6).sl;rw[h]at this;exact this
theorem Bu(f:cs.size=n)(h6:n<=1000000)(e:xss.length=n)(h:∀ i,i<n->∃ a c b,cs.toList.getD i undef = .slice a c b/\SlI w a c b (xss.getD i [])) :
 SlL (w.alloc (.cells cs 24)) (some ⟨w.heap.size,0,none⟩) n n xss:=by
 refine⟨e,cs.toList,(AB w 0 24 cs n f (pE _) h6).sl,fun i d => ?_⟩;obtain⟨a,c,b,h1,h2⟩:=h i d;exact⟨a,c,b,h1,h2.ext ((Ext.refl w).alloc _)⟩
theorem gD:∀ L:List (List Int),L.Nodup->(∀ p,p∈L<->Zz awG 3 p)->L.length<=12:=by
 intro L b a;have:=nodup_le L awE b (fun x c=>(io x).2 ((a x).1 c));simp[awE]at this;omega
theorem gE:Zs awG 3:=by
 intro g a;have:g=[1,2,0]:=by simpa[awG]using a
 subst this;exact⟨by decide,rfl⟩
theorem kB:ZK awE 0 awE.length:=by
 intro i j h1 h2 h3;have:j<3:=h3;have:(i=0/\j=1)\/(i=0/\j=2)\/(i=1/\j=2):=by omega
 rcases this with⟨rfl,rfl⟩|⟨rfl,rfl⟩|⟨rfl,rfl⟩ <;> decide
theorem Z7:Calls prog 42 #[] w fun e V=>e = .returned (.bool true)/\Ext w V:=by
 go_enter func42,ntmps42
 go_wp2_with fail
 have s1:SlI ((w.alloc (.cells #[.int .i64 1,.int .i64 0,.int .i64 2] 3)).alloc (.cells #[.int .i64 0,.int .i64 2,.int .i64 1] 3)) (some ⟨w.heap.size,0,none⟩) 3 3 [1,0,2]:=(bQ (w:=w) (cs:=#[.int .i64 1,.int .i64 0,.int .i64 2]) (xs:=[1,0,2]) (n:=3) rfl (by omega) rfl).ext ((Ext.refl _).alloc _);have O:SlI ((w.alloc (.cells #[.int .i64 1,.int .i64 0,.int .i64 2] 3)).alloc (.cells #[.int .i64 0,.int .i64 2,.int .i64 1] 3)) (some ⟨w.heap.size+1,0,none⟩) 3 3 [0,2,1]:=by
  have:=bQ (w:=w.alloc (.cells #[.int .i64 1,.int .i64 0,.int .i64 2] 3)) (cs:=#[.int .i64 0,.int .i64 2,.int .i64 1]) (xs:=[0,2,1]) (n:=3) rfl (by omega) rfl;simpa using this
 have r:Ext w ((w.alloc (.cells #[.int .i64 1,.int .i64 0,.int .i64 2] 3)).alloc (.cells #[.int .i64 0,.int .i64 2,.int .i64 1] 3)):=((Ext.refl w).alloc _).alloc _;refine(eB s1 O).mono ?_;rintro e b ⟨W,n1,Y,rfl,s,p⟩;have B:S2 [1,0,2] [0,2,1]=([1,2,0],0):=by decide
 rw[B]at p |-;have d:=r.trans s;have k:=p.sl;clear s1 O r s p B
 go_wp2_with fail
 have P:SlL ((b.alloc (.cells #[.int .i64 1,.int .i64 2,.int .i64 0] 3)).alloc (.cells #[.slice (some ⟨b.heap.size,0,none⟩) 3 3] 24)) (some ⟨b.heap.size+1,0,none⟩) 1 1 awG:=by
  have:=Bu (w:=b.alloc (.cells #[.int .i64 1,.int .i64 2,.int .i64 0] 3)) (cs:=#[.slice (some ⟨b.heap.size,0,none⟩) 3 3]) (xss:=awG) (n:=1) rfl (by omega) rfl (by
   intro i T;have:i=0:=by omega
   subst this
   exact⟨_,_,_,rfl,bQ (w:=b) (cs:=#[.int .i64 1,.int .i64 2,.int .i64 0]) (xs:=[1,2,0]) (n:=3) rfl (by omega) rfl⟩)
  simpa using this
 have m:Ext b ((b.alloc (.cells #[.int .i64 1,.int .i64 2,.int .i64 0] 3)).alloc (.cells #[.slice (some ⟨b.heap.size,0,none⟩) 3 3] 24)):=((Ext.refl b).alloc _).alloc _;refine(bU (n:=3) P (by omega) gE (by omega) gD).mono ?_;rintro e H ⟨U,⟨X,n2,Z,I,rfl,o,D,y,z⟩,E,g,j⟩;have J:U=awE:=dN E (by decide) (fun x=>by rw[g,io]) j kB;subst J;have l:=gP D y z;have f:=d.trans (m.trans o);have F:=k.ext (m.trans o);clear D y z E g j m o d k P
 go_wp2_with fail
 have c:Ext H (H.alloc (.cells #[.int .i64 1,.int .i64 2,.int .i64 0] 3)):=(Ext.refl H).alloc _;refine(LT (F.ext c) (bQ (w:=H) (cs:=#[.int .i64 1,.int .i64 2,.int .i64 0]) (xs:=[1,2,0]) (n:=3) rfl (by omega) rfl)).mono ?_;rintro e a ⟨rfl,q⟩;have C:decide (([1,2,0]:List Int)=[1,2,0])=true:=by decide
 rw[C];have t:=f.trans (c.trans q.ext);have G:=l.ext (c.trans q.ext);clear f c q F l C
 go_wp2_with fail
 have N:=bQ (w:=a) (cs:=#[.int .i64 0,.int .i64 1,.int .i64 2]) (xs:=[0,1,2]) (n:=3) rfl (by omega) rfl;have K:=bQ (w:=a.alloc (.cells #[.int .i64 0,.int .i64 1,.int .i64 2] 3)) (cs:=#[.int .i64 1,.int .i64 2,.int .i64 0]) (xs:=[1,2,0]) (n:=3) rfl (by omega) rfl;have L:=bQ (w:=(a.alloc (.cells #[.int .i64 0,.int .i64 1,.int .i64 2] 3)).alloc (.cells #[.int .i64 1,.int .i64 2,.int .i64 0] 3)) (cs:=#[.int .i64 2,.int .i64 0,.int .i64 1]) (xs:=[2,0,1]) (n:=3) rfl (by omega) rfl
 have Q:(a.alloc (.cells #[.int .i64 0,.int .i64 1,.int .i64 2] 3)).heap.size=a.heap.size+1:=by simp
 have R:((a.alloc (.cells #[.int .i64 0,.int .i64 1,.int .i64 2] 3)).alloc (.cells #[.int .i64 1,.int .i64 2,.int .i64 0] 3)).heap.size=a.heap.size+1+1:=by simp
 have S:(((a.alloc (.cells #[.int .i64 0,.int .i64 1,.int .i64 2] 3)).alloc (.cells #[.int .i64 1,.int .i64 2,.int .i64 0] 3)).alloc (.cells #[.int .i64 2,.int .i64 0,.int .i64 1] 3)).heap.size=a.heap.size+1+1+1:=by simp
 rw[Q]at K;rw[R]at L
 have M:=Bu (w:=((a.alloc (.cells #[.int .i64 0,.int .i64 1,.int .i64 2] 3)).alloc (.cells #[.int .i64 1,.int .i64 2,.int .i64 0] 3)).alloc (.cells #[.int .i64 2,.int .i64 0,.int .i64 1] 3))
  (cs:=#[.slice (some ⟨a.heap.size,0,none⟩) 3 3,.slice (some ⟨a.heap.size+1,0,none⟩) 3 3,.slice (some ⟨a.heap.size+1+1,0,none⟩) 3 3]) (xss:=awE) (n:=3) rfl (by omega) rfl (by
   intro i T;have:i=0\/i=1\/i=2:=by omega
   rcases this with rfl|rfl|rfl
   · exact⟨_,_,_,rfl,(N.ext ((Ext.refl _).alloc _)).ext ((Ext.refl _).alloc _)⟩
   · exact⟨_,_,_,rfl,K.ext ((Ext.refl _).alloc _)⟩
   · exact⟨_,_,_,rfl,L⟩)
 rw[S]at M;refine(gL (G.ext ((((Ext.refl a).alloc _).alloc _).alloc _ |>.alloc _)) M).mono ?_;rintro e w4 ⟨rfl,A⟩;have C:decide (awE=awE)=true:=by decide
 rw[C];have v:=(t.trans ((((Ext.refl a).alloc _).alloc _).alloc _ |>.alloc _)).trans A.ext;clear N K L Q R S M A G C;go_wp2;go_ret;exact⟨rfl,v⟩
end Go.Proofs.YtlbmnokpiilfpaaGreatDoor
namespace Go.Proofs.YtlbmnokpiilfpaaGreatDoor
open Tryz Go Go.RowKit Go.ChangeShapes Go.WideShapes Go.ChangeAt
variable {x y:Addr} {held:Bool} {zs:List Int} {cs:List Value} {base cap fuel k len:Nat} {a:Option Addr} {v:Value} {w:World}
theorem Mn(h:w.cell? x=some v):x.spot=none:=by
 unfold World.cell? at h;split at h
 · cases a:x.spot with
   | none=>rfl
   | some s=>rw[a]at h;simp at h
 · cases h
theorem KQ{b a i:Nat}:Addr.add ⟨b,a,none⟩ i=⟨b,a+i,none⟩:=by
 unfold Addr.add;split
 · next h=>subst h;rfl
 · rfl
theorem Rw 
 (h:(a=none/\len=0/\cap=0/\zs=[])\/∃ x,a=some x/\len<=cap/\cap<=maxLen/\zs.length=cap/\(∀ i,i<zs.length->w.cell? (x.add i)=some (.int .i64 (zs.getD i 0)))) :
 SlI w a len cap (zs.take len):=by
 rcases h with⟨rfl,rfl,rfl,rfl⟩|⟨x,rfl,h1,h2,h3,h4⟩
 · exact Sl.nil w
 · refine⟨by simp;omega,h1,h2,fun g => ?_⟩;have h0:=h4 0 (by omega);have e:x.spot=none:=Mn (x:=x) (by simpa[Addr.add]using h0);obtain⟨b,d,j⟩:=x;simp only at e;subst e;refine⟨b,d,rfl,fun i f => ?_⟩;have:=h4 i (by omega);rw[KQ]at this;rw[this];have c:i<zs.length:=by omega
   simp[f,c]
theorem KR{Q:Nat->List Value->Tx->Prop}:∀ n:Nat,(∀ i,i<n->∃ r t,Q i r t)->∃ (a:List (List Value)) (b:List Tx),a.length=n/\b.length=n/\∀ i,i<n->Q i (a.getD i []) (b.getD i tm0)
 | 0,_=>⟨[],[],rfl,rfl,fun i c=>absurd c (by omega)⟩
 | n+1,h=>by
  obtain⟨a,b,h1,h2,h3⟩:=KR n (fun i c=>h i (by omega));obtain⟨r,t,h4⟩:=h n (by omega);refine⟨a ++ [r],b ++ [t],by simp[h1],by simp[h2],fun i c => ?_⟩;by_cases e:i=n
  · subst e;have d:(a ++ [r]).getD i []=r:=by rw[gqq,pW (by omega),h1,ro];rfl
    have f:(b ++ [t]).getD i tm0=t:=by rw[gqq,pW (by omega),h2,ro];rfl
    rw[d,f];exact h4
  · rw[gqq,pO (by omega),<-gqq,gqq (l:=b ++ [t]),pO (by omega),<-gqq];exact h3 i (by omega)
theorem Ur(h:w.cells? base y k=some cs):cs.length=k/\∀ j,j<k->∃ v,cs[j]?=some v/\w.cell? (y.add j)=some v:=by
 unfold World.cells? at h;split at h
 · refine⟨by have:=Lib.mapM_length h;simpa using this,fun j a => ?_⟩;obtain⟨b,h1,h2⟩:=Lib.mapM_at h j j (by simp[a]);exact⟨b,h1,h2⟩
 · cases h
theorem Qk:prog.cellsOf 26=2:=by kernel_rfl
theorem SH:prog.cellsOf 9=1:=by kernel_rfl
theorem Mo:prog.cellsOf 3=1:=by kernel_rfl
theorem Ql:prog.cellsOf 24=1:=by kernel_rfl
theorem OU:prog.cellsOf 22=1:=by kernel_rfl
theorem KS{H:Type}{enc:TypeId×Value->H}{x:DataW H×List MemPlace}
 (h:DataW.trod enc prog w base (fun _=>true) held fuel 24 cs=some x):∃ a n c j,cs=[.slice a n c]/\SlI w a n c j:=by
 rcases open_ints underlying24 underlying3 Mo h with⟨d,_⟩|⟨y,l,c,zs,d,_,e,f,i,_,b,g⟩
 · exact⟨none,0,0,_,d,Rw (zs:=[]) (.inl ⟨rfl,rfl,rfl,rfl⟩)⟩
 · exact⟨_,_,_,_,d,Rw (zs:=zs) (.inr ⟨_,rfl,e,f,by simpa using i,b⟩)⟩
theorem Qm{H:Type}{enc:TypeId×Value->H}{x:DataW H×List MemPlace}
 (h:DataW.trod enc prog w base (fun _=>true) held fuel 22 cs=some x):∃ a n c J,cs=[.slice a n c]/\AH w a n c J:=by
 rcases DataW.trod_slice underlying22 h with⟨g,_⟩|⟨y,l,B,C,N,T,_,g,_,U,O,P,L,p,_,_⟩
 · exact⟨none,0,0,[],g,[],SlK.nil w 2,rfl,fun i d=>absurd d (by omega)⟩
 · rw[Qk]at p;have F:∀ i,i<l->∃ (r:List Value) (t:Tx),r.length=2/\Sh w r t/\∀ j,j<2->w.cell? ((y.add (i*2)).add j)=some (r.getD j undef):=by
    intro i d;have h1:=p i d;rw[oO (by omega),Option.bind_eq_some_iff]at h1;obtain⟨e,h2,h3⟩:=h1;obtain⟨D,f⟩:=Ur h2;obtain⟨W,X,k,_,_,u0,u1⟩:=trod_struct2 underlying26 h3;obtain⟨s,e0,_,_⟩:=DataW.trod_string underlying9 u0;obtain⟨z,G,A,S,K,R⟩:=KS u1;have m:(e.drop 0).take (prog.cellsOf 9)=[.string s]:=e0;have o:(e.drop 1).take (prog.cellsOf 24)=[.slice z G A]:=K;rw[SH]at m;rw[Ql]at o;clear e0 K u0 u1 h3
    match e,D,m,o with
    | [v0,v1],_,m,o =>
     simp only[qN,sO,oB,rf,tI,qO]at m o;subst m;subst o;refine⟨[.string s,.slice z G A],(An s,S),rfl,⟨s,z,G,A,rfl,rfl,R⟩,fun j E => ?_⟩;obtain⟨v,h4,h5⟩:=f j E;rw[h5,gqq,h4];rfl
   obtain⟨q,J,h1,h2,h3⟩:=KR l F;refine⟨some y,l,B,J,g,q,⟨h1,O,P,fun r Q => ?_,fun h0 => ?_⟩,h2,fun i d=>(h3 i d).2.1⟩
   · obtain⟨i,d,rfl⟩:=r9.1 Q;have:=(h3 i (by omega)).1;simpa[d]using this
   · have M:y.spot=none:=by
      have h4:=(h3 0 h0).2.2 0 (by omega);have h5:=Mn h4;simpa[Addr.add]using h5
     obtain⟨b,I,V⟩:=y;simp only at M;subst M;refine⟨b,I,rfl,fun i d j E => ?_⟩;have h4:=(h3 i d).2.2 j E
     rwa[KQ,KQ]at h4
theorem Dl{H:Type}{enc:TypeId×Value->H}{x:DataW H×List MemPlace}
 (h:DataW.trod enc prog w base (fun _=>true) held fuel 28 cs=some x):∃ b a n c i,cs=[.int .i64 b,.slice a n c]/\(-9223372036854775808<=b/\b<=9223372036854775807)/\AH w a n c i:=by
 obtain⟨p,q,k,_,l,u0,u1⟩:=trod_struct2 underlying28 h;obtain⟨b,e0,_,f⟩:=DataW.trod_int underlying3 u0;have g : -9223372036854775808<=b/\b<=9223372036854775807:=by
  simp only[Lit.wf,qQ,qX]at f;exact f
 obtain⟨a,n,c,i,j,o⟩:=Qm u1;have m:prog.cellsOf 28=2:=by kernel_rfl
 rw[m]at l;have d:(cs.drop 0).take (prog.cellsOf 3)=[.int .i64 b]:=e0;have e:(cs.drop 1).take (prog.cellsOf 22)=[.slice a n c]:=j;rw[Mo]at d;rw[OU]at e;clear e0 j u0 u1 h
 match cs,l,d,e with
 | [v0,v1],_,d,e =>
  simp only[qN,sO,oB,rf,tI,qO]at d e;subst d;subst e;exact⟨b,a,n,c,i,rfl,g,o⟩
end Go.Proofs.YtlbmnokpiilfpaaGreatDoor
namespace Go.Proofs.YtlbmnokpiilfpaaGreatDoor
open Tryz Go Go.RowKit Go.ChangeShapes Go.WideShapes Go.ChangeAt
variable {held:Bool} {base c fuel n:Nat} {a:Option Addr} {w:World}
theorem Qz{H:Type}{enc:TypeId×Value->H}{x:DataW H×List MemPlace}
 (h:DataW.trod enc prog w base (fun _=>true) held fuel 24 [.slice a n c]=some x):∃ b,SlI w a n c b:=by
 obtain⟨f,i,g,b,e,d⟩:=KS h;cases e;exact⟨b,d⟩
end Go.Proofs.YtlbmnokpiilfpaaGreatDoor
namespace Go.Proofs.YtlbmnokpiilfpaaGreatDoor
open Tryz Go Go.RowKit
variable {held:Bool} {base c fuel n:Nat} {a:Option Addr} {P:Program} {e q t:TypeId} {w:World}
theorem jS{H:Type}{enc:TypeId×Value->H}{x:DataW H×List MemPlace}
 (K:P.underlying t=some (.slice e)) (he:P.underlying e=some (.slice q)) (J:P.underlying q=some (.int .i64)) (z:P.cellsOf e=1) (B:P.cellsOf q=1)
 (h:DataW.trod enc P w base (fun _=>true) held fuel t [.slice a n c]=some x):∃ o,SlL w a n c o:=by
 rcases Deep.open_int_rows K he J z B h with⟨d,_⟩|⟨y,M,v,A,L,C,Z,d,_,F,G,_,m⟩
 · simp only[tI,pI,qO]at d;obtain⟨rfl,rfl,rfl⟩:=d;exact⟨[],rfl,[],Sl.nil w,fun i g=>by omega⟩
 · simp only[tI,pI,qO]at d;obtain⟨rfl,rfl,rfl⟩:=d;refine⟨(List.range n).map (fun r=>(Z r).take (L r)),by simp,(List.range n).map (fun r => .slice (A r) (L r) (C r)),⟨by simp,F,G,fun I => ?_⟩,fun i g => ?_⟩
   · have h0:=(m 0 (by omega)).1;have k:y.spot=none:=Mn (x:=y) (by simpa[Addr.add]using h0);obtain⟨b,f,N⟩:=y;simp only at k;subst k;refine⟨b,f,rfl,fun i g => ?_⟩;have:=(m i (by omega)).1;rw[KQ]at this;rw[this];simp[g]
   · obtain⟨_,h2,h3,h4,_,h6,h7⟩:=m i (by omega);refine⟨A i,L i,C i,by simp[g],?_⟩;have D:((List.range n).map (fun r=>(Z r).take (L r))).getD i []=(Z i).take (L i):=by simp[g]
     rw[D];refine⟨by simp;omega,h2,h3,fun I => ?_⟩;cases p:A i with
     | none=>have:=h6 p;omega
     | some a' =>
      have s:=(h7 a' p).2;have k:a'.spot=none:=Mn (x:=a') (by simpa[Addr.add]using s 0 (by omega));obtain⟨b,f,N⟩:=a';simp only at k;subst k;refine⟨b,f,rfl,fun j E => ?_⟩;have:=s j (by omega);rw[KQ]at this;rw[this];have l:j<(Z i).length:=by omega
      simp[E,l]
theorem ic{H:Type}{enc:TypeId×Value->H}{x:DataW H×List MemPlace}
 (h:DataW.trod enc prog w base (fun _=>true) held fuel 54 [.slice a n c]=some x):∃ b,SlL w a n c b :=
 jS underlying54 underlying24 underlying3 (by kernel_rfl) (by kernel_rfl) h
end Go.Proofs.YtlbmnokpiilfpaaGreatDoor
