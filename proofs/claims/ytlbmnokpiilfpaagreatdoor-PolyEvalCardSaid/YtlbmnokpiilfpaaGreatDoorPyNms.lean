/- Part PyNms. -/
import Derived.Test.YtlbmnokpiilfpaaGreatDoorPy12
import Derived.Test.YtlbmnokpiilfpaaGreatDoorPyNu6
import Derived.Test.YtlbmnokpiilfpaaGreatDoorPy17

set_option linter.all false
set_option maxRecDepth 100000
set_option maxHeartbeats 100000000
namespace Go.Proofs.YtlbmnokpiilfpaaGreatDoor
open Tryz Go Go.RowKit
variable {c n:Nat} {a:Option Addr} {w:World}
def QC(w:World)(cs:List Value)(q:Rat):Prop:=∃ s a n c b m d,cs=Ah s a n c false b m d/\Hid (decide (q.num<0)=s)/\Mg w a n c q.num.natAbs/\Mg w b m d (AN q).natAbs
theorem QC.ext{w f:World}{cs:List Value}{q:Rat}(h:QC w cs q)(e:Ext w f):QC f cs q:=by
 obtain⟨s,a,n,c,b,m,d,h1,h2,h3,h4⟩:=h;exact⟨s,a,n,c,b,m,d,h1,h2,h3.ext e,h4.ext e⟩
theorem QC.kept{w l:World}{g:Nat}{t:TypeId}{e:Array Value}{f:Nat×Nat}{row:List Value}{q:Rat}(h:QC w row q)(o:w.heap[g]?=some (.cells e t f))(hu:241≠t)(j:w.grownBy l (some g)):QC l row q:=by
 obtain⟨s,a,n,c,b,m,d,h1,h2,h3,h4⟩:=h
 have k:∀ i,some g=some i->∃ e t f,w.heap[i]?=some (.cells e t f)/\241≠t:=fun i he=>by
  injection he with he;subst he;exact⟨_,_,_,o,hu⟩
 exact⟨s,a,n,c,b,m,d,h1,h2,h3.kept j k,h4.kept j k⟩
def QSl(w:World)(a:Option Addr)(n c:Nat)(l:List Rat):Prop:=∃ rows,SlK w 4 a n c rows/\l.length=n/\∀ i,i<n->QC w (rows.getD i []) (l.getD i 0)
theorem QSl.ext{w d:World}{a:Option Addr}{n c:Nat}{l:List Rat}(h:QSl w a n c l)(e:Ext w d):QSl d a n c l:=by
 obtain⟨b,h1,h2,h3⟩:=h;exact⟨b,h1.ext e,h2,fun i f=>(h3 i f).ext e⟩
theorem QSl.nil(w:World):QSl w none 0 0 []:=⟨[],SlK.nil w 4,rfl,fun i a=>absurd a (by omega)⟩
theorem QSl.len{l:List Rat}(h:QSl w a n c l):l.length=n:=h.choose_spec.2.1
theorem QSl.row{l:List Rat}(h:QSl w a n c l){i:Nat}(hi:i<n):∃ b e d s f o j g m k,a=some ⟨b,e,none⟩/\SlK w 4 a n c d/\d.getD i []=Ah s f o j false g m k/\Hid (decide ((l.getD i 0).num<0)=s)/\Mg w f o j (l.getD i 0).num.natAbs/\Mg w g m k (AN (l.getD i 0)).natAbs:=by
 obtain⟨d,h1,h2,h3⟩:=h;obtain⟨b,e,p,-⟩:=h1.rd (by omega);obtain⟨s,f,o,j,g,m,k,h4,h5⟩:=h3 i hi;exact⟨b,e,d,s,f,o,j,g,m,k,p,h1,h4,h5⟩
theorem Vt:BT prog 99 (Ah false none 0 0 false none 0 0) 4 64:=⟨by kernel_rfl,rfl,by omega⟩
def Wc(w:World)(o:Option (List Rat))(e:Ending)(w':World):Prop:=∃ a n c,e = .returned (.tuple #[.slice a n c,.bool o.isSome])/\Ext w w'/\QSl w' a n c (o.getD [])
theorem ST{l:List (List UInt8)}(h:Db w a n c l)(hs:∀ t∈l,t.length<=570)(hn:n<=1000000) :
 Calls prog 125 #[.slice a n c] w (Wc w (rdAll l)):=by
 obtain⟨cs,hS,hl,Z⟩:=h;have HQ:=qh Z;have J:=qh hl;have HS:=qh hs;clear Z hl hs;obtain⟨r,R⟩:∃ r,rdAll l=r:=⟨_,rfl⟩;rw[R];have HR:=qh R;clear R
 go_enter func125,ntmps125
 go_upto_region 2 with(refine ED rfl rfl (by kernel_rfl) Vt rfl rfl (by omega) (by unfold maxLen;omega) ?_;intro w1 M K)
 go_wp2
 go_loopw[5] (fun iv wr=>∃ (k:Nat) (T:List (List Value)),iv = .int .i64 k/\k<=n/\Ext w wr/\AP wr w.heap.size 99 4 (some ⟨w.heap.size,0,none⟩) n n T/\Hid (∀ i,i<k->(AJ (l.getD i [])).isSome=true)/\Hid (∀ i,i<k->QC wr (T.getD i []) ((AJ (l.getD i [])).getD 0))) (fun iv _=>n-(intOf iv).toNat)
 case atStart=>exact⟨0,_,rfl,oY _,K,M,qh (fun i g=>absurd g (by omega)),qh (fun i g=>absurd g (by omega))⟩
 case round =>
  clear M K;obtain⟨k,T,rfl,hk,W,Y,HK,HC⟩:=hrel;by_cases f:k<n
  · have N:=hS.ext W;obtain⟨b,ab,rfl,O⟩:=N.rd (by omega);obtain⟨s,P,C⟩:=HQ.out k f;have c0:=O k f;rw[P]at c0;have aa:s.size<=570:=by
     rw[<-Ax,C];exact HS.out _ (by simp[J.out,f])
    have B:=MJ (w:=wr) (s:=s) (by omega);rw[C]at B;have p:=qh B;clear B O P C N;obtain⟨o,V⟩:∃ o,Hid (AJ (l.getD k [])=o):=⟨_,qh rfl⟩;rw[V.out]at p
    go_wp2_with fail
    refine p.out.mono ?_;rintro e U ⟨s1,D,I,F,E,H,G,rfl,v,S⟩;have a8:(Ah s1 D I F false E H G).toArray=#[.bool s1,.slice D I F,.bool false,.slice E H G]:=rfl;have hY:=Arr.new U 99 (Ah false none 0 0 false none 0 0)
    go_upto_region 6 with(refine Aa (vs:=Ah s1 D I F false E H G) rfl rfl rfl rfl rfl AE hY rfl (Ag _ _ _ _ _ _ _ _) ?_;intro w3 m Q)
    have x:Ext U w3:=((Ext.refl U).alloc _).grownR Q (lrf _);have d:=v.trans x;have L:=W.trans d;have y:=Y.ext d;have a3:=qh (y.len (by omega));have a0:Hid (∀ i,i<k->QC w3 (T.getD i []) ((AJ (l.getD i [])).getD 0)):=qh fun i g=>(HC.out i g).ext d;have a2:Hid (∀ q,o=some q->QC w3 (Ah s1 D I F false E H G) q):=qh fun q Z=>QC.ext ⟨s1,D,I,F,E,H,G,rfl,S q Z⟩ x;have a9:w.heap.size<U.heap.size:=((Y.ext v).lt rfl).2;clear hY Q Y W v x d S HC p c0;obtain⟨a6,a7,j⟩:=y.ty rfl;have j:=qh j
    generalize U.heap.size=X at *
    have x0:=m.c 0 rfl;have x1:=m.c 1 rfl;have x2:=m.c 2 rfl;have x3:=m.c 3 rfl;cases o with
    | none =>
     go_wp2
     go_ret2
     have:r=none:=by
      rw[<-HR.out];unfold rdAll;rw[pf];intro h;have:=h k (by rw[J.out];exact f);rw[V.out]at this;simp at this
     rw[this];exact⟨none,0,0,rfl,L,QSl.nil _⟩
    | some q =>
     go_wp2_with(refine Hk (vs:=Ah s1 D I F false E H G) rfl rfl (by omega) AE rfl rfl rfl y f rfl (Ag _ _ _ _ _ _ _ _) ?_;intro w4 a4 z)
     go_roundw
     case rel =>
      refine⟨k+1,_,by go_num,by omega,L.grownR z (lrf _),a4,qh fun i g => ?_,qh fun i g => ?_⟩
      · by_cases A:i=k
        · subst A;rw[V.out];rfl
        · exact HK.out i (by omega)
      · by_cases A:i=k
        · subst A;rw[V.out,gqq,jH (by rw[a3.out];exact f)];exact(a2.out q rfl).kept j.out (by decide) z
        · rw[gqq,iO (by omega),<-gqq];exact(a0.out i (by omega)).kept j.out (by decide) z
     case measure=>simp[intOf];omega
  · have a5:k=n:=by omega
    subst a5;go_wp2
    go_ret2
    have R:r=some (l.map (fun t=>(AJ t).getD 0)):=by
     rw[<-HR.out];unfold rdAll;rw[pq];intro i g;exact HK.out i (by rw[<-J.out];exact g)
    rw[R];refine⟨_,_,_,rfl,W,T,Y.slk (by omega),by simp[J.out],fun i g => ?_⟩;have:=HC.out i g;simpa[J.out,g]using this
end Go.Proofs.YtlbmnokpiilfpaaGreatDoor
