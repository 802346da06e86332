/- Part PaRal. -/
import Derived.Test.YthdbingomfdeoaaGreatDoorPa11

set_option linter.all false
set_option maxRecDepth 100000
set_option maxHeartbeats 100000000
namespace Go.Proofs.YthdbingomfdeoaaGreatDoor
open Tryz Go Go.RowKit
variable {cs:Array Value} {va:Int} {rows:List (List Value)} {b0 base c d m n:Nat} {A a a':Option Addr} {t:TypeId} {w w' wA:World}
theorem N6:Bu prog 65 [.int .i64 0,.slice none 0 0] 2 32:=⟨by kernel_rfl,rfl,by omega⟩
abbrev PRz:Int×List Pl.Tm:=(0,[])
def PRO(w:World)(b0 base:Nat)(a:Option Addr)(n c:Nat)(ls:List (Int×List Pl.Tm)):Prop:=∃ rows,AE w base 65 2 a n c rows/\ls.length=n/\∀ i,i<n->∃ A m d,rows.getD i []=pL (ls.getD i PRz).1 A m d/\TO w b0 base A m d (ls.getD i PRz).2
theorem PRO.ext{w f:World}{b0 base:Nat}{a:Option Addr}{n c:Nat}{ls:List (Int×List Pl.Tm)}(h:PRO w b0 base a n c ls)(e:Ext w f):PRO f b0 base a n c ls:=by
 obtain⟨b,h1,h2,h3⟩:=h;exact⟨b,h1.ext e,h2,fun i g=>by obtain⟨A,m,d,j,k⟩:=h3 i g;exact⟨A,m,d,j,k.ext e⟩⟩
theorem PRO.nil(w:World)(b0 base:Nat):PRO w b0 base none 0 0 []:=⟨[],AE.nil _ _ _ _,rfl,fun i a=>absurd a (by omega)⟩
theorem PRO.mono{w:World}{b0 base b:Nat}{a:Option Addr}{n c:Nat}{ls:List (Int×List Pl.Tm)}(h:PRO w b0 base a n c ls)(f:b<=base):PRO w b0 b a n c ls:=by
 obtain⟨e,h1,h2,h3⟩:=h;exact⟨e,h1.mono f,h2,fun i g=>by obtain⟨A,m,d,j,k⟩:=h3 i g;exact⟨A,m,d,j,k.mono f⟩⟩
theorem TO.keptC{g:Nat}{m:Nat×Nat}{l:List Pl.Tm}(h:TO w b0 base a n c l)(e:w.heap[g]?=some (.cells cs t m))(h1:111≠t)(h2:3≠t)(h3:187≠t)(p:b0<=g)(f:w.grownBy w' (some g)):TO w' b0 base a n c l:=by
 obtain⟨b,j,s,v⟩:=h;refine⟨b,j.kept f ?_,s,fun i r=>(v i r).kept e h2 h3 p f⟩;cases d:blk a with
 | none=>exact .inl rfl
 | some q =>
  refine .inr fun he => ?_;obtain⟨k,o,h4⟩:=j.ty d;injection he with he;subst he;rw[e]at h4;simp only[fc,jp]at h4;exact h1 h4.2.1.symm
theorem PRO.grow{c':Nat}{ls:List (Int×List Pl.Tm)}{p:Int×List Pl.Tm}(r:AE w base 65 2 a n c rows)(s:ls.length=n)(C:∀ i,i<n->∃ A m d,rows.getD i []=pL (ls.getD i PRz).1 A m d/\TO w b0 base A m d (ls.getD i PRz).2)(F:TO w b0 base A m d p.2)
 (B:AE w' base 65 2 a' (n+1) c' (rows ++ [pL p.1 A m d])) (D:b0<=base) (j:w.grownBy w' (blk a)):PRO w' b0 base a' (n+1) c' (ls ++ [p]):=by
 have b:∀ {k:Option Addr} {v l:Nat} {t:List Pl.Tm},TO w b0 base k v l t->TO w' b0 base k v l t:=fun {k v l t} h=>by
  cases e:blk a with
  | none=>rw[e]at j;exact h.ext (DK j)
  | some g =>
   rw[e]at j;obtain⟨J,K,E⟩:=r.ty e;exact h.keptC E (by decide) (by decide) (by decide) (eW D (r.lt e).1) j
 have x:=r.len (by omega);refine⟨_,B,by simp[s],fun i L => ?_⟩;by_cases f:i<n
 · have o:(rows ++ [pL p.1 A m d]).getD i []=rows.getD i []:=by simp[f4,x,f]
   have q:(ls ++ [p]).getD i PRz=ls.getD i PRz:=by simp[f4,s,f]
   rw[o,q];obtain⟨y,G,z,H,I⟩:=C i f;exact⟨y,G,z,H,b I⟩
 · have:i=n:=by omega
   subst this;have o:(rows ++ [pL p.1 A m d]).getD i []=pL p.1 A m d:=by simp[<-x]
   have q:(ls ++ [p]).getD i PRz=p:=by simp[<-s]
   rw[o,q];exact⟨A,m,d,rfl,b F⟩
noncomputable def rdAllR (ps:List (Int×List Tx)):Option (List (Int×List Pl.Tm)):=if ∀ p∈ps,(rdR p.1 p.2).isSome=true then some (ps.map fun p=>(p.1,p.2.map rdU))else none
def Ve(b0:Nat)(w:World)(o:Option (List (Int×List Pl.Tm)))(e:Ending)(w':World):Prop:=∃ a n c,e = .returned (.tuple #[.slice a n c,.bool o.isSome])/\Ext w w'/\PRO w' b0 w.heap.size a n c (o.getD [])
theorem LF{ts:List Tx}{l:List Pl.Tm}(h:rdR va ts=some l):l=ts.map rdU:=by
 unfold rdR at h;split at h
 · exact KZ h
 · cases h
theorem Fr{ps:List (Int×List Tx)}(h:PSl wA A n c ps)(hA:Ext wA w)(hs:∀ p∈ps,∀ t∈p.2,t.1.length<=10000)(hn:n<=1000) :
 Calls prog 29 #[.slice A n c] w (Ve wA.heap.size w (rdAllR ps)):=by
 obtain⟨ah,hS,D,a5⟩:=h;have aa:=qh a5;have HL:=qh D;have HS:=qh hs;obtain⟨ro,K⟩:∃ r,rdAllR ps=r:=⟨_,rfl⟩;rw[K];have f:=qh K;have ae:=hA.size;clear a5 D hs K
 go_enter func29,ntmps29
 go_wp2
 go_loopw[4,5] (fun ov iv wr=>∃ (k:Nat) (ao:Option Addr) (co:Nat),ov = .slice ao k co/\iv = .int .i64 k/\k<=n/\Ext w wr/\PRO wr wA.heap.size w.heap.size ao k co ((ps.take k).map fun p=>(p.1,p.2.map rdU))/\Hid (∀ p∈ps.take k,(rdR p.1 p.2).isSome=true)) (fun _ iv _=>n-(intOf iv).toNat)
 case atStart=>exact⟨0,none,0,rfl,rfl,f8 _,Ext.refl _,by rw[gZ];exact PRO.nil _ _ _,qh (by simp)⟩
 case round =>
  obtain⟨k,ao,co,rfl,rfl,hk,R,hP,P⟩:=hrel;by_cases z:k<n
  case neg =>
   have af:k=n:=by omega
   have HZ:Hid (ro=some (ps.map fun p=>(p.1,p.2.map rdU))):=qh (by
    have h1:=P.out;rw[eR (by rw[HL.out];omega)]at h1;rw[<-f.out]
    exact fE h1)
   rw[eR (by rw[HL.out];omega)]at hP;subst af;clear P f;go_wp2
   go_ret2
   refine⟨ao,k,co,by rw[HZ.out];rfl,R,by rw[HZ.out];exact hP⟩
  have a0:=(hS.ext hA).ext R;obtain⟨bq,a8,rfl,G⟩:=a0.rd (by omega);obtain⟨A1,m1,d1,a,F⟩:=aa.out k z;have y:k<ps.length:=by rw[HL.out];exact z
  obtain⟨p,hp⟩:∃ p,ps.getD k pz=p:=⟨_,rfl⟩;have I:p∈ps:=by
   rw[<-hp,gqq,eQ y];exact fu _
  have a6:ps.take (k+1)=ps.take k ++ [p]:=by
   rw[eU y,<-hp];simp[y]
  rw[hp]at a F;have c0:wr.cell? ⟨bq,a8+k*2,none⟩=some (.int .i64 p.1):=by have:=G k z 0 (by omega);rw[a]at this;exact this
  have c1:wr.cell? ⟨bq,a8+k*2+1,none⟩=some (.slice A1 m1 d1):=by have:=G k z 1 (by omega);rw[a]at this;exact this
  have J:=qh (Iu (vars:=p.1) F (hA.trans R) (HS.out p I));obtain⟨o,ho⟩:∃ o,rdR p.1 p.2=o:=⟨_,rfl⟩;rw[ho]at J;have HO:=qh ho;have Q:=qh a6;have a9:=qh I;clear G a F y hp I a6 ho a0
  go_wp2_with fail
  refine J.out.mono ?_;rintro e w1 ⟨L,N,M,rfl,T,ab⟩;clear J;have hY:=Arr.new w1 65 (pL 0 none 0 0);have B:=R.trans T;have Z:=hP.ext T;clear hP c0 c1;cases o with
  | none =>
   have HN:Hid (ro=none):=qh (by
    rw[<-f.out];refine fl fun h => ?_;have h1:=h p a9.out;rw[HO.out]at h1
    cases h1)
   simp only[l8,iz,ja];clear P f
   go_wp2_with(refine Aa (vs:=pL 0 L N M) rfl rfl rfl rfl rfl Av hY rfl (AX _ _ _ _) ?_;intro O b v)
   go_ret2
   refine⟨none,0,0,by rw[HN.out];rfl,B.trans (((Ext.refl w1).alloc _).grownR v (lrf _)),by rw[HN.out];exact PRO.nil _ _ _⟩
  | some l =>
   have a4:l=p.2.map rdU:=LF HO.out
   have HN:Hid (∀ q∈ps.take (k+1),(rdR q.1 q.2).isSome=true):=qh fun q hq=>by
    rw[Q.out]at hq;rcases fo.1 hq with h|h
    · exact P.out q h
    · rw[eV.1 h,HO.out];rfl
   simp only[kE,j0];clear P
   go_upto_region 6 with(refine Aa (vs:=pL p.1 L N M) rfl rfl rfl rfl rfl Av hY rfl (AX _ _ _ _) ?_;intro O b v)
   have j:Ext w1 O:=((Ext.refl w1).alloc _).grownR v (lrf _);obtain⟨X,hX⟩:∃ x,w1.heap.size=x:=⟨_,rfl⟩;rw[hX]at b |-;have y0:=b.c 0 rfl;have y1:=b.c 1 rfl;have C:=B.trans j;have W:=(ab.mono R.size).ext j;obtain⟨rs,U,a3,a2⟩:=Z.ext j;have E:=qh (And.intro a3 a2);have s:=U.ext ((Ext.refl O).alloc (.cells #[.int .i64 p.1,.slice L N M] 65));have V:=BA (k:=2) (Arr.new O 65 [.int .i64 p.1,.slice L N M]) rfl;have ag:=C.size;clear hY v b hX Z a3 a2 j
   go_wp2_with(refine CC rfl rfl (by kernel_rfl) N6 rfl s rfl V (by intro r hr u hu;rw[eV.1 hr]at hu;exact AX p.1 L N M u hu) (by unfold maxLen;omega) (by omega) (by simp;omega) ?_;intro a7 c7 w7 Y H ad)
   have S:Ext w w7:=(C.alloc _).grown H (fun g hg=>(s.lt hg).1);have ac:PRO w7 wA.heap.size w.heap.size a7 (k+1) c7 ((ps.take (k+1)).map fun p=>(p.1,p.2.map rdU)):=by
    rw[Q.out,fM,gM,ix];refine PRO.grow (A:=L) (m:=N) (d:=M) s E.out.1 (fun i hi => ?_) ?_ Y ae H
    · obtain⟨A3,m3,d3,q1,q2⟩:=E.out.2 i hi;exact⟨A3,m3,d3,q1,q2.ext ((Ext.refl O).alloc _)⟩
    · show TO _ _ _ _ _ _ (p.2.map rdU);rw[<-a4];exact W.ext ((Ext.refl O).alloc _)
   clear Y H ad s V W U E y0 y1 a4;go_roundw
   case rel=>exact⟨k+1,a7,c7,rfl,by go_num,by omega,S,ac,HN⟩
   case measure=>simp[intOf];omega
end Go.Proofs.YthdbingomfdeoaaGreatDoor
