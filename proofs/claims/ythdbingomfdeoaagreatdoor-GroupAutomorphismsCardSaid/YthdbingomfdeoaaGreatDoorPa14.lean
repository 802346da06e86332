/- Part Pa14. -/
import Derived.Test.YthdbingomfdeoaaGreatDoorPa13
import Derived.Test.YthdbingomfdeoaaGreatDoorPaRpm
import Derived.ProofKit
import Derived.Lib.LaidTab
import Derived.Stop.LaidErr
import Derived.MakeChecks
set_option linter.all false
set_option maxRecDepth 100000
set_option maxHeartbeats 100000000
namespace Go.Proofs.YthdbingomfdeoaaGreatDoor
open Tryz Go Go.RowKit
variable {cs:Array Value} {er va:Int} {L gs xss:List (List Int)} {R1 R2 r rows s:List (List Value)} {xs:List Int} {c c1 c2 cg k n n1 n2 ng:Nat} {o:Oper} {a a1 a2 ag:Option Addr} {t:TypeId} {w w' w0:World}
theorem Fi{r:Nat}(hM:AB w r (Cj L))(hn:n<=6)(hL:∀ x∈L,x.length=n)(h12:L.length<=1000)(h1:0<L.length) :
 Calls prog 27 #[.int .i64 n,.map (some r)] w (fun e w'=>∃ ps,UU w ps e w'/\ps.Perm L/\Ed ps 0 L.length):=by
 have HL:=eP hL;have ae:(Cj L).length=L.length:=by simp[Cj]
 have F:=eP ae;clear hL ae
 go_enter func27,ntmps27
 go_wp2_with(refine QI rfl rfl EQ rfl hM ?_;intro w1 d R ai)
 have N:AF w1 w.heap.size r L.length []:=by rw[<-F.out];exact d
 go_frame
 go_loopw[5] (fun v wr=>SoR w L r w.heap.size v wr) (fun _ wr=>L.length-FW wr w.heap.size)
 case atStart=>exact⟨[],none,0,0,[],rfl,rfl,R,lrf _,hM.ext R,N,by simp,by simp,Own.nil _ _ _,fun i hi=>by simp at hi⟩
 case round =>
  clear d N R ai;obtain⟨c,al,nl,cl,Q,rfl,ag,hE,aC,z,d,E,D,hO,hQ⟩:=hrel;have o:=eP ag;clear ag;rw[<-F.out]at d;by_cases A:∀ i,i<(Cj L).length->i∈c
  · obtain⟨C,l⟩:=Q5 E D (fun i hi=>A i (by rw[F.out];exact hi));have aj:0<nl:=by rw[o.out,l];exact h1
    obtain⟨g,rfl,aG,q⟩:=hO.place aj;have hS:Srt wr w.heap.size g nl cl (c.map (fun i=>L.getD i [])):=⟨by rw[ft];exact o.out.symm,Q,hO,hQ⟩;have B:nl<=1000:=by rw[o.out,l];exact h12
    have ao:=eP l;have an:=eP C;clear l C
    go_wp2_with(refine Oe rfl rfl rfl z d (fun _ => ?_) (fun i _ _ _ h1 h2 _ _ _=>absurd (A i h1) h2))
    refine(K9 hS B).mono ?_;rintro e X ⟨rfl,ps,az,aE,ak,aB⟩;go_wp2;go_ret;obtain⟨aD,H,I,J⟩:=az;refine⟨ps,⟨_,_,_,H,rfl,hE.grown aB (by intro k t;simp at t;omega),aD.symm,I,J⟩,aE.1.trans an.out,?_⟩;rw[<-ao.out,<-o.out];exact ak
  · have hz:=hE.size;have ap:Hid (FW wr w.heap.size=c.length):=Iy d
    go_upto_region 4 with(refine Oe rfl rfl rfl z d (fun h=>absurd h A) ?_;intro i k v X aH ad af U q)
    obtain⟨W,t⟩:=Q6 af;have K:(L.getD i []).length=n:=HL.out _ (by simp[W]);have V:=z.kept q (LU z d);have I:=hO.kept q (Da hO d);have J:=hQ.kept q (fun _ _ _ _ h=>Da h d);have a2:Ext w X:=hE.grown q (by intro k t;simp at t;omega);have hA:=Arr.new X 57 As;have Z:Agg prog 57 (k.map (Value.int .i64)).length:=by
     rw[ft,t,AV (by rw[K];exact hn)];exact C8
    have ah:As.length=(k.map (Value.int .i64)).length:=by
     rw[ft,t,AV (by rw[K];exact hn)];rfl
    have G:=eP ah;have HK:=eP t;have am:=eP K;clear ah t K z hO hQ hE d q
    go_upto_region 5 with(first
     | (refine QJ rfl rfl rfl V U af ?_)
     | (refine Aa rfl rfl rfl rfl rfl Z hA G.out (BN _) ?_;intro w3 a0 ac))
    go_frame
    have f:Ext X w3:=((Ext.refl X).alloc (.cells As.toArray 57)).grown ac (by intro k t;simp at t;omega);have O:SlI w3 (some ⟨X.heap.size,0,none⟩) n 6 (L.getD i []):=by
     have h1:=a0.sl (k:=n) (by rw[<-G.out];exact hn) (by rw[<-G.out];unfold maxLen;decide);rw[<-G.out,HK.out,<-lR]at h1;have h2:=GT (L.getD i []);rw[am.out]at h2;rw[h2]at h1;exact h1
    have S:=a2.trans f;have a6:=V.ext f;have a3:=U.ext f;have a9:=I.ext f;have ab:=J.ext f;have B:nl<=1000:=by
     rw[o.out];have:=ES c (List.range L.length) E (fun x M=>by rw[iA];exact D x M);simp at this;omega
    have aI:=fun wx:World=>Jz (P:=prog) (w:=wx) (g:=X.heap.size) BH.arr Cc hn;clear a0 ac f hA V U I J a2 Z
    go_wp2_with fail
    refine(DE O (by omega) (by simp)).mono ?_;rintro e w4 ⟨a4,n4,c4,rfl,p,aa⟩;have av:=a9.ext p;have ax:=ab.ext p;have au:=a6.ext p;have a5:=a3.ext p;have T:=S.trans p;have a1:AD w4 w.heap.size a4 n4 c4 (L.getD i []):=Own.mono aa S.size;clear a9 ab a6 a3 S p aa O;have hA6:Ext w4 (w4.alloc (.cells #[.slice a4 n4 c4] 35)):=(Ext.refl w4).alloc _;have aA:=(Ag w4 w.heap.size 35 #[.slice a4 n4 c4] 1 rfl T.size (by omega)).sl;have m:=av.ext hA6
    go_wp2_with(refine AU rfl rfl underlying29 Ck rfl rfl m rfl aA (by simp[Value.oneCell']) (by unfold maxLen;omega) (by omega) (by have:=T.size;simp;omega) ?_;intro a7 c7 w7 aw s aF)
    go_roundw
    case rel =>
     have ar:=T.trans hA6;have y:=a5.ext hA6;have a8:=au.ext hA6;have M:∀ k,blk al=some k->w.heap.size<=k:=fun k t=>(m.lt t).1;refine⟨c ++ [i],a7,nl+1,c7,_,rfl,by rw[o.out];simp,ar.grown s M,aC,a8.kept s ?_,?_,?_,?_,aw,?_⟩
     · rcases BW m a8 with h|h
       · rw[h];simp
       · exact fun h2=>h h2.symm
     · have:AF w7 w.heap.size r (Cj L).length (c ++ [i]):=y.kept s (by
        rcases Da m y with h|h
        · rw[h];simp
        · exact fun h2=>h h2.symm)
       rw[<-F.out];exact this
     · rw[io];refine⟨E,by simp,?_⟩;intro a ha b hb;simp only[eV]at hb;subst hb;rintro rfl;exact ad ha
     · intro j Y;rcases fo.1 Y with Y|Y
       · exact D j Y
       · simp only[eV]at Y;subst Y;exact W
     · have ay:=(ax.ext hA6).kept s (fun _ _ _ _ h=>CY h m (by decide));have aq:AD w7 w.heap.size a4 n4 c4 (L.getD i []):=Own.kept (Own.ext a1 hA6) s (CY (Own.ext a1 hA6) m (by decide));rw[fM];exact ay.snoc (by rw[m.len,o.out];simp) aq
    case measure =>
     have y:=a5.ext hA6;have e1:FW w7 w.heap.size=c.length+1:=by
      have:AF w7 w.heap.size r (Cj L).length (c ++ [i]):=y.kept s (by
       rcases Da m y with h|h
       · rw[h];simp
       · exact fun h2=>h h2.symm)
      rw[Iy this];simp
     have e2:=ap.out;have:c.length<=L.length:=by
      have:=ES c (List.range L.length) E (fun x M=>by rw[iA];exact D x M);simpa using this
     have h3:c.length<L.length:=by
      have:=ES (i :: c) (List.range L.length) (iH.2 ⟨ad,E⟩) (fun x M=>by
       rw[iA];rcases fS.1 M with rfl|M
       · exact W
       · exact D x M)
      simp at this;omega
     rw[e1,e2];omega
theorem Nl(a:o.op = .alloc 52)(b:Operand->Value)(w:World):(execOp b o).run prog w = .ok (.value (.pointer (some ⟨w.heap.size,0,none⟩))) (w.alloc (.cells [.slice none 0 0].toArray 52)):=by
 simp only[execOp,a];kernel_rfl
theorem DI.keptC{j g:Nat}{L:List PLs}{cs:List Value}(h:DI w j n L)(d:Arr w g t cs)(h1:57≠t)(h2:101≠t)(h3:100≠t)(h4:95≠t)(h5:93≠t)(f:w.grownBy w' (some g)):DI w' j n L:=by
 obtain⟨b,M,p,a,c,q,m,hF,o⟩:=h;refine⟨b,M,p,a,c,q,m,⟨hF.fwl,hF.fwn,hF.fwa.kept f (fun e => ?_),hF.fwr,hF.fwo.kept f (Au hF.fwo d h4),hF.fwm.kept d h4 f,hF.fwd,fun i k=>(hF.fwp i k).kept d h1 h2 (fun e => ?_) f,hF.fwb,hF.fwc⟩,o⟩
 · have:=fe e;subst this;exact h5 (IJ hF.fwa d)
 · obtain⟨r,s,x,v,y,l,_⟩:=hF.fwp i k;rw[e]at l;exact h3 (IJ l d)
def Rq(v:Value)(w:World)(n:Nat)(L0 L1 L2:List PLs):Prop:=∃ sB f1 f2 f3,v = .slice (some ⟨sB,0,none⟩) 3 3/\Arr w sB 50 [.pointer (some ⟨f1,0,none⟩),.pointer (some ⟨f2,0,none⟩),.pointer (some ⟨f3,0,none⟩)]/\DI w f1 n L0/\DI w f2 n L1/\DI w f3 n L2
theorem Rq.x(n:Nat)(a L1 L2:List PLs):∀ (v:Value) (w b:World),Ext w b->Rq v w n a L1 L2->Rq v b n a L1 L2:=fun _ _ _ e ⟨s,c,d,f,h1,h2,h3,h4,h5⟩=>⟨s,c,d,f,h1,h2.ext e,h3.ext e,h4.ext e,h5.ext e⟩
def unR(ts:List Tx):PLs:=ts.map rdU
open Classical in
noncomputable def autR (va:Int) (ts:List Tx) (ps qs:List (Int×List Tx)):List (List Int)×Int :=
 if ∀ p∈(va,ts) :: (ps ++ qs),(rdP p.1 p.2).isSome=true then if ∀ p∈(va,ts) :: (ps ++ qs),p.1=va then(autL va.toNat [[unR ts],ps.map fun p=>unR p.2,qs.map fun p=>unR p.2],0)else([],4)else([],1)
theorem Rr{ts:List Tx}(h:(rdP va ts).isSome=true):Pl.Canon va.toNat (unR ts)/\ts=(unR ts).map fun t=>(txt t.2,t.1):=by
 obtain⟨l,b⟩:=gD.1 h;refine⟨(KX b).2,?_⟩;unfold unR;rw[jY];refine(List.map_id ts).symm.trans (kz fun t c => ?_);obtain⟨i,a,rfl⟩:=fR c;have h1:=(A6 (KU b a)).1;have e:ts.getD i tm0=ts[i]:=by simp[a]
 rw[e]at h1;show ts[i]=(txt ((AZ ts[i].1).getD 0),ts[i].2);rw[h1];exact Prod.ext (DA h1) rfl
def PRw(w:World)(rows:List (List Value))(P:List (Int×List Tx)):Prop:=rows.length=P.length/\∀ i,i<P.length->∃ A m d,rows.getD i []=B4 (P.getD i pz).1 A m d/\CS w A m d (P.getD i pz).2
theorem PRw.app{P Q:List (Int×List Tx)}(h:PRw w r P)(k:PRw w s Q):PRw w (r ++ s) (P ++ Q):=by
 refine⟨by rw[ff,ff,h.1,k.1],fun i d => ?_⟩;rw[ff]at d;by_cases a:i<P.length
 · have b:(r ++ s).getD i []=r.getD i []:=by simp[f4,h.1,a]
   have c:(P ++ Q).getD i pz=P.getD i pz:=by simp[f4,a]
   rw[b,c];exact h.2 i a
 · have b:(r ++ s).getD i []=s.getD (i-P.length) []:=by rw[gqq,fF (by rw[h.1];omega),h.1,<-gqq]
   have c:(P ++ Q).getD i pz=Q.getD (i-P.length) pz:=by rw[gqq,fF (by omega),<-gqq]
   rw[b,c];exact k.2 _ (by omega)
theorem PRw.ext{w a:World}{r:List (List Value)}{P:List (Int×List Tx)}(h:PRw w r P)(e:Ext w a):PRw a r P:=⟨h.1,fun i b=>by obtain⟨A,m,d,h1,h2⟩:=h.2 i b;exact⟨A,m,d,h1,h2.ext e⟩⟩
theorem PRw.one_{P:List (Int×List Tx)}(h:PRw w r P):∀ x∈r,∀ u∈x,u.oneCell'=true:=fun x b=>by
 obtain⟨i,a,rfl⟩:=fR b;obtain⟨A,m,d,h1,_⟩:=h.2 i (by have:=h.1;omega);have e:r.getD i []=r[i]:=by simp[a]
 rw[e]at h1;rw[h1];exact Dm _ _ _ _
theorem Cl{N:Nat}{qs:List (Int×List Tx)}(h:PSl w a n c qs)(j:∀ p∈qs,p.1=(N:Int)/\(rdP p.1 p.2).isSome=true/\p.2.length<=100/\∀ t∈p.2,t.1.length<=570)(y:N<=6)(B:n<=100) :
 Calls prog 20 #[.int .i64 N,.slice a n c] w fun e g=>∃ f,e = .returned (.pointer (some ⟨f,0,none⟩))/\Ext w g/\DI g f N (qs.map fun p=>unR p.2):=by
 have A:qs.length=n:=by obtain⟨k,_,h1,_⟩:=h;exact h1
 have hu:∀ p∈qs,Pl.Canon N (unR p.2)/\p.2=(unR p.2).map fun t=>(txt t.2,t.1):=fun p hp=>by
  obtain⟨h1,h2,_⟩:=j p hp;have h3:=Rr h2;rw[h1]at h3;exact h3
 refine(Hm (L:=qs.map fun p=>unR p.2) h (by rw[ft,A]) (fun i F => ?_) (fun x d => ?_) (fun x d => ?_) y B).mono ?_
 · have b:i<qs.length:=by omega
   have o:qs.getD i pz=qs[i]:=by simp[b]
   have q:(qs.map fun p=>unR p.2).getD i []=unR qs[i].2:=by simp[b]
   rw[o,q];exact(hu _ (fu _)).2
 · obtain⟨p,hp,rfl⟩:=fh.1 d;exact(hu p hp).1
 · obtain⟨p,hp,rfl⟩:=fh.1 d;obtain⟨_,_,h3,h4⟩:=j p hp;refine⟨by unfold unR;rw[ft];exact h3,fun t C => ?_⟩;have h5:(txt t.2,t.1)∈p.2:=by rw[(hu p hp).2];exact fh.2 ⟨t,C,rfl⟩
   have:=h4 _ h5;simp only at this;omega
 · rintro e g ⟨r,M,D,l,m,E,s,rfl,v,hF,z⟩;exact⟨r,rfl,v,_,M,D,l,m,E,s,hF,z⟩
theorem SlK.preA{h:Nat}(h1:SlK w k a n c rows)(f:h<=n):SlK w k a h c (rows.take h) :=
 ⟨by rw[go,h1.len,iF f],eW f h1.cap,h1.max,fun r d=>h1.wid r (iU d),fun h0=>by
  obtain⟨b,e,g,l⟩:=h1.rd (by omega);refine⟨b,e,g,fun i m j o => ?_⟩;have d:(rows.take h).getD i []=rows.getD i []:=by rw[gqq,jd m,<-gqq]
  rw[l i (by omega) j o,d]⟩
theorem SV{s:Nat}{x:List Value}(C:w0.heap.size=s)(A:x.length=2)(m:∀ u∈x,u.oneCell'=true)(h1:SlK w0 2 a1 n1 c1 R1)(h2:SlK w0 2 a2 n2 c2 R2)(F:n1<=10)(G:n2<=10)(D:∀ x∈R1,∀ u∈x,u.oneCell'=true)(E:∀ x∈R2,∀ u∈x,u.oneCell'=true) :
 Calls prog 19 #[.slice (some ⟨s+1,0,none⟩) 3 3] ((w0.alloc (.cells x.toArray 24)).alloc (.cells #[.slice (some ⟨s,0,none⟩) 1 1,.slice a1 n1 c1,.slice a2 n2 c2] 25)) fun e n=>∃ a c,e = .returned (.slice a (1+(n1+n2)) c)/\Ext w0 n/\SlK n 2 a (1+(n1+n2)) c (x :: (R1 ++ R2)):=by
 subst C;have o:=Arr.new (w0.alloc (.cells x.toArray 24)) 25 [.slice (some ⟨w0.heap.size,0,none⟩) 1 1,.slice a1 n1 c1,.slice a2 n2 c2];have w:=Arr.new w0 24 x;have q:Ext w0 (w0.alloc (.cells x.toArray 24)):=(Ext.refl w0).alloc _;have f:=q.alloc (.cells [.slice (some ⟨w0.heap.size,0,none⟩) 1 1,.slice a1 n1 c1,.slice a2 n2 c2].toArray 25);have t:Ext (w0.alloc (.cells x.toArray 24)) _:=(Ext.refl _).alloc (.cells [.slice (some ⟨w0.heap.size,0,none⟩) 1 1,.slice a1 n1 c1,.slice a2 n2 c2].toArray 25);rw[show(w0.alloc (.cells x.toArray 24)).heap.size=w0.heap.size+1 by simp]at o
 have j:=h1.len;have l:=h2.len;have b:[[x],R1,R2].flatten=x :: (R1 ++ R2):=by simp
 have d:[[x],R1,R2].flatten.length=1+(n1+n2):=by rw[b,fW,ff,j,l];omega
 refine(IK (S:=[[x],R1,R2]) (o.sl (k:=3) (lrf _) (by unfold maxLen;simp)) rfl (fun i z => ?_) (by omega) (by rw[d];omega) (fun r p => ?_)).mono ?_
 · match i,z with
   | 0,_=>exact⟨_,_,_,rfl,(BA w A).ext t⟩
   | 1,_=>exact⟨_,_,_,rfl,h1.ext f⟩
   | 2,_=>exact⟨_,_,_,rfl,h2.ext f⟩
 · simp only[fS,ia,jL]at p;rcases p with rfl|rfl|rfl
   · exact⟨by simp,fun y B=>by rw[eV.1 B];exact m⟩
   · exact⟨by omega,D⟩
   · exact⟨by omega,E⟩
 · rintro e n ⟨a,c,rfl,v,g⟩;rw[d]at g |-;rw[b]at g;exact⟨a,c,rfl,f.trans v,g.slk (by omega)⟩
theorem Er.err(h:Ext w w'):Er w [] er (.returned (.tuple #[.slice none 0 0,.int .i64 er])) w':=⟨none,0,0,[],rfl,h,rfl,Own.nil _ _ _,fun i a=>absurd a (by simp)⟩
theorem Fa{m:Nat}{ts:List Tx}{ps qs:List (Int×List Tx)}(hT:BE w)(hp:CS w a m c ts)(h1:PSl w a1 n1 c1 ps)(h2:PSl w a2 n2 c2 qs)(sp:∀ p∈(va,ts) :: (ps ++ qs),p.2.length<=100/\∀ t∈p.2,t.1.length<=570)(b1:n1<=10)(b2:n2<=10)(hv:va<=4\/6<va) :
 Calls prog 8 #[.agg #[.int .i64 va,.slice a m c],.slice a1 n1 c1,.slice a2 n2 c2] w (Er w (autR va ts ps qs).1 (autR va ts ps qs).2):=by
 obtain⟨R1,aH,bH,aT⟩:=h1;obtain⟨R2,aI,bI,aU⟩:=h2;have aF:PRw w R1 ps:=⟨by have:=aH.len;omega,fun i J=>aT i (by omega)⟩;have aG:PRw w R2 qs:=⟨by have:=aI.len;omega,fun i J=>aU i (by omega)⟩
 have aE:PRw w [B4 va a m c] [(va,ts)]:=⟨rfl,fun i J=>by
  have:i=0:=by simpa using J
  subst this
  exact⟨a,m,c,rfl,hp⟩⟩
 have bA:PRw w ([B4 va a m c] ++ (R1 ++ R2)) ((va,ts) :: (ps ++ qs)):=aE.app (aF.app aG);have HR:=qh bA;have D:=qh (And.intro (And.intro aH (And.intro bH aT)) (And.intro aI (And.intro bI aU)));have bk:=qh (And.intro aE.one_ (And.intro aF.one_ aG.one_));have bn:=qh sp;have HT:=qh hT;have c4:=qh hp;obtain⟨rs,aV⟩:∃ r,autR va ts ps qs=r:=⟨_,rfl⟩;have an:=qh aV;rw[aV];have bU:R1.length=n1:=aH.len;have bV:R2.length=n2:=aI.len;clear aE aF aG bA bH aT bI aU sp hT hp aV
 go_enter func8,ntmps8
 go_upto_region 1 with(fail)
 refine AK ?_;intro w0 af aA bN;have p0:=aA.c 0 rfl;have p1:=aA.c 1 rfl;clear aA
 go_wp2_with fail
 have aO:=qh (SV (x:=B4 va a m c) bN rfl (Dm _ _ _ _) (D.out.1.1.ext af) (D.out.2.1.ext af) b1 b2 bk.out.2.1 bk.out.2.2);obtain⟨P,hP⟩:∃ P,(va,ts) :: (ps ++ qs)=P:=⟨_,rfl⟩;obtain⟨R,hR⟩:∃ R,B4 va a m c :: (R1 ++ R2)=R:=⟨_,rfl⟩;obtain⟨T,aM⟩:∃ T,1+(n1+n2)=T:=⟨_,rfl⟩;have HP:=qh hP;have c0:=qh hR;have cv:=qh aM;have aL:1<=T:=by omega
 have ce:T<=21:=by omega
 have bz:P.length=T:=by rw[<-hP,fW,ff,D.out.1.2.1,D.out.2.2.1];omega
 have bm:Hid (PRw w R P):=qh (by have h1:=HR.out;rw[List.singleton_append,hR,hP]at h1;exact h1);have b0:Hid (∀ p∈P,p.2.length<=100/\∀ t∈p.2,t.1.length<=570):=qh (by rw[<-hP];exact bn.out);have O:=qh bz;rw[aM,hR]at aO;clear hP hR aM bz HR bn p1;refine aO.out.mono ?_;rintro e w3 ⟨aa,cc,rfl,aB,aK⟩;have s:=af.trans aB;have p3:=aB.cell p0;clear aO bN p0 af aB;go_wp2
 go_loopw[25] (fun iv wr=>∃ (k:Nat),iv = .int .i64 k/\k<=T/\Ext w3 wr/\Hid (∀ j,j<k->(rdP (P.getD j pz).1 (P.getD j pz).2).isSome=true)) (fun iv _=>T-(intOf iv).toNat)
 case atStart=>exact⟨0,rfl,f8 _,Ext.refl _,qh fun j hj=>absurd hj (by omega)⟩
 case round =>
  obtain⟨k,rfl,hk,I,HV⟩:=hrel;by_cases F:k<T
  · have Y:=aK.ext I;obtain⟨bq,cs,rfl,a4⟩:=Y.rd (by omega);obtain⟨A,m',d,B,a9⟩:=bm.out.2 k (by rw[O.out];exact F);have hY:=Arr.new wr 24 (B4 0 none 0 0);obtain⟨v',Z⟩:∃ v,(P.getD k pz).1=v:=⟨_,rfl⟩;obtain⟨t',aX⟩:∃ t,(P.getD k pz).2=t:=⟨_,rfl⟩;have aW:=b0.out (P.getD k pz) (by rw[gqq,eQ (by rw[O.out];exact F)];exact fu _);rw[Z]at B;rw[aX]at a9 aW;have Q:=qh (And.intro Z aX);have a0:=qh aW;clear a4 Z aX aW
    go_upto_region 5 with(first
     | (refine Cq rfl rfl CM rfl Y F ?_;rw[B])
     | (refine Aa (vs:=B4 v' A m' d) rfl rfl rfl rfl rfl CM hY rfl (Dm _ _ _ _) ?_;intro w5 H ab))
    have S:Ext wr w5:=((Ext.refl wr).alloc _).grownR ab (lrf _);obtain⟨X,hX⟩:∃ x,wr.heap.size=x:=⟨_,rfl⟩;rw[hX]at H |-;have y0:=H.c 0 rfl;have y1:=H.c 1 rfl;have y:=I.trans S;have bK:=qh (M3 (vars:=v') (HT.out.ext (s.trans y)) (a9.ext (s.trans y)) a0.out.2);clear hY ab B Y a9 hX H S I
    go_wp2_with fail
    refine bK.out.mono ?_;rintro e w6 ⟨rfl,bp⟩;have b5:=y.trans bp;clear bK y bp y0 y1;obtain⟨b,hb⟩:∃ b,(rdP v' t').isSome=b:=⟨_,rfl⟩;rw[hb];have HB:=qh hb;clear hb;cases b with
    | false =>
     have HZ:Hid (rs=([],1)):=qh (by
      rw[<-an.out];unfold autR;rw[fl];intro h;rw[HP.out]at h;have h1:=h (P.getD k pz) (by rw[gqq,eQ (by rw[O.out];exact F)];exact fu _);rw[Q.out.1,Q.out.2,HB.out]at h1
      cases h1)
     go_wp2
     go_ret2
     rw[HZ.out];exact Er.err (s.trans b5)
    | true =>
     have ax:Hid (∀ j,j<k+1->(rdP (P.getD j pz).1 (P.getD j pz).2).isSome=true):=qh (fun j hj=>by
      by_cases aQ:j<k
      · exact HV.out j aQ
      · have:j=k:=by omega
        subst this;rw[Q.out.1,Q.out.2]
        exact HB.out)
     go_wp2;go_roundw
     case rel=>exact⟨k+1,by go_num,by omega,b5,ax⟩
     case measure=>simp[intOf];omega
  have aR:k=T:=by omega
  subst aR
  have a3:Hid (∀ p∈P,(rdP p.1 p.2).isSome=true):=qh (fun p hp=>by
   obtain⟨j,hj,rfl⟩:=fR hp;have h1:=HV.out j (by rw[<-O.out];exact hj);rw[gqq,eQ hj]at h1
   exact h1)
  have cm:∃ n:Nat,va=(n:Int):=by
   have h1:=a3.out (va,ts) (by rw[<-HP.out];exact List.mem_cons_self ..);obtain⟨l,hl⟩:=gD.1 h1;exact⟨va.toNat,by have:=(FQ hl).1;omega⟩
  have cl:va<=6:=by
   have h1:=a3.out (va,ts) (by rw[<-HP.out];exact List.mem_cons_self ..);obtain⟨l,hl⟩:=gD.1 h1;exact(FQ hl).2
  obtain⟨n,rfl⟩:=cm;have cB:n<=4:=by omega
  have E:n<=6:=by omega
  have aD:=s.trans I;have bB:=aK.ext I;have p4:=I.cell p3;clear HV hk p3 aK s I hv cl;generalize cn:wr=w4 at *
  clear cn
  go_upto_region 9 with(fail)
  obtain⟨nB,au⟩:∃ n,w4.heap.size=n:=⟨_,rfl⟩;have K:=Arr.new w4 3 [.int .i64 (n:Int)];have aN:=(Ext.refl w4).alloc (.cells [.int .i64 (n:Int)].toArray 3);rw[au]at K |-;have cp:w.heap.size<=nB:=by rw[<-au];exact aD.size
  have bX:=K.lt;clear p4 au;generalize w4.alloc (.cells [.int .i64 (n:Int)].toArray 3)=w7 at *
  change Code.wp _ _ _ _ w7;have U:=aD.trans aN;have ak:=bB.ext aN;have nc:=K.c 0 rfl;clear aD bB aN;go_wp2
  go_loopw[37] (fun iv wr=>∃ (k2:Nat),iv = .int .i64 k2/\k2<=k/\Ext w7 wr/\Hid (∀ j,j<k2->(P.getD j pz).1=(n:Int))) (fun iv _=>k-(intOf iv).toNat)
  case atStart=>exact⟨0,rfl,f8 _,Ext.refl _,qh fun j hj=>absurd hj (by omega)⟩
  case round =>
   obtain⟨k2,rfl,hk,I,HV⟩:=hrel;by_cases F:k2<k
   · have Y:=ak.ext I;obtain⟨bq,cs,rfl,a4⟩:=Y.rd (by omega);obtain⟨A,m',d,B,a9⟩:=bm.out.2 k2 (by rw[O.out];exact F);have hY:=Arr.new wr 24 (B4 0 none 0 0);obtain⟨v',Z⟩:∃ v,(P.getD k2 pz).1=v:=⟨_,rfl⟩;rw[Z]at B;have Q:=qh Z;clear a4 Z a9
     go_upto_region 12 with(first
      | (refine Cq rfl rfl CM rfl Y F ?_;rw[B])
      | (refine Aa (vs:=B4 v' A m' d) rfl rfl rfl rfl rfl CM hY rfl (Dm _ _ _ _) ?_;intro w5 H ab))
     have S:Ext wr w5:=((Ext.refl wr).alloc _).grownR ab (lrf _);obtain⟨X,hX⟩:∃ x,wr.heap.size=x:=⟨_,rfl⟩;rw[hX]at H |-;have y0:=H.c 0 rfl;have y:=I.trans S;have n5:=y.cell nc;clear hY ab B Y hX H S I;by_cases am:v'=(n:Int)
     · have ax:Hid (∀ j,j<k2+1->(P.getD j pz).1=(n:Int)):=qh (fun j hj=>by
        by_cases aQ:j<k2
        · exact HV.out j aQ
        · have:j=k2:=by omega
          subst this;rw[Q.out]
          exact am)
       have bR:(v' != (n:Int))=false:=by simpa using am
       go_wp2;go_roundw
       case rel=>exact⟨k2+1,by go_num,by omega,y,ax⟩
       case measure=>simp[intOf];omega
     · have HZ:Hid (rs=([],4)):=qh (by
        rw[<-an.out];unfold autR;rw[HP.out,fE a3.out,fl];intro h;have h1:=h (P.getD k2 pz) (by rw[gqq,eQ (by rw[O.out];exact F)];exact fu _);rw[Q.out]at h1
        exact am h1)
       have bR:(v' != (n:Int))=true:=by simpa using am
       go_wp2
       go_ret2
       rw[HZ.out];exact Er.err (U.trans y)
   have aR:k2=k:=by omega
   subst aR
   have ay:Hid (∀ p∈P,p.1=(n:Int)):=qh (fun p hp=>by
    obtain⟨j,hj,rfl⟩:=fR hp;have h1:=HV.out j (by rw[<-O.out];exact hj);rw[gqq,eQ hj]at h1
    exact h1)
   have bZ:=qh (And.intro U (And.intro K ak));have aJ:=ak.ext I;have W:=U.trans I;have aS:=K.ext I;have bO:=I.cell nc;have cq:=I.size;clear HV hk I U K ak nc bZ;have bW:nB<wr.heap.size:=by have:=aS.lt;omega
   generalize co:wr=w8 at *
   clear co;rename_i cu;obtain⟨L1,ai⟩:∃ L,ps.map (fun p=>unR p.2)=L:=⟨_,rfl⟩;obtain⟨L2,aj⟩:∃ L,qs.map (fun p=>unR p.2)=L:=⟨_,rfl⟩
   have c3:Hid (rs=(autL n [[unR ts],L1,L2],0)):=qh (by
    rw[<-an.out];unfold autR
    rw[HP.out,fE a3.out,fE ay.out,ai,aj,jA])
   have aw:Hid (∀ p∈P,Pl.Canon n (unR p.2)):=qh (fun p hp=>by
    have h1:=(Rr (a3.out p hp)).1;rw[ay.out p hp,jA]at h1
    exact h1)
   have bY:Hid (∀ L∈[[unR ts],L1,L2],Hk n L):=qh (fun L hL x hx=>by
    simp only[fS,ia,jL]at hL;rcases hL with rfl|rfl|rfl
    · rw[eV.1 hx];exact aw.out ((n:Int),ts) (by rw[<-HP.out];exact List.mem_cons_self ..)
    · rw[<-ai]at hx;obtain⟨p,hp,rfl⟩:=fh.1 hx;exact aw.out p (by rw[<-HP.out];exact fX _ (List.mem_append_left _ hp))
    · rw[<-aj]at hx;obtain⟨p,hp,rfl⟩:=fh.1 hx
      exact aw.out p (by rw[<-HP.out];exact fX _ (List.mem_append_right _ hp)))
   have hq:∀ p∈P,p.1=(n:Int)/\(rdP p.1 p.2).isSome=true/\p.2.length<=100/\∀ t∈p.2,t.1.length<=570:=fun p hp=>⟨ay.out p hp,a3.out p hp,b0.out p hp⟩
   have bg:Hid (∀ o,Ext w8 o->Calls prog 20 #[.int .i64 n,.slice aa 1 cc] o fun e N=>∃ f,e = .returned (.pointer (some ⟨f,0,none⟩))/\Ext o N/\DI N f n [unR ts]):=qh (fun o C=>by
    refine Cl (qs:=[((n:Int),ts)]) ⟨_,(aJ.preA aL).ext C,rfl,fun i J => ?_⟩ (fun p hp => ?_) E (by omega)
    · have:i=0:=by omega
      subst this;exact⟨a,m,c,by rw[<-c0.out];rfl,c4.out.ext (W.trans C)⟩
    · rw[eV.1 hp]
      exact hq _ (by rw[<-HP.out];exact List.mem_cons_self ..))
   have bh:Hid (∀ o,Ext w8 o->Calls prog 20 #[.int .i64 n,.slice a1 n1 c1] o fun e N=>∃ f,e = .returned (.pointer (some ⟨f,0,none⟩))/\Ext o N/\DI N f n L1):=qh (fun o C=>by
    rw[<-ai]
    exact Cl ⟨R1,D.out.1.1.ext (W.trans C),D.out.1.2.1,fun i J=>by obtain⟨A,mm,d,g1,g2⟩:=D.out.1.2.2 i J;exact⟨A,mm,d,g1,g2.ext (W.trans C)⟩⟩ (fun p hp=>hq p (by rw[<-HP.out];exact fX _ (List.mem_append_left _ hp))) E (by omega))
   have bi:Hid (∀ o,Ext w8 o->Calls prog 20 #[.int .i64 n,.slice a2 n2 c2] o fun e N=>∃ f,e = .returned (.pointer (some ⟨f,0,none⟩))/\Ext o N/\DI N f n L2):=qh (fun o C=>by
    rw[<-aj]
    exact Cl ⟨R2,D.out.2.1.ext (W.trans C),D.out.2.2.1,fun i J=>by obtain⟨A,mm,d,g1,g2⟩:=D.out.2.2.2 i J;exact⟨A,mm,d,g1,g2.ext (W.trans C)⟩⟩ (fun p hp=>hq p (by rw[<-HP.out];exact fX _ (List.mem_append_right _ hp))) E (by omega))
   have ck:=fun o:World=>K7 (P:=prog) (t:=25) (a:=aa) (n:=k2) (c:=cc) (h:=1) (w:=o) underlying25 CU (eW aL aJ.cap);have U:=W;have K:=aS;have nc:=bO;clear hq ai aj W aS bO ce b1 b2 bU bV cp bX F cq
   go_wp2_with fail
   refine Ac
    [hdI n,hdS aa k2 cc,hdS aa 1 cc,hp (fun v o=>∃ f,v = .pointer (some ⟨f,0,none⟩)/\DI o f n [unR ts]),hdI n,hdS a1 n1 c1,hp (fun v o=>∃ f,v = .pointer (some ⟨f,0,none⟩)/\DI o f n L1),hdI n,hdS a2 n2 c2,hp (fun v o=>∃ f,v = .pointer (some ⟨f,0,none⟩)/\DI o f n L2),hp (fun v o=>Rq v o n [unR ts] L1 L2),hp (fun v o=>∃ g,v = .pointer (some ⟨g,0,none⟩)/\w8.heap.size<=g/\Arr o g 52 [.slice none 0 0])]
    ⟨fun v w N e ⟨f,h1,h2⟩=>⟨f,h1,h2.ext e⟩,fun v w N e ⟨f,h1,h2⟩=>⟨f,h1,h2.ext e⟩,fun v w N e ⟨f,h1,h2⟩=>⟨f,h1,h2.ext e⟩,Rq.x _ _ _ _,fun v w N e ⟨g,h1,h2,h3⟩=>⟨g,h1,h2,h3.ext e⟩,trivial⟩ ⟨?o0,?o1,?o2,?o3,?o4,?o5,?o6,?o7,?o8,?o9,?o10,?o11,trivial⟩ ?fin
   case o0 | o4 | o7=>exact ol
   case o1 | o5 | o8=>exact omv
   case o2 =>
    exact Fp (h:=1) rfl rfl underlying25 CU (fun _ _ hp h=>⟨h.1,hp.const _⟩) (eW aL aJ.cap)
   case o3 =>
    refine Ah rfl fun ρ o C ao aP h => ?_;have e1:_=_:=h.2.1;have e2:_=_:=h.2.2.1;refine⟨20,#[.int .i64 (n:Int),.slice aa 1 cc],by go_simp,((bg.out o C)).mono ?_⟩;rintro e N ⟨f,rfl,a6,a8⟩;exact⟨_,rfl,a6,f,rfl,a8⟩
   case o6 =>
    refine Ah rfl fun ρ o C ao aP h => ?_;have e1:_=_:=h.2.1;have e2:_=_:=h.2.2.1;refine⟨20,#[.int .i64 (n:Int),.slice a1 n1 c1],by go_simp,((bh.out o C)).mono ?_⟩;rintro e N ⟨f,rfl,a6,a8⟩;exact⟨_,rfl,a6,f,rfl,a8⟩
   case o9 =>
    refine Ah rfl fun ρ o C ao aP h => ?_;have e1:_=_:=h.2.1;have e2:_=_:=h.2.2.1;refine⟨20,#[.int .i64 (n:Int),.slice a2 n2 c2],by go_simp,((bi.out o C)).mono ?_⟩;rintro e N ⟨f,rfl,a6,a8⟩;exact⟨_,rfl,a6,f,rfl,a8⟩
   case o10 =>
    refine Cv rfl ?_;intro ρ o hp C h;have ao:=hp.const;have aP:=hp.func;obtain⟨v0,e0,f0,rfl,i0⟩:=h.1;obtain⟨v1,e1,f1,rfl,i1⟩:=h.2.1;obtain⟨v2,e2,f2,rfl,i2⟩:=h.2.2.1;have kn:=C.cell nc;exact⟨.slice (some ⟨o.heap.size,0,none⟩) 3 3,o.alloc (.cells #[.pointer (some ⟨f0,0,none⟩),.pointer (some ⟨f1,0,none⟩),.pointer (some ⟨f2,0,none⟩)] 50),by go_simp,(Ext.refl _).alloc _,_,f0,f1,f2,rfl,Arr.new _ _ [.pointer (some ⟨f0,0,none⟩),.pointer (some ⟨f1,0,none⟩),.pointer (some ⟨f2,0,none⟩)],i0.ext ((Ext.refl _).alloc _),i1.ext ((Ext.refl _).alloc _),i2.ext ((Ext.refl _).alloc _)⟩
   case o11 =>
    exact Cv rfl fun ρ o _ C _=>⟨_,_,Nl rfl ρ o,(Ext.refl o).alloc _,o.heap.size,rfl,C.size,Arr.new o _ _⟩
   case fin =>
    intro o C;rintro _ ⟨f1,rfl,c7⟩;rintro _ ⟨f2,rfl,c8⟩;rintro _ ⟨f3,rfl,c9⟩;rintro _ b9;rintro _ hA11;change wpList _ _ _ _ _ _;simp only[Bs];have cd:=b9;obtain⟨sB,g1,g2,g3,rfl,ae,br,bs,bt⟩:=cd;obtain⟨fB,rfl,cz,G⟩:=hA11;have f0:=G.c 0 rfl;have ci:=G.frozen 0
    go_upto_region 16 with(fail)
    have z:=Ab o fB 0 (.slice (some ⟨sB,0,none⟩) 3 3);have bL:sB≠fB:=fun e=>by rw[e]at ae;exact absurd (IJ ae G) (by decide)
    have bb:Arr (o.setCell ⟨fB,0,none⟩ (.slice (some ⟨sB,0,none⟩) 3 3)) fB 52 [.slice (some ⟨sB,0,none⟩) 3 3]:=G.set 0 _;have b3:=ae.kept z (fun e=>bL (fe e));have b6:=br.keptC G (by decide) (by decide) (by decide) (by decide) (by decide) z;have b7:=bs.keptC G (by decide) (by decide) (by decide) (by decide) (by decide) z;have b8:=bt.keptC G (by decide) (by decide) (by decide) (by decide) (by decide) z
    have b4:Ext w (o.setCell ⟨fB,0,none⟩ (.slice (some ⟨sB,0,none⟩) 3 3)):=(U.trans C).grown z (fun g hg=>by have h1:=fe hg;have h2:=U.size;omega);have ar:=(K.ext C).kept z (fun e=>by have h1:=fe e;rw[h1]at bW;omega);clear c7 c8 c9 b9 f0 ci z ae br bs bt G C nc ck bg bh bi;generalize o.setCell ⟨fB,0,none⟩ (.slice (some ⟨sB,0,none⟩) 3 3)=w0 at *
    have bD:∀ i,i<3->w0.cell? ⟨sB,i,none⟩=some (.pointer (some ⟨([g1,g2,g3]:List Nat).getD i 0,0,none⟩)):=fun i J=>by
     have h1:=b3.cell (i:=i) (by simpa using J);rw[h1]
     match i,J with
     | 0,_=>rfl
     | 1,_=>rfl
     | 2,_=>rfl
    have bE:∀ i,i<3->DI w0 (([g1,g2,g3]:List Nat).getD i 0) n (([[unR ts],L1,L2]:List (List PLs)).getD i []):=fun i J=>by
     match i,J with
     | 0,_=>exact b6
     | 1,_=>exact b7
     | 2,_=>exact b8
    have n0:=ar.c 0 rfl;have a0:=qh (And.intro bb (And.intro bD (And.intro bE ar)));clear bb b3 b6 b7 b8 bD bE ar bL
    go_upto_region 17 with(fail)
    refine AK ?_;intro w1 ah bF cr;have a4:=qh (Di (gs:=[]) (ag:=none) (ng:=0) (cg:=0) (n:=n) (w:=w1) ⟨rfl,[],Sl.nil w1,fun i J=>absurd J (by omega)⟩ E (fun g hg=>by cases hg));have n1:=ah.cell n0
    go_wp2_with fail
    refine a4.out.mono ?_;rintro e w2 ⟨r,L,rfl,a7,_,bw,bf,bj⟩;have aZ:=qh (And.intro bf bj);have n2:=a7.cell n1;have ap:=bF.ext a7;clear a4 bf bj n1;have cA:∀ (fn:Fn) (first bo:Array Value) (w:World),(Instr.makeFunc fn first bo).run prog w = .ok (.func fn first bo) w:=fun _ _ _ _=>rfl
    go_upto_region 18 with(fail)
    have aq:=Arr.new w2 53 [.map (some r)];have al:=(Ext.refl w2).alloc (.cells [.map (some r)].toArray 53);obtain⟨kB,bG⟩:∃ k,w2.heap.size=k:=⟨_,rfl⟩;rw[bG]at aq |-;generalize w2.alloc (.cells [.map (some r)].toArray 53)=w3 at *
    change Code.wp _ _ _ _ w3;obtain⟨gB,bd⟩:∃ g,w0.heap.size=g:=⟨_,rfl⟩;rw[bd]at ap |-;have s:Ext w0 w3:=(ah.trans a7).trans al;have bT:w0.heap.size<=kB:=by have h1:=(ah.trans a7).size;omega
    have bS:w0.heap.size<=gB:=by omega
    have bc:Arr w3 gB 29 [.slice none 0 0]:=ap.ext al;have ba:Jw w0 n [[unR ts],L1,L2] kB gB [] w3:=⟨r,L,[],none,0,0,[],s,aq,bc,bw.ext al,aZ.out.1,aZ.out.2,Own.nil _ _ _,fun i J=>absurd J (by simp),rfl,VI.start _ _,List.nodup_nil⟩
    have bJ:=qh (Fv (kB:=kB) (fB:=fB) (gB:=gB) (nB:=nB) (Inv:=fun V w=>Jw w0 n [[unR ts],L1,L2] kB gB V w) E (fun V w N h e=>h.ext e)
     (fun V wv ct a c xs hV hO hp=>PM E bT bS a0.out.1 a0.out.2.1 a0.out.2.2.1 rfl a0.out.2.2.2 hV hO hp) n [] [] 0 none 0 0 w3 (by omega) List.nodup_nil (fun x hx=>by cases hx) ba (Own.nil _ _ _))
    have n3:=s.cell n0;clear aq bc ap bF bw n2 ah a7 al cr bG bd ba
    go_wp2_with fail
    refine bJ.out.mono ?_;rintro e w4 ⟨rfl,cf,_⟩;clear bJ n3;obtain⟨r4,L4,c6,cw,cC,cx,cy,aC,bu,_,bx,av,M,_,_,_,ad,_⟩:=cf;have az:=qh (And.intro av (And.intro M ad));have bv:∀ x∈L4,x.length=n:=fun x hx=>(Ci E ad.perms ((M x).1 hx)).2;have ch:=CF E ad.perms av (fun p hp=>(M p).1 hp);have h14:0<L4.length:=j4 ((M _).2 (Iv c6 n));have k4:=bu.c 0 rfl;have n4:=aC.cell n0;have bM:=qh (Fi bx E bv (by omega) h14);clear bu bx av M ad bv ch h14
    go_wp2_with fail
    refine bM.out.mono ?_;rintro e w5 ⟨bP,⟨a5,n5,c5,bQ,rfl,S,cj,ca,cb⟩,ac,aY⟩
    have be:∀ p,p∈bP<->Aut n [[unR ts],L1,L2] p:=fun p=>by
     rw[ac.mem_iff,az.out.2.1];refine az.out.2.2.done E bY.out (fun q h1 h2 => ?_) p;rw[iI,SP n (by omega),FX (by omega)];exact⟨h1,h2⟩
    have bl:Hid (bP=autL n [[unR ts],L1,L2]):=qh (SQ (by omega) (ac.nodup_iff.2 az.out.1) (by rw[ac.length_eq];exact aY) be);have bC:w.heap.size<=w4.heap.size:=by have h1:=b4.size;have h2:=aC.size;omega
    clear bM k4 n4 ac aY be;go_wp2
    go_ret2
    rw[c3.out];subst cj;exact⟨a5,_,c5,bQ,rfl,(b4.trans aC).trans S,by rw[<-bl.out],Own.mono ca bC,by rw[<-bl.out];exact cb.mono bC⟩
theorem F4(N:SlL w ag ng cg gs)(J:n<=6)(hp:GC gs n)(h16:ng<=16)
 (h12:∀ L:List (List Int),L.Nodup->(∀ p,p∈L<->BI gs n p)->L.length<=12) :
 Calls prog 13 #[.int .i64 n,.slice ag ng cg] w (fun e w'=>∃ o,Er w o 0 e w'/\o.Nodup/\(∀ p,p∈o<->BI gs n p)/\Ed o 0 o.length):=by
 have K:=eP N.len;have y:=eP hp;have z:=eP h12;clear hp h12
 go_enter func13,ntmps13
 go_wp2
 go_loopw[21] (fun i wr=>∃ k:Nat,k<=ng/\i = .int .i64 k/\Ext w wr) (fun i _=>ng-(intOf i).toNat)
 case atStart=>exact⟨0,f8 _,rfl,Ext.refl _⟩
 case round =>
  obtain⟨k,W,rfl,D⟩:=hrel;have l:=N.ext D;by_cases c:k<ng
  · obtain⟨R,og,B,m,C,rfl,I,d⟩:=l.at c;have hv:Ak (gs.getD k [])=true:=(y.out _ (by simp[K.out,c])).1;generalize gs.getD k []=gk at *
    go_wp2_with fail
    refine(Be d).mono ?_;rintro e w1 ⟨rfl,g⟩;go_wp2;go_roundw
    case rel=>exact⟨k+1,by omega,by go_num,D.trans g⟩
    case measure=>simp[intOf];omega
  · obtain⟨O,rfl⟩:∃ O:World,O=wr:=⟨_,rfl⟩;go_wp2
    go_loop[31] (fun i=>∃ k:Nat,k<=ng/\i = .int .i64 k) (fun i=>ng-(intOf i).toNat)
    case atStart=>exact⟨0,f8 _,rfl⟩
    case round =>
     clear c;obtain⟨k,W,rfl⟩:=hrel;by_cases c:k<ng
     · obtain⟨R,og,B,m,C,rfl,I,d⟩:=l.at c;have X:(gs.getD k []).length=n:=(y.out _ (by simp[K.out,c])).2;have q:m=n:=by have:=d.len;omega
       have Y:((m:Int) != (n:Int))=false:=by simp[q]
       clear X q d;go_wp2;go_round
       case rel=>exact⟨k+1,by omega,by go_num⟩
       case measure=>simp[intOf];omega
     · go_wp2_with fail
       refine(Di l J y.out).mono ?_;rintro e w1 ⟨r,L,rfl,g,hr,U,t,b⟩;have M:=z.out L t b;have F:0<L.length:=j4 ((b _).2 (Iv gs n))
       go_wp2_with fail
       refine(Fi U J (fun x Z=>(Ci J y.out ((b x).1 Z)).2) (by omega) F).mono ?_;rintro e w2 ⟨o,⟨Q,n2,T,f,rfl,E,s,G,H⟩,a,v⟩;have A:=eP s;clear s;go_wp2
       go_ret2
       have j:=D.trans g;refine⟨o,⟨Q,n2,T,f,rfl,j.trans E,A.out,Own.mono G j.size,?_⟩,a.nodup_iff.2 t,fun p=>by rw[a.mem_iff,b],by rw[a.length_eq];exact v⟩;intro i V;obtain⟨P,n',S,h1,h2⟩:=H i V;exact⟨P,n',S,h1,Own.mono h2 j.size⟩
def awG:List (List Int):=[[1,2,0]]
def awE:List (List Int):=[[0,1,2],[1,2,0],[2,0,1]]
theorem Oo(p:List Int):p∈awE<->BI awG 3 p:=by
 constructor
 · intro h;simp only[awE,fS,ia,jL]at h;rcases h with rfl|rfl|rfl
   · exact⟨[],by simp,by decide⟩
   · exact⟨[[1,2,0]],by simp[awG],by decide⟩
   · exact⟨[[1,2,0],[1,2,0]],by simp[awG],by decide⟩
 · rintro⟨a,h1,rfl⟩
   induction a with
   | nil=>decide
   | cons g a ih =>
    have b:g=[1,2,0]:=by simpa[awG]using h1 g (by simp)
    have:=ih (fun x c=>h1 x (by simp[c]));subst b;rw[List.foldr_cons];revert this;generalize List.foldr comp (idn 3) a=q;intro this;simp only[awE,fS,ia,jL]at this;rcases this with rfl|rfl|rfl <;> decide
theorem Fx(a:cs.size=n)(h6:n<=1000000)(h:cs.toList=xs.map (Value.int .i64)):SlI (w.alloc (.cells cs 3)) (some ⟨w.heap.size,0,none⟩) n n xs:=by
 have:=(Ag w 0 3 cs n a (f8 _) h6).sl;rw[h]at this;exact this
theorem Oq(f:cs.size=n)(h6:n<=1000000)(e:xss.length=n)(h:∀ i,i<n->∃ a c b,cs.toList.getD i undef = .slice a c b/\SlI w a c b (xss.getD i [])) :
 SlL (w.alloc (.cells cs 35)) (some ⟨w.heap.size,0,none⟩) n n xss:=by
 refine⟨e,cs.toList,(Ag w 0 35 cs n f (f8 _) h6).sl,fun i d => ?_⟩;obtain⟨a,c,b,h1,h2⟩:=h i d;exact⟨a,c,b,h1,h2.ext ((Ext.refl w).alloc _)⟩
theorem Me:∀ L:List (List Int),L.Nodup->(∀ p,p∈L<->BI awG 3 p)->L.length<=12:=by
 intro L b a;have:=nodup_le L awE b (fun x c=>(Oo x).2 ((a x).1 c));simp[awE]at this;omega
theorem Mf:GC awG 3:=by
 intro g a;have:g=[1,2,0]:=by simpa[awG]using a
 subst this;exact⟨by decide,rfl⟩
theorem SW:Ed awE 0 awE.length:=by
 intro i j h1 h2 h3;have:j<3:=h3;have:(i=0/\j=1)\/(i=0/\j=2)\/(i=1/\j=2):=by omega
 rcases this with⟨rfl,rfl⟩|⟨rfl,rfl⟩|⟨rfl,rfl⟩ <;> decide
theorem B8:Calls prog 7 #[] w fun e V=>e = .returned (.bool true)/\Ext w V:=by
 go_enter func7,ntmps7
 go_wp2_with fail
 have s1:SlI ((w.alloc (.cells #[.int .i64 1,.int .i64 0,.int .i64 2] 3)).alloc (.cells #[.int .i64 0,.int .i64 2,.int .i64 1] 3)) (some ⟨w.heap.size,0,none⟩) 3 3 [1,0,2]:=(Fx (w:=w) (cs:=#[.int .i64 1,.int .i64 0,.int .i64 2]) (xs:=[1,0,2]) (n:=3) rfl (by omega) rfl).ext ((Ext.refl _).alloc _);have O:SlI ((w.alloc (.cells #[.int .i64 1,.int .i64 0,.int .i64 2] 3)).alloc (.cells #[.int .i64 0,.int .i64 2,.int .i64 1] 3)) (some ⟨w.heap.size+1,0,none⟩) 3 3 [0,2,1]:=by
  have:=Fx (w:=w.alloc (.cells #[.int .i64 1,.int .i64 0,.int .i64 2] 3)) (cs:=#[.int .i64 0,.int .i64 2,.int .i64 1]) (xs:=[0,2,1]) (n:=3) rfl (by omega) rfl;simpa using this
 have r:Ext w ((w.alloc (.cells #[.int .i64 1,.int .i64 0,.int .i64 2] 3)).alloc (.cells #[.int .i64 0,.int .i64 2,.int .i64 1] 3)):=((Ext.refl w).alloc _).alloc _;refine(Ju s1 O).mono ?_;rintro e b ⟨W,n1,Y,rfl,s,p⟩;have B:A2 [1,0,2] [0,2,1]=([1,2,0],0):=by decide
 rw[B]at p |-;have d:=r.trans s;have k:=p.sl;clear s1 O r s p B
 go_wp2_with fail
 have P:SlL ((b.alloc (.cells #[.int .i64 1,.int .i64 2,.int .i64 0] 3)).alloc (.cells #[.slice (some ⟨b.heap.size,0,none⟩) 3 3] 35)) (some ⟨b.heap.size+1,0,none⟩) 1 1 awG:=by
  have:=Oq (w:=b.alloc (.cells #[.int .i64 1,.int .i64 2,.int .i64 0] 3)) (cs:=#[.slice (some ⟨b.heap.size,0,none⟩) 3 3]) (xss:=awG) (n:=1) rfl (by omega) rfl (by
   intro i T;have:i=0:=by omega
   subst this
   exact⟨_,_,_,rfl,Fx (w:=b) (cs:=#[.int .i64 1,.int .i64 2,.int .i64 0]) (xs:=[1,2,0]) (n:=3) rfl (by omega) rfl⟩)
  simpa using this
 have m:Ext b ((b.alloc (.cells #[.int .i64 1,.int .i64 2,.int .i64 0] 3)).alloc (.cells #[.slice (some ⟨b.heap.size,0,none⟩) 3 3] 35)):=((Ext.refl b).alloc _).alloc _;refine(F4 (n:=3) P (by omega) Mf (by omega) Me).mono ?_;rintro e H ⟨U,⟨X,n2,Z,I,rfl,o,D,y,z⟩,E,g,j⟩;have J:U=awE:=IA E (by decide) (fun x=>by rw[g,Oo]) j SW;subst J;have l:=GH D y z;have f:=d.trans (m.trans o);have F:=k.ext (m.trans o);clear D y z E g j m o d k P
 go_wp2_with fail
 have c:Ext H (H.alloc (.cells #[.int .i64 1,.int .i64 2,.int .i64 0] 3)):=(Ext.refl H).alloc _;refine(GR (F.ext c) (Fx (w:=H) (cs:=#[.int .i64 1,.int .i64 2,.int .i64 0]) (xs:=[1,2,0]) (n:=3) rfl (by omega) rfl)).mono ?_;rintro e a ⟨rfl,q⟩;have C:decide (([1,2,0]:List Int)=[1,2,0])=true:=by decide
 rw[C];have t:=f.trans (c.trans q.ext);have G:=l.ext (c.trans q.ext);clear f c q F l C
 go_wp2_with fail
 have N:=Fx (w:=a) (cs:=#[.int .i64 0,.int .i64 1,.int .i64 2]) (xs:=[0,1,2]) (n:=3) rfl (by omega) rfl;have K:=Fx (w:=a.alloc (.cells #[.int .i64 0,.int .i64 1,.int .i64 2] 3)) (cs:=#[.int .i64 1,.int .i64 2,.int .i64 0]) (xs:=[1,2,0]) (n:=3) rfl (by omega) rfl;have L:=Fx (w:=(a.alloc (.cells #[.int .i64 0,.int .i64 1,.int .i64 2] 3)).alloc (.cells #[.int .i64 1,.int .i64 2,.int .i64 0] 3)) (cs:=#[.int .i64 2,.int .i64 0,.int .i64 1]) (xs:=[2,0,1]) (n:=3) rfl (by omega) rfl
 have Q:(a.alloc (.cells #[.int .i64 0,.int .i64 1,.int .i64 2] 3)).heap.size=a.heap.size+1:=by simp
 have R:((a.alloc (.cells #[.int .i64 0,.int .i64 1,.int .i64 2] 3)).alloc (.cells #[.int .i64 1,.int .i64 2,.int .i64 0] 3)).heap.size=a.heap.size+1+1:=by simp
 have S:(((a.alloc (.cells #[.int .i64 0,.int .i64 1,.int .i64 2] 3)).alloc (.cells #[.int .i64 1,.int .i64 2,.int .i64 0] 3)).alloc (.cells #[.int .i64 2,.int .i64 0,.int .i64 1] 3)).heap.size=a.heap.size+1+1+1:=by simp
 rw[Q]at K;rw[R]at L
 have M:=Oq (w:=((a.alloc (.cells #[.int .i64 0,.int .i64 1,.int .i64 2] 3)).alloc (.cells #[.int .i64 1,.int .i64 2,.int .i64 0] 3)).alloc (.cells #[.int .i64 2,.int .i64 0,.int .i64 1] 3))
  (cs:=#[.slice (some ⟨a.heap.size,0,none⟩) 3 3,.slice (some ⟨a.heap.size+1,0,none⟩) 3 3,.slice (some ⟨a.heap.size+1+1,0,none⟩) 3 3]) (xss:=awE) (n:=3) rfl (by omega) rfl (by
   intro i T;have:i=0\/i=1\/i=2:=by omega
   rcases this with rfl|rfl|rfl
   · exact⟨_,_,_,rfl,(N.ext ((Ext.refl _).alloc _)).ext ((Ext.refl _).alloc _)⟩
   · exact⟨_,_,_,rfl,K.ext ((Ext.refl _).alloc _)⟩
   · exact⟨_,_,_,rfl,L⟩)
 rw[S]at M;refine(Ft (G.ext ((((Ext.refl a).alloc _).alloc _).alloc _ |>.alloc _)) M).mono ?_;rintro e w4 ⟨rfl,A⟩;have C:decide (awE=awE)=true:=by decide
 rw[C];have v:=(t.trans ((((Ext.refl a).alloc _).alloc _).alloc _ |>.alloc _)).trans A.ext;clear N K L Q R S M A G C;go_wp2;go_ret;exact⟨rfl,v⟩
end Go.Proofs.YthdbingomfdeoaaGreatDoor
namespace Go.Proofs.YthdbingomfdeoaaGreatDoor
open Tryz Go Go.RowKit Go.ChangeShapes Go.WideShapes Go.ChangeAt
variable {x y:Addr} {held:Bool} {zs:List Int} {cs:List Value} {base cap fuel k len:Nat} {a:Option Addr} {v:Value} {w:World}
theorem GK(h:w.cell? x=some v):x.spot=none:=by
 unfold World.cell? at h;split at h
 · cases a:x.spot with
   | none=>rfl
   | some s=>rw[a]at h;simp at h
 · cases h
theorem Ew{b a i:Nat}:Addr.add ⟨b,a,none⟩ i=⟨b,a+i,none⟩:=by
 unfold Addr.add;split
 · next h=>subst h;rfl
 · rfl
theorem Ot 
 (h:(a=none/\len=0/\cap=0/\zs=[])\/∃ x,a=some x/\len<=cap/\cap<=maxLen/\zs.length=cap/\(∀ i,i<zs.length->w.cell? (x.add i)=some (.int .i64 (zs.getD i 0)))) :
 SlI w a len cap (zs.take len):=by
 rcases h with⟨rfl,rfl,rfl,rfl⟩|⟨x,rfl,h1,h2,h3,h4⟩
 · exact Sl.nil w
 · refine⟨by simp;omega,h1,h2,fun g => ?_⟩;have h0:=h4 0 (by omega);have e:x.spot=none:=GK (x:=x) (by simpa[Addr.add]using h0);obtain⟨b,d,j⟩:=x;simp only at e;subst e;refine⟨b,d,rfl,fun i f => ?_⟩;have:=h4 i (by omega);rw[Ew]at this;rw[this];have c:i<zs.length:=by omega
   simp[f,c]
theorem IL{Q:Nat->List Value->Tx->Prop}:∀ n:Nat,(∀ i,i<n->∃ r t,Q i r t)->∃ (a:List (List Value)) (b:List Tx),a.length=n/\b.length=n/\∀ i,i<n->Q i (a.getD i []) (b.getD i tm0)
 | 0,_=>⟨[],[],rfl,rfl,fun i c=>absurd c (by omega)⟩
 | n+1,h=>by
  obtain⟨a,b,h1,h2,h3⟩:=IL n (fun i c=>h i (by omega));obtain⟨r,t,h4⟩:=h n (by omega);refine⟨a ++ [r],b ++ [t],by simp[h1],by simp[h2],fun i c => ?_⟩;by_cases e:i=n
  · subst e;have d:(a ++ [r]).getD i []=r:=by rw[gqq,fF (by omega),h1,iW];rfl
    have f:(b ++ [t]).getD i tm0=t:=by rw[gqq,fF (by omega),h2,iW];rfl
    rw[d,f];exact h4
  · rw[gqq,f4 (by omega),<-gqq,gqq (l:=b ++ [t]),f4 (by omega),<-gqq];exact h3 i (by omega)
theorem Mh(h:w.cells? base y k=some cs):cs.length=k/\∀ j,j<k->∃ v,cs[j]?=some v/\w.cell? (y.add j)=some v:=by
 unfold World.cells? at h;split at h
 · refine⟨by have:=Lib.mapM_length h;simpa using this,fun j a => ?_⟩;obtain⟨b,h1,h2⟩:=Lib.mapM_at h j j (by simp[a]);exact⟨b,h1,h2⟩
 · cases h
theorem Nm:prog.cellsOf 46=2:=by kernel_rfl
theorem PR:prog.cellsOf 9=1:=by kernel_rfl
theorem Ke:prog.cellsOf 3=1:=by kernel_rfl
theorem Nn:prog.cellsOf 35=1:=by kernel_rfl
theorem Mi:prog.cellsOf 22=1:=by kernel_rfl
theorem Np{H:Type}{enc:TypeId×Value->H}{x:DataW H×List MemPlace}
 (h:DataW.trod enc prog w base (fun _=>true) held fuel 35 cs=some x):∃ a n c j,cs=[.slice a n c]/\SlI w a n c j:=by
 rcases open_ints underlying35 underlying3 Ke h with⟨d,_⟩|⟨y,l,c,zs,d,_,e,f,i,_,b,g⟩
 · exact⟨none,0,0,_,d,Ot (zs:=[]) (.inl ⟨rfl,rfl,rfl,rfl⟩)⟩
 · exact⟨_,_,_,_,d,Ot (zs:=zs) (.inr ⟨_,rfl,e,f,by simpa using i,b⟩)⟩
theorem Nq{H:Type}{enc:TypeId×Value->H}{x:DataW H×List MemPlace}
 (h:DataW.trod enc prog w base (fun _=>true) held fuel 22 cs=some x):∃ a n c J,cs=[.slice a n c]/\CS w a n c J:=by
 rcases DataW.trod_slice underlying22 h with⟨g,_⟩|⟨y,l,B,C,N,T,_,g,_,U,O,P,L,p,_,_⟩
 · exact⟨none,0,0,[],g,[],SlK.nil w 2,rfl,fun i d=>absurd d (by omega)⟩
 · rw[Nm]at p;have F:∀ i,i<l->∃ (r:List Value) (t:Tx),r.length=2/\Se w r t/\∀ j,j<2->w.cell? ((y.add (i*2)).add j)=some (r.getD j undef):=by
    intro i d;have h1:=p i d;rw[eQ (by omega),Option.bind_eq_some_iff]at h1;obtain⟨e,h2,h3⟩:=h1;obtain⟨D,f⟩:=Mh h2;obtain⟨W,X,k,_,_,u0,u1⟩:=trod_struct2 underlying46 h3;obtain⟨s,e0,_,_⟩:=DataW.trod_string underlying9 u0;obtain⟨z,G,A,S,K,R⟩:=Np u1;have m:(e.drop 0).take (prog.cellsOf 9)=[.string s]:=e0;have o:(e.drop 1).take (prog.cellsOf 35)=[.slice z G A]:=K;rw[PR]at m;rw[Nn]at o;clear e0 K u0 u1 h3
    match e,D,m,o with
    | [v0,v1],_,m,o =>
     simp only[gm,ij,ks,gZ,jw,iL]at m o;subst m;subst o;refine⟨[.string s,.slice z G A],(Ad s,S),rfl,⟨s,z,G,A,rfl,rfl,R⟩,fun j E => ?_⟩;obtain⟨v,h4,h5⟩:=f j E;rw[h5,gqq,h4];rfl
   obtain⟨q,J,h1,h2,h3⟩:=IL l F;refine⟨some y,l,B,J,g,q,⟨h1,O,P,fun r Q => ?_,fun h0 => ?_⟩,h2,fun i d=>(h3 i d).2.1⟩
   · obtain⟨i,d,rfl⟩:=iw.1 Q;have:=(h3 i (by omega)).1;simpa[d]using this
   · have M:y.spot=none:=by
      have h4:=(h3 0 h0).2.2 0 (by omega);have h5:=GK h4;simpa[Addr.add]using h5
     obtain⟨b,I,V⟩:=y;simp only at M;subst M;refine⟨b,I,rfl,fun i d j E => ?_⟩;have h4:=(h3 i d).2.2 j E
     rwa[Ew,Ew]at h4
theorem Kf{H:Type}{enc:TypeId×Value->H}{x:DataW H×List MemPlace}
 (h:DataW.trod enc prog w base (fun _=>true) held fuel 24 cs=some x):∃ b a n c i,cs=[.int .i64 b,.slice a n c]/\(-9223372036854775808<=b/\b<=9223372036854775807)/\CS w a n c i:=by
 obtain⟨p,q,k,_,l,u0,u1⟩:=trod_struct2 underlying24 h;obtain⟨b,e0,_,f⟩:=DataW.trod_int underlying3 u0;have g : -9223372036854775808<=b/\b<=9223372036854775807:=by
  simp only[Lit.wf,gJ,iY]at f;exact f
 obtain⟨a,n,c,i,j,o⟩:=Nq u1;have m:prog.cellsOf 24=2:=by kernel_rfl
 rw[m]at l;have d:(cs.drop 0).take (prog.cellsOf 3)=[.int .i64 b]:=e0;have e:(cs.drop 1).take (prog.cellsOf 22)=[.slice a n c]:=j;rw[Ke]at d;rw[Mi]at e;clear e0 j u0 u1 h
 match cs,l,d,e with
 | [v0,v1],_,d,e =>
  simp only[gm,ij,ks,gZ,jw,iL]at d e;subst d;subst e;exact⟨b,a,n,c,i,rfl,g,o⟩
end Go.Proofs.YthdbingomfdeoaaGreatDoor
namespace Go.Proofs.YthdbingomfdeoaaGreatDoor
open Tryz Go Go.RowKit Go.ChangeShapes Go.WideShapes Go.ChangeAt
variable {held:Bool} {base c fuel n:Nat} {a:Option Addr} {w:World}
theorem G9{Q:Nat->List Value->(Int×List Tx)->Prop}:∀ n:Nat,(∀ i,i<n->∃ r t,Q i r t)->∃ (a:List (List Value)) (b:List (Int×List Tx)),a.length=n/\b.length=n/\∀ i,i<n->Q i (a.getD i []) (b.getD i pz)
 | 0,_=>⟨[],[],rfl,rfl,fun i c=>absurd c (by omega)⟩
 | n+1,h=>by
  obtain⟨a,b,h1,h2,h3⟩:=G9 n (fun i c=>h i (by omega));obtain⟨r,t,h4⟩:=h n (by omega);refine⟨a ++ [r],b ++ [t],by simp[h1],by simp[h2],fun i c => ?_⟩;by_cases e:i=n
  · subst e;have d:(a ++ [r]).getD i []=r:=by rw[gqq,fF (by omega),h1,iW];rfl
    have f:(b ++ [t]).getD i pz=t:=by rw[gqq,fF (by omega),h2,iW];rfl
    rw[d,f];exact h4
  · rw[gqq,f4 (by omega),<-gqq,gqq (l:=b ++ [t]),f4 (by omega),<-gqq];exact h3 i (by omega)
theorem Nr:prog.cellsOf 24=2:=by kernel_rfl
theorem IM{H:Type}{enc:TypeId×Value->H}{x:DataW H×List MemPlace}
 (h:DataW.trod enc prog w base (fun _=>true) held fuel 25 [.slice a n c]=some x):∃ S,PSl w a n c S:=by
 rcases DataW.trod_slice underlying25 h with⟨f,_⟩|⟨y,R,K,s,J,T,_,f,_,U,N,O,G,l,_,_⟩
 · simp only[jw,eY,iL]at f;obtain⟨rfl,rfl,rfl⟩:=f;exact⟨[],[],SlK.nil w 2,rfl,fun i g=>absurd g (by omega)⟩
 · simp only[jw,eY,iL]at f;obtain⟨rfl,rfl,rfl⟩:=f;rw[Nr]at l;have B:∀ i,i<n->∃ (r:List Value) (t:Int×List Tx),r.length=2/\(∃ A m d,r=B4 t.1 A m d/\CS w A m d t.2)/\∀ j,j<2->w.cell? ((y.add (i*2)).add j)=some (r.getD j undef):=by
    intro i g;have h1:=l i g;rw[eQ (by omega),Option.bind_eq_some_iff]at h1;obtain⟨L,h2,h3⟩:=h1;obtain⟨M,k⟩:=Mh h2;obtain⟨F,p,C,q,E,e,_,Q⟩:=Kf h3;subst e;refine⟨_,(F,E),rfl,⟨p,C,q,rfl,Q⟩,fun j z => ?_⟩;obtain⟨v,h4,h5⟩:=k j z;have h6:(B4 F p C q)[j]?=some v:=h4;rw[h5,gqq];show some v=some ((B4 F p C q)[j]?.getD undef);rw[h6];rfl
   obtain⟨o,E,h1,h2,h3⟩:=G9 n B;refine⟨E,o,⟨h1,N,O,fun r P => ?_,fun h0 => ?_⟩,h2,fun i g=>(h3 i g).2.1⟩
   · obtain⟨i,g,rfl⟩:=iw.1 P;have:=(h3 i (by omega)).1;simpa[g]using this
   · have I:y.spot=none:=by
      have h4:=(h3 0 h0).2.2 0 (by omega);have h5:=GK h4;simpa[Addr.add]using h5
     obtain⟨b,D,V⟩:=y;simp only at I;subst I;refine⟨b,D,rfl,fun i g j z => ?_⟩;have h4:=(h3 i g).2.2 j z
     rwa[Ew,Ew]at h4
end Go.Proofs.YthdbingomfdeoaaGreatDoor
