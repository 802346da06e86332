/- Part Pq19. -/
import Derived.Test.YtlbmnokpiilfpaaGreatDoorPq18

set_option linter.all false
set_option maxRecDepth 100000
set_option maxHeartbeats 100000000
namespace Go.Proofs.YtlbmnokpiilfpaaGreatDoor
open Tryz Go Go.RowKit
def kA:=@List.length_set
variable {s:Bool} {C D L M N c d i k n sa sb:Nat} {A B a b:Option Addr} {q:Rat} {v v':Value} {w w':World}
def FJ(sa sb:Nat)(s:Pl.Tm)(b:List Pl.Tm):List Pl.Tm:=b.map (fun t=>(Pl.plE s.1 t.1,((Pl.zsc s.2 sa*Pl.zsc t.2 sb:Int):Rat)))
theorem PT{a b:List Pl.Tm}(h:k<a.length):Pl.prodZ sa sb (a.take (k+1)) b=Pl.prodZ sa sb (a.take k) b ++ FJ sa sb (a.getD k ([],0)) b:=by
 unfold Pl.prodZ FJ;rw[gM h,List.flatMap_append];simp[h]
theorem So{s:Pl.Tm}{b:List Pl.Tm}(h:k<b.length):FJ sa sb s (b.take (k+1))=FJ sa sb s (b.take k) ++ [(Pl.plE s.1 (b.getD k ([],0)).1,((Pl.zsc s.2 sa*Pl.zsc (b.getD k ([],0)).2 sb:Int):Rat))]:=by
 unfold FJ;rw[gM h,iJ];simp[h]
theorem F6{a b:List Pl.Tm}:(Pl.prodZ sa sb a b).length=a.length*b.length:=by
 unfold Pl.prodZ
 induction a with
 | nil=>simp
 | cons t r ih=>rw[lF,iD,ih];simp[iW];omega
theorem TH{s:Pl.Tm}{b:List Pl.Tm}:(FJ sa sb s b).length=b.length:=by simp[FJ]
theorem Jl{b:Nat}(c:Pl.RB b q)(a:k<P2 d):(Pl.zsc q k).natAbs<P2 (b+d):=by
 unfold Pl.zsc;rw[jC,il];exact BJ c.1 (gN (iI _ _) a)
def SmP(w2:World)(r:Nat)(p:List Pl.Tm)(wr:World):Prop:=∃ fs,BP w2 r (300+40*p.length) fs wr/\Hid (∀ e,Pl.coef (lqF fs) e=Pl.coef p e)/\fs.length<=p.length
def SmI(w2 w4:World)(H0 r:Nat)(p:List Pl.Tm)(wr:World):Prop:=∃ fs,BP w2 r (300+40*p.length) fs wr/\Hid (∀ e,Pl.coef (lqF fs) e=Pl.coef p e)/\fs.length<=p.length/\Hid (Gap H0 w4.heap.size fs)/\Hid (Gw H0 w4 wr)
theorem TI{m:Nat}(h:CJ w (Al s a n c false b m d) q)(z:w.heap.size<=w'.heap.size):XZ (fun g=>g<w'.heap.size) (.agg (Al s a n c false b m d).toArray):=by
 obtain⟨s1,A,K,E,C,I,G,e,_,h2,_⟩:=h;intro M B L F D J H p h0 g y;simp only[Al,Ac,Value.agg.injEq,Array.mk.injEq,jT,jo,lh,oN,gW,jp,lI]at e p;obtain⟨_,⟨r,v,t⟩,_⟩:=e;obtain⟨_,⟨f,k,i⟩,_⟩:=p;subst f k i;subst r v t;obtain⟨N,h3,_⟩:=h2;obtain⟨l,o,rfl,x⟩:=h3.at (j:=0) h0;have:l=g:=by simpa[blk]using y
 subst this;exact ib (jq w ⟨l,o+0,none⟩ (x 0 h0)) z
theorem MW{x:Nat}(h:Wd w a n c x)(f:w.heap.size<=w'.heap.size):0<n->∀ g,blk a=some g->g<w'.heap.size:=by
 intro h0 g e;obtain⟨i,h3,_⟩:=h;obtain⟨b,o,rfl,d⟩:=h3.at (j:=0) h0;have:b=g:=by simpa[blk]using e
 subst this;exact ib (jq w ⟨b,o+0,none⟩ (d 0 h0)) f
def Dd(d:Nat)(fs:SF):List Pl.Tm:=(lzF fs).map (fun f=>(f.1,mkRat f.2 d))
theorem EC(d:Nat)(fs:SF):(Dd d fs).length=fs.length:=by simp[Dd,lzF]
theorem L4(d:Nat)(fs:SF):(Dd d fs).map (·.1)=fs.map (·.1):=by simp[Dd,lzF]
theorem TJ{fs:SF}{f:List Int×Dc}(h:fs[i]?=some f):(Dd d fs).getD i ([],0)=(f.1,mkRat f.2.z d):=by
 unfold Dd lzF;rw[gqq,me,me,h];rfl
theorem PU(a:Nat):P2 a<P2 (a+1):=by
 rw[Bw];have:=KW a;show P2 a<P2 a*2;omega
theorem TK{la lb:List Pl.Tm}{fs:SF}(g:∀ t∈la,Pl.RB 1000 t.2)(i:∀ t∈lb,Pl.RB 1000 t.2)(b:sa<P2 257)(d:sb<P2 257)(n:(fs.map (·.1)).Nodup)(j:∀ e,Pl.coef (lqF fs) e=Pl.coef (Pl.prodZ sa sb la lb) e)(l:la.length*lb.length<=1000000){f:List Int×Dc}(k:f∈fs):f.2.z.natAbs<P2 2600:=by
 have h1:∀ t∈Pl.prodZ sa sb la lb,∃ c:Int,t.2=(c:Rat)/\c.natAbs<=P2 2514:=by
  intro t a;unfold Pl.prodZ at a;obtain⟨s,o,a⟩:=jS.1 a;obtain⟨u,hu,rfl⟩:=ie.1 a;refine⟨_,rfl,ko ?_⟩;rw[jC];exact Af (BJ (Jl (g s o) b) (Jl (i u hu) d)) (by omega)
 obtain⟨z,h2,h3⟩:=Pl.coef_int f.1 h1;have h4:Pl.coef (lqF fs) f.1=(f.2.z:Rat):=by
  have m:(f.1,(f.2.z:Rat))∈lqF fs:=ie.2 ⟨(f.1,f.2.z),ie.2 ⟨f,k,rfl⟩,rfl⟩;exact Pl.coef_mem (t:=(f.1,(f.2.z:Rat))) (by rw[Ok];exact n) m
 have h5:f.2.z=z:=by
  rw[j,h2]at h4;exact(Rat.intCast_inj.1 h4).symm
 rw[h5];rw[F6]at h3;have h6:la.length*lb.length*P2 2514<=P2 20*P2 2514:=gH _ (gJ l (by unfold P2;omega));rw[<-Bw]at h6
 exact Af (gN (gJ h3 h6) (by
  exact PU _)) (by omega)
def NSl(e:List Int)(q:Rat)(v:Value)(w:World):Prop:=∃ Z s a n c b m d,v = .slice (some ⟨Z,0,none⟩) 1 1/\Arr w Z 92 (As e s a n c b m d)/\CJ w (Al s a n c false b m d) q
theorem NSl.x(e:List Int)(q:Rat):StX (NSl e q):=fun _ _ _ x ⟨Z,s,a,n,c,b,m,d,h1,h2,h3⟩=>⟨Z,s,a,n,c,b,m,d,h1,h2.ext x,h3.ext x⟩
def YN(w w5:World)(r it g c:Nat)(l:List Pl.Tm)(v:Value)(wr:World):Prop :=
 ∃ seen n rows,v = .slice (some ⟨g,0,none⟩) n c/\Ext w5 wr/\AN wr it r l.length seen/\seen.Nodup/\(∀ i∈seen,i<l.length)/\Er wr w.heap.size 92 10 g n c rows /\
  (Pl.picked l seen).length=n/\Hid (∀ i,i<n->BB wr (rows.getD i []) ((Pl.picked l seen).getD i ([],0)))
theorem Gx{la lb:List Pl.Tm}(hT:AM w)(bC:Bn w A N C la)(fp:Bn w B M D lb)(fS:AF w v (sa:Int))(fT:AF w v' (sb:Int))
 (ha:∀ t∈la,t.2.den∣sa) (hb:∀ t∈lb,t.2.den∣sb) (ej:sa≠0) (ek:sb≠0) (ba:∀ t∈la,Pl.RB 1000 t.2) (bb:∀ t∈lb,Pl.RB 1000 t.2) (eE:sa<P2 257) (eF:sb<P2 257) (ea:Bp la) (eb:Bp lb) (hN:N<=1000000) (hM:M<=1000000) (dW:N*M<=1000000) :
 Calls prog 159 #[.slice A N C,.slice B M D,v,v'] w (fun e w'=>∃ cW,J4 w cW e w'/\Pl.Nrm cW/\∀ e,Pl.coef cW e=Pl.coef (Pl.prodT la lb) e):=by
 obtain⟨s,a,n,c,rfl,HS,hx⟩:=fS;obtain⟨t,b,m,d,rfl,HT,hy⟩:=fT;obtain⟨gj,fu,ex,e5⟩:=bC;obtain⟨gl,e8,ey,e6⟩:=fp;have fc:=qh e5;have dI:=qh e6;have aD:=qh ex;have a3:=qh ey;have dC:=qh (And.intro ha hb);have dB:=qh ba;have ce:=qh bb;have f6:=qh ea;have f7:=qh eb;have aS:=qh eE;have b7:=qh eF;have bv:=qh (And.intro ej ek);clear e5 e6 ex ey ha hb ba bb ea eb eE eF ej ek
 go_enter func159,ntmps159
 go_upto_region 1 with(fail)
 refine Cf ?_;intro w0 bz cn co ao;have eK:=cn.c 0 rfl;have eL:=cn.c 1 rfl;have cX:=co.c 0 rfl;have cY:=co.c 1 rfl;clear cn co ao;have dt:nuR (List.replicate M (Ac false none 0 0)):=fun r hr u hu=>by rw[(jb.1 hr).2]at hu;exact Ax _ _ _ _ u hu
 go_upto_region 2 with(refine E0 rfl rfl (by kernel_rfl) J7 rfl rfl (by omega) (by unfold maxLen;omega) ?_;intro w1 dX dQ)
 have c2:=dX.mono bz.size;obtain⟨R,hR⟩:∃ R,w0.heap.size=R:=⟨_,rfl⟩;rw[hR]at c2 |-;clear dX;go_wp2
 go_loopw[30] (fun iv wr=>∃ (k:Nat) (rs:List (List Value)),iv = .int .i64 k/\k<=M/\Ext w0 wr/\AR wr w.heap.size 83 2 (some ⟨R,0,none⟩) M M rs/\nuR rs/\Hid (∀ i,i<k->GW wr (rs.getD i []) (Pl.zsc (lb.getD i ([],0)).2 sb))) (fun iv _=>M-(intOf iv).toNat)
 case atStart=>exact⟨0,_,rfl,gO _,dQ,c2,dt,qh (fun i hi=>absurd hi (by omega))⟩
 case round =>
  clear c2 dQ dt;obtain⟨k,rs,rfl,hk,hE,hO,cG,bt⟩:=hrel;by_cases a2:k<M
  · have a7:=e8.ext (bz.trans hE);obtain⟨bb,g0,rfl,_⟩:=a7.rd (by omega);obtain⟨sy,ay,ny,cy,b8,my,dy,U,h6,af⟩:=dI.out k a2;have aa:Hid (Pl.RB 1000 (lb.getD k ([],0)).2):=qh (ce.out _ (by simp[a3.out,a2]));obtain⟨tt,cI⟩:∃ tt,lb.getD k ([],0)=tt:=⟨_,rfl⟩;rw[cI]at U h6 af aa;have fh:=qh cI;clear cI;obtain⟨te,tq⟩:=tt;obtain⟨y0,y1,y2,y3,y4,y5,ab⟩:=Bt h6;simp only at ab U af aa;subst ab;have hY:=Arr.new wr 92 (As [0,0,0,0,0,0] false none 0 0 none 0 0)
    go_upto_region 5 with(first
     | (refine Bg rfl rfl At rfl a7 a2 ?_;rw[U])
     | (refine Aa (vs:=As [y0,y1,y2,y3,y4,y5] sy ay ny cy b8 my dy) rfl rfl rfl rfl rfl At hY rfl AI ?_;intro w3 aT en))
    have aE:Ext wr w3:=((Ext.refl wr).alloc _).grownR en (lrf _);have bD:=hO.ext aE;have f3:Hid (∀ i,i<k->GW w3 (rs.getD i []) (Pl.zsc (lb.getD i ([],0)).2 sb)):=qh fun i hi=>(bt.out i hi).ext aE;have bl:=hE.trans aE;have dl:=bz.trans bl;have fe:=qh (bD.len (by omega));have fw:=bD.noU cG
    have f0:=qh (JZ (w:=w3) (v := .agg #[.bool sy,.slice ay ny cy,.bool false,.slice b8 my dy]) (q:=tq) ⟨Al sy ay ny cy false b8 my dy,rfl,af.ext dl⟩ (v' := .agg #[.bool t,.slice b m d]) (k:=sb) ⟨t,b,m,d,rfl,HT,hy.ext dl⟩ (Af aa.out.1 (by omega)) (Af aa.out.2 (by omega)) (Af b7.out (by omega)));have gz:=bl.cell cX;have gA:=bl.cell cY;clear hY en hO hE aE U h6 a7 bt af;generalize wr.heap.size=X at *
    have c0:=aT.c 0 rfl;have c6:=aT.c 6 rfl;have c7:=aT.c 7 rfl;have c8:=aT.c 8 rfl;have c9:=aT.c 9 rfl;clear aT
    go_wp2_with fail
    refine f0.out.mono ?_;rintro e w5 ⟨s5,a5,n5,c5,rfl,al,fg,cJ⟩;have fr:=bD.ext al;have ec:=fw.ext (bD.lt (g:=R) rfl).2 al;have gx:(Ac s5 a5 n5 c5).toArray=#[.bool s5,.slice a5 n5 c5]:=rfl
    go_wp2_with(refine Id (vs:=Ac s5 a5 n5 c5) rfl rfl (by omega) Ai rfl rfl rfl fr a2 rfl (Ae _ _ _ _) ?_;intro w6 aH cD)
    go_roundw
    case rel =>
     refine⟨k+1,_,by go_num,by omega,(bl.trans al).grownR cD (by omega),aH,?_,qh fun i hi => ?_⟩
     · intro r hr u hu;rcases j7 hr with h|h
       · exact cG r h u hu
       · rw[h]at hu;exact Ax _ _ _ _ u hu
     · by_cases er:i=k
       · subst er;rw[fh.out,gqq,jF (by rw[fe.out];exact a2)];exact GW.keptU ⟨s5,a5,n5,c5,rfl,fg,cJ⟩ ec cD
       · rw[gqq,List.getElem?_set_ne (by omega),<-gqq];exact((f3.out i (by omega)).ext al).keptU ec cD
    case measure=>simp[intOf];omega
  · have bG:k=M:=by omega
    subst bG;have aQ:=bz.trans hE;have ft:=hO.slk (by omega);have eT:R<wr.heap.size:=(hO.lt (g:=R) rfl).2;have eM:=hE.cell eK;have eN:=hE.cell eL;have g1:=hE.cell cX;have g2:=hE.cell cY;clear eK eL cX cY hE hO cG a2 hk;obtain⟨w2,rfl⟩:∃ x:World,x=wr:=⟨_,rfl⟩;have fd:=bt;clear bt
    go_upto_region 8 with(refine GJ rfl rfl ?_;intro w3 dU aE eW)
    have e7:BP w2 w2.heap.size 300 [] w3:=⟨aE,lrf _,dU,(fun f hf=>by cases hf),(fun i j f g _ hf=>by simp at hf)⟩;clear dU aE eW;go_wp2
    go_loopw[46] (fun iv wr=>∃ i:Nat,iv = .int .i64 i/\i<=N/\SmP w2 w2.heap.size (Pl.prodZ sa sb (la.take i) lb) wr) (fun iv _=>N-(intOf iv).toNat)
    case atStart=>exact⟨0,rfl,gO _,[],e7,qh (fun e=>rfl),gO _⟩
    case round =>
     clear e7;obtain⟨i,rfl,hi,E,W,aB,aR⟩:=hrel;by_cases a2:i<N
     · have I:=W.ext;have a7:=fu.ext (aQ.trans I);obtain⟨bb,g0,rfl,_⟩:=a7.rd (by omega);obtain⟨sx,ax,nx,cx,bx,mx,dx,U,h6,af⟩:=fc.out i a2
       have aa:Hid (Pl.RB 1000 (la.getD i ([],0)).2/\∀ x∈(la.getD i ([],0)).1,0<=x/\x<=1099511627776):=qh (by
        have hm:la.getD i ([],0)∈la:=by simp[aD.out,a2]
        exact⟨dB.out _ hm,(f6.out _ hm).2⟩)
       have bu:=qh (PT (sa:=sa) (sb:=sb) (a:=la) (b:=lb) (k:=i) (by rw[aD.out];exact a2));generalize la.getD i ([],0)=ts at *
       obtain⟨te,tq⟩:=ts;obtain⟨J,K,L,O,Q,T,ab⟩:=Bt h6;simp only at ab U af aa;subst ab;obtain⟨pre,ci⟩:∃ p,Hid (Pl.prodZ sa sb (la.take i) lb=p):=⟨_,qh rfl⟩;have fb:Hid (pre.length=i*k):=qh (by rw[<-ci.out,F6,a3.out,iq,aD.out,jK hi]);have er:i*k<=1000000:=gJ (gH k hi) dW;have go:i*k+k<=1000000:=by
        have:(i+1)*k<=N*k:=gH k a2;rw[iW]at this;omega
       rw[ci.out]at aB aR W;rw[ci.out]at bu;have hY:=Arr.new wr 92 (As [0,0,0,0,0,0] false none 0 0 none 0 0)
       go_upto_region 11 with(first
        | (refine Bg rfl rfl At rfl a7 a2 ?_;rw[U])
        | (refine Aa (vs:=As [J,K,L,O,Q,T] sx ax nx cx bx mx dx) rfl rfl rfl rfl rfl At hY rfl AI ?_;intro w5 a1 bh))
       have al:Ext wr w5:=((Ext.refl wr).alloc _).grownR bh (lrf _);have bm:=I.trans al;have ah:=aQ.trans bm;have dK:=qh (IE (S:=fun g=>g<w2.heap.size) (w:=w5) (v := .agg #[.bool sx,.slice ax nx cx,.bool false,.slice bx mx dx]) (q:=tq) ⟨Al sx ax nx cx false bx mx dx,rfl,af.ext ah⟩ (v' := .agg #[.bool s,.slice a n c]) (k:=sa) ⟨s,a,n,c,rfl,HS,hx.ext ah⟩ (Af aa.out.1.1 (by omega)) (Af aa.out.1.2 (by omega)) (Af aS.out (by omega)) (TI af aQ.size) (DM (s:=s) (MW hx aQ.size)));have u00:=bm.cell eM;have u01:=bm.cell eN
       have eU:wr.heap.size<w5.heap.size:=a1.lt;have du:w2.heap.size<wr.heap.size:=W.map.lt;obtain⟨X,hX⟩:∃ x,wr.heap.size=x:=⟨_,rfl⟩;rw[hX]at a1 du;rw[hX];have d7:=a1.c 0 rfl;have g9:=a1.c 6 rfl;have ga:=a1.c 7 rfl;have gb:=a1.c 8 rfl;have gc:=a1.c 9 rfl;clear hY bh U h6 a7 af
       go_wp2_with fail
       refine dK.out.mono ?_;rintro e w6 ⟨s6,a6,n6,c6,rfl,aF,dJ,eH,el⟩;have bf:=Arr.new w6 83 (Ac false none 0 0);have fL:(Ac s6 a6 n6 c6).toArray=#[.bool s6,.slice a6 n6 c6]:=rfl
       go_upto_region 12 with(refine Aa (vs:=Ac s6 a6 n6 c6) rfl rfl rfl rfl rfl Ai bf rfl (Ae _ _ _ _) ?_;intro w7 dN eo)
       have bW:Ext w6 w7:=((Ext.refl w6).alloc _).grownR eo (lrf _);have aP:=aF.trans bW;have bY:=al.trans aP;have di:=I.trans bY;have fl:=a1.ext aP;have dp:=W.step bY;have eI:=eH.ext bW;have eZ:=aF.size;have de:Hid (Gap X w7.heap.size E):=qh (fun f hf b hb=>Or.inl (by have:=(W.lt hf hb).2;omega));have bT:Hid (0<n6->∀ g,blk a6=some g->X<=g\/g<w2.heap.size):=qh (fun h0 g hg=>(el h0 g hg).imp (fun h=>by omega) id)
       have dg:Hid (0<n6->∀ g,blk a6=some g->(X<=g/\g<w7.heap.size)\/g<w2.heap.size):=qh (fun h0 g hg=>(bT.out h0 g hg).imp (fun h=>⟨h,MW eI (lrf _) h0 g hg⟩) id);obtain⟨LB,dT⟩:∃ x,w6.heap.size=x:=⟨_,rfl⟩;rw[dT]at dN;rw[dT];have fo:X<=LB:=by omega
       have br:=qh (Jl aa.out.1 aS.out);clear bf eo fL dK al aF bW aP bY a1 u00 u01 d7 g9 ga gb gc bm ah W I eH eZ el eU;obtain⟨wo,rfl⟩:∃ x:World,x=wr:=⟨_,rfl⟩;go_wp2
       go_loopw[56] (fun iv wr=>∃ j:Nat,iv = .int .i64 j/\j<=k/\SmI w2 w7 X w2.heap.size (pre ++ FJ sa sb ([J,K,L,O,Q,T],tq) (lb.take j)) wr) (fun iv _=>k-(intOf iv).toNat)
       case atStart=>exact⟨0,rfl,gO _,E,by simpa[FJ]using dp,by simpa[FJ]using aB,by simpa[FJ]using aR,de,qh (Gw.refl _ _)⟩
       case round =>
        clear dp de aB aR;obtain⟨j,rfl,hj,fs,be,HC,bg,HG,b4⟩:=hrel;by_cases am:j<k
        · have I:=be.ext;have a7:=e8.ext (aQ.trans I);obtain⟨gr,gp,rfl,_⟩:=a7.rd (by omega);obtain⟨sy,ay,ny,cy,b8,my,dy,U,h6,_⟩:=dI.out j am
          have dM:Hid (∀ x∈(lb.getD j ([],0)).1,0<=x/\x<=1099511627776):=qh (by
           have hm:lb.getD j ([],0)∈lb:=by simp[a3.out,am]
           exact(f7.out _ hm).2)
          have cf:Hid ((Pl.zsc (lb.getD j ([],0)).2 sb).natAbs<P2 (1000+257)):=qh (Jl (ce.out _ (by simp[a3.out,am])) b7.out);have cj:=qh (So (sa:=sa) (sb:=sb) (s:=([J,K,L,O,Q,T],tq)) (b:=lb) (k:=j) (by rw[a3.out];exact am));obtain⟨sr,ar,nr,cr,eD,cl,bi⟩:=fd.out j am;obtain⟨b3,o3,e3,cA⟩:=(ft.ext I).rd (by omega);simp only[gK,iV,jp]at e3;obtain⟨rfl,rfl⟩:=e3;have d2:=cA j am 0 (by omega);have d3:=cA j am 1 (by omega);rw[eD]at d2 d3
          have dz:wr.cell? ⟨R,j*2,none⟩=some (.bool sr):=by simpa[Ac]using d2
          have dA:wr.cell? ⟨R,j*2+1,none⟩=some (.slice ar nr cr):=by simpa[Ac]using d3
          generalize lb.getD j ([],0)=tt at *
          obtain⟨te,ty⟩:=tt;obtain⟨y0,y1,y2,y3,y4,y5,ab⟩:=Bt h6;simp only at ab U dM cj cf bi cl;subst ab;have ef:=b4.out.arr fl (lrf _);have bC:=b4.out.arr dN fo;have gw:=b4.out.1;clear d2 d3 cA eD;have hY:=Arr.new wr 92 (As [0,0,0,0,0,0] false none 0 0 none 0 0)
          go_upto_region 15 with(first
           | (refine Bg rfl rfl At rfl a7 am ?_;rw[U])
           | (refine Aa (vs:=As [y0,y1,y2,y3,y4,y5] sy ay ny cy b8 my dy) rfl rfl rfl rfl rfl At hY rfl AI ?_;intro w8 ak aI))
          have aG:Ext wr w8:=((Ext.refl wr).alloc _).grownR aI (lrf _);have az:=ef.ext aG;obtain⟨X2,ee⟩:∃ x,wr.heap.size=x:=⟨_,rfl⟩;rw[ee]at ak;rw[ee];have d7:=az.c 0 rfl;have gd:=ak.c 0 rfl;have g4:=az.c 1 rfl;have ge:=ak.c 1 rfl;have g5:=az.c 2 rfl;have gf:=ak.c 2 rfl;have g6:=az.c 3 rfl;have gg:=ak.c 3 rfl;have g7:=az.c 4 rfl;have gh:=ak.c 4 rfl;have g8:=az.c 5 rfl;have gi:=ak.c 5 rfl;have bS:=fun wx:World=>qh (L0 (w:=wx) (xs:=[J,K,L,O,Q,T]) (ys:=[y0,y1,y2,y3,y4,y5]) rfl rfl aa.out.2 dM.out)
          have eu:BI [J,K,L,O,Q,T] = .agg #[.int .i64 J,.int .i64 K,.int .i64 L,.int .i64 O,.int .i64 Q,.int .i64 T]:=rfl;have ev:BI [y0,y1,y2,y3,y4,y5] = .agg #[.int .i64 y0,.int .i64 y1,.int .i64 y2,.int .i64 y3,.int .i64 y4,.int .i64 y5]:=rfl;have ew:BI (TE [J,K,L,O,Q,T] [y0,y1,y2,y3,y4,y5]) = .agg #[.int .i64 (J+y0),.int .i64 (K+y1),.int .i64 (L+y2),.int .i64 (O+y3),.int .i64 (Q+y4),.int .i64 (T+y5)]:=rfl;rw[eu,ev,ew]at bS;clear hY aI U h6 a7 ak az eu ev ew
          go_wp2_with fail
          refine(bS _).out.mono ?_;rintro e w9 ⟨rfl,ae⟩;have bF:=Arr.new w9 90 (ze.map (Value.int .i64))
          go_upto_region 16 with(refine Aa (vs:=[J+y0,K+y1,L+y2,O+y3,Q+y4,T+y5].map (Value.int .i64)) rfl rfl rfl rfl rfl D4 bF rfl (Cc _) ?_;intro Z ag dq)
          have da:Ext w9 Z:=((Ext.refl w9).alloc _).grownR dq (lrf _);have aK:=(aG.trans ae).trans da;have aq:=be.step aK;have aV:=qh (b4.out.ext aK);have eB:=aK.cell dz;have eC:=aK.cell dA;have bQ:=bC.ext aK;have dv:=aK.size;obtain⟨Y,eh⟩:∃ x,w9.heap.size=x:=⟨_,rfl⟩;rw[eh]at ag;rw[eh];have bK:=ag.c 0 rfl;have bL:=ag.c 1 rfl;have bM:=ag.c 2 rfl;have bN:=ag.c 3 rfl;have bO:=ag.c 4 rfl;have bP:=ag.c 5 rfl;have l0:=bQ.c 0 rfl;have l1:=bQ.c 1 rfl;have aY:=aq.map
          have aL:=Sn (fs:=fs) (k:=[J+y0,K+y1,L+y2,O+y3,Q+y4,T+y5])
          have bU:Hid (∀ e,Pl.coef (pre ++ FJ sa sb ([J,K,L,O,Q,T],tq) (lb.take j)) e+Pl.coef [([J+y0,K+y1,L+y2,O+y3,Q+y4,T+y5],((Pl.zsc tq sa*Pl.zsc ty sb:Int):Rat))] e=Pl.coef (pre ++ FJ sa sb ([J,K,L,O,Q,T],tq) (lb.take (j+1))) e):=qh (fun e=>by
           rw[cj.out,<-iQ,Pl.coef_app _ [_]]
           rfl)
          have aW:Hid ((pre ++ FJ sa sb ([J,K,L,O,Q,T],tq) (lb.take (j+1))).length=(pre ++ FJ sa sb ([J,K,L,O,Q,T],tq) (lb.take j)).length+1):=qh (by rw[cj.out];simp;omega);have eV:(pre ++ FJ sa sb ([J,K,L,O,Q,T],tq) (lb.take j)).length<=1000000:=by
           rw[iD,fb.out,TH,iq];omega
          obtain⟨pj,fa⟩:∃ p,Hid (pre ++ FJ sa sb ([J,K,L,O,Q,T],tq) (lb.take j)=p):=⟨_,qh rfl⟩;rw[fa.out]at HC bg aq bU aW eV;have gq:=qh aq.nodup;have dw:=eI;clear bF dq ag be b4 aG ae da bS bC bQ ef dz dA I d7 gd g4 ge g5 gf g6 gg g7 gh g8 gi;cases aA:Pl.posK [J+y0,K+y1,L+y2,O+y3,Q+y4,T+y5] 0 fs with
          | none =>
           rw[aA]at aL;have bG:=L3 aA;have aj:=qh (Ol (v:=(⟨Z.heap.size,none,none,0⟩:Dc)) aA);have hZ:=Arr.new Z 224 (Hs none 0 0 none 0 0);have V:=(Ext.refl Z).alloc (.cells (Hs none 0 0 none 0 0).toArray 224);have c1:=aY.ext V
           go_upto_region 17 with(refine LH (k:=[J+y0,K+y1,L+y2,O+y3,Q+y4,T+y5]) rfl rfl FH A1 Oj rfl rfl aY rfl ?_;simp only[lA,mV];rw[aL])
           have fJ:(Hs none 0 0 none 0 0).toArray=#[.slice none 0 0,.slice none 0 0]:=rfl;rw[fJ]at V c1 hZ
           go_upto_region 19 with(fail)
           generalize Z.alloc (.cells #[.slice none 0 0,.slice none 0 0] 224)=eO at *
           have bK:=V.cell bK;have bL:=V.cell bL;have bM:=V.cell bM;have bN:=V.cell bN;have bO:=V.cell bO;have bP:=V.cell bP
           go_upto_region 20 with(refine PG rfl (Or.inl rfl) FH A1 (k:=[J+y0,K+y1,L+y2,O+y3,Q+y4,T+y5]) (v:=PR Z.heap.size) rfl rfl rfl c1 rfl ?_;intro H dm cb)
           have F:=aq.new bG V hZ (lrf _) dm cb;have aJ:Kp (fun b=>b=w2.heap.size) Z H:=(Kp.ofExt V).trans (Kp.ofGrown cb (S:=fun b=>b=w2.heap.size) (fun g hg=>by simpa using hg.symm)) (fun _ _ h=>h);have aN:Hid (Gw X w7 H):=qh (aV.out.kp aJ (fun b hb=>Or.inl (by rw[hb];exact du)));have a8:=qh (HG.out.new (key:=[J+y0,K+y1,L+y2,O+y3,Q+y4,T+y5]) (p:=Z.heap.size) (by omega))
           have bs:Hid (∀ e,Pl.coef (lqF (fs ++ [([J+y0,K+y1,L+y2,O+y3,Q+y4,T+y5],⟨Z.heap.size,none,none,0⟩)])) e=Pl.coef pj e):=qh (fun e=>by rw[Vz];exact HC.out e);have gu:R<w2.heap.size:=eT;have eB:=aJ.cell eB (by show ¬ R=w2.heap.size;omega);have eC:=aJ.cell eC (by show ¬ R=w2.heap.size;omega);have l0:=aJ.cell l0 (by show ¬ LB=w2.heap.size;omega);have l1:=aJ.cell l1 (by show ¬ LB=w2.heap.size;omega);have bp:(fs ++ [([J+y0,K+y1,L+y2,O+y3,Q+y4,T+y5],(⟨Z.heap.size,none,none,0⟩:Dc))]).length<=pj.length+1:=by simp;omega
           have cc:w7.heap.size<=H.heap.size:=aN.out.1;obtain⟨bc,aC⟩:∃ f,Hid (fs ++ [([J+y0,K+y1,L+y2,O+y3,Q+y4,T+y5],(⟨Z.heap.size,none,none,0⟩:Dc))]=f):=⟨_,qh rfl⟩;obtain⟨ix,dF⟩:∃ x,Hid (0+fs.length=x):=⟨_,qh rfl⟩;rw[aC.out]at F a8 bs bp aj;rw[dF.out]at aj;have eY:PR Z.heap.size = .pointer (some ⟨Z.heap.size,0,none⟩):=rfl;obtain⟨sf,cH⟩:∃ f:Dc,f=⟨Z.heap.size,none,none,0⟩:=⟨_,rfl⟩;rw[<-cH]at aj;have fN:Z.heap.size=sf.p:=by rw[cH]
           rw[fN]at *
           clear aY c1 dm cb hZ V aL bG aA cH eY aJ aV HG HC bg aq bK bL bM bN bO bP aC dF dv;have ad:=(J6 _ bc 0 ix sf aj.out).2;rw[mp]at ad;have G:=im ad;have aw:=F.ext;have cK:Wd H a6 n6 c6 (Pl.zsc tq sa).natAbs:=aN.out.wd dw di aw bT.out;have cL:=bi.ext aw
           have ck:=qh (Ee (w:=H.drew) (base:=w2.heap.size) (p:=sf.p) (z:=sf.z) ((F.sums _ G).ext (Ext.refl H).drew) (v := .agg #[.bool s6,.slice a6 n6 c6]) (x:=Pl.zsc tq sa) ⟨s6,a6,n6,c6,rfl,dJ,cK.ext (Ext.refl H).drew⟩ (v' := .agg #[.bool sr,.slice ar nr cr]) (y:=Pl.zsc ty sb) ⟨sr,ar,nr,cr,rfl,cl,cL.ext (Ext.refl H).drew⟩
            (DM (s:=s6) fun h0 g hg=>by
             have bR:=dg.out h0 g hg;refine⟨fun hq => ?_,fun hq => ?_⟩
             · have h1:=F.lt G (b:=g) (Or.inr (Or.inl hq));have h2:=a8.out _ G g (Or.inr (Or.inl hq));omega
             · have h1:=F.lt G (b:=g) (Or.inr (Or.inr hq));have h2:=a8.out _ G g (Or.inr (Or.inr hq))
               omega)
            (DM (s:=sr) fun h0 g hg=>by
             have bR:=MW bi (lrf _) h0 g hg;refine⟨fun hq => ?_,fun hq => ?_⟩
             · have h1:=F.lt G (b:=g) (Or.inr (Or.inl hq));omega
             · have h1:=F.lt G (b:=g) (Or.inr (Or.inr hq))
               omega)
            (Af br.out (by omega)) (Af cf.out (by omega)) (Or.inl (Af br.out (by omega))) (by omega) (by have:=aw.size;exact this))
           have fI:(j:Int)<k:=by omega
           go_still_tail 6,(by kernel_rfl)
           change wpList _ _ _ _ _ H.drew
           go_wp2_with fail
           refine ck.out.mono ?_;rintro e d6 ⟨rfl,cZ,d1,h1,h2,h3,h4⟩;have cB:H.drew.heap.size=H.heap.size:=rfl;rw[cB]at h3 h4;have bd:Kp (fun b=>sf.has b) H d6:=⟨h2.os,h2.tape,h2.output,h2.size,h2.block⟩;go_wp2;go_roundw
           case rel =>
            refine⟨j+1,by go_num,by omega,bc.set ix ([J+y0,K+y1,L+y2,O+y3,Q+y4,T+y5],⟨sf.p,cZ,d1,sf.z+Pl.zsc tq sa*Pl.zsc ty sb⟩),?_,qh fun e => ?_,?_,qh (a8.out.add ad cc h3 h4),qh (aN.out.kp bd (fun b hb=>a8.out _ G b hb))⟩
            · have h5:=F.add ad h1 bd h3 h4 (by omega);refine h5.le ?_;rw[aW.out];omega
            · rw[Om F.nodup aj.out,bs.out,bU.out]
            · rw[kA,aW.out];exact bp
           case measure=>simp[intOf];omega
          | some pr =>
           obtain⟨ix,sf⟩:=pr;rw[aA]at aL;have d8:Fu (.pointer none) (EB fs) [J+y0,K+y1,L+y2,O+y3,Q+y4,T+y5] = .pointer (some ⟨sf.p,0,none⟩):=aL
           go_upto_region 17 with(refine LH (k:=[J+y0,K+y1,L+y2,O+y3,Q+y4,T+y5]) rfl rfl FH A1 Oj rfl rfl aY rfl ?_;simp only[lA,mV];rw[d8])
           have aj:=qh aA;have bs:=HC;have a8:=HG;have F:=aq;have aN:=aV;have bp:fs.length<=pj.length+1:=by omega
           have cc:w7.heap.size<=Z.heap.size:=aV.out.1;obtain⟨H,rfl⟩:∃ x:World,x=Z:=⟨_,rfl⟩;obtain⟨bc,rfl⟩:∃ x,x=fs:=⟨_,rfl⟩;clear aY aL d8 aA aV HG HC bg aq bK bL bM bN bO bP dv
           go_wp2_with fail
           have ad:=(J6 _ bc 0 ix sf aj.out).2;rw[mp]at ad;have G:=im ad;have aw:=F.ext;have cK:Wd H a6 n6 c6 (Pl.zsc tq sa).natAbs:=aN.out.wd dw di aw bT.out;have cL:=bi.ext aw
           have ck:=qh (Ee (w:=H.drew) (base:=w2.heap.size) (p:=sf.p) (z:=sf.z) ((F.sums _ G).ext (Ext.refl H).drew) (v := .agg #[.bool s6,.slice a6 n6 c6]) (x:=Pl.zsc tq sa) ⟨s6,a6,n6,c6,rfl,dJ,cK.ext (Ext.refl H).drew⟩ (v' := .agg #[.bool sr,.slice ar nr cr]) (y:=Pl.zsc ty sb) ⟨sr,ar,nr,cr,rfl,cl,cL.ext (Ext.refl H).drew⟩
            (DM (s:=s6) fun h0 g hg=>by
             have bR:=dg.out h0 g hg;refine⟨fun hq => ?_,fun hq => ?_⟩
             · have h1:=F.lt G (b:=g) (Or.inr (Or.inl hq));have h2:=a8.out _ G g (Or.inr (Or.inl hq));omega
             · have h1:=F.lt G (b:=g) (Or.inr (Or.inr hq));have h2:=a8.out _ G g (Or.inr (Or.inr hq))
               omega)
            (DM (s:=sr) fun h0 g hg=>by
             have bR:=MW bi (lrf _) h0 g hg;refine⟨fun hq => ?_,fun hq => ?_⟩
             · have h1:=F.lt G (b:=g) (Or.inr (Or.inl hq));omega
             · have h1:=F.lt G (b:=g) (Or.inr (Or.inr hq))
               omega)
            (Af br.out (by omega)) (Af cf.out (by omega)) (Or.inl (Af br.out (by omega))) (by omega) (by have:=aw.size;exact this))
           have fI:(j:Int)<k:=by omega
           go_still_tail 6,(by kernel_rfl)
           change wpList _ _ _ _ _ H.drew
           go_wp2_with fail
           refine ck.out.mono ?_;rintro e d6 ⟨rfl,cZ,d1,h1,h2,h3,h4⟩;have cB:H.drew.heap.size=H.heap.size:=rfl;rw[cB]at h3 h4;have bd:Kp (fun b=>sf.has b) H d6:=⟨h2.os,h2.tape,h2.output,h2.size,h2.block⟩;go_wp2;go_roundw
           case rel =>
            refine⟨j+1,by go_num,by omega,bc.set ix ([J+y0,K+y1,L+y2,O+y3,Q+y4,T+y5],⟨sf.p,cZ,d1,sf.z+Pl.zsc tq sa*Pl.zsc ty sb⟩),?_,qh fun e => ?_,?_,qh (a8.out.add ad cc h3 h4),qh (aN.out.kp bd (fun b hb=>a8.out _ G b hb))⟩
            · have h5:=F.add ad h1 bd h3 h4 (by omega);refine h5.le ?_;rw[aW.out];omega
            · rw[Om F.nodup aj.out,bs.out,bU.out]
            · rw[kA,aW.out];exact bp
           case measure=>simp[intOf];omega
        · have fH:j=k:=by omega
          subst fH;go_wp2;go_roundw
          case rel =>
           refine⟨i+1,by go_num,by omega,fs,?_,?_,?_⟩
           · rw[bu.out];rw[gG (by rw[a3.out];exact lrf _)]at be;exact be
           · rw[bu.out];rw[gG (by rw[a3.out];exact lrf _)]at HC;exact HC
           · rw[bu.out];rw[gG (by rw[a3.out];exact lrf _)]at bg;exact bg
          case measure=>simp[intOf];omega
     · have fD:i=N:=by omega
       subst fD;rw[gG (by rw[aD.out];exact lrf _)]at W aB aR;have fA:E.length<=1000000:=by rw[F6,aD.out,a3.out]at aR;omega
       have fq:300+40*(Pl.prodZ sa sb la lb).length<=100000000:=by rw[F6,aD.out,a3.out];omega
       have f2:Hid (∀ f∈E,f.2.z.natAbs<P2 2600):=qh (fun f hf=>TK dB.out ce.out aS.out b7.out W.nodup aB.out (by rw[aD.out,a3.out];exact dW) hf);have I:=W.ext;have bZ:=aQ.trans I;have u00:=I.cell eM;have u01:=I.cell eN;have u10:=I.cell g1;have u11:=I.cell g2;have ch:=qh (CA (w:=wr) (v := .agg #[.bool s,.slice a n c]) (z:=(sa:Int)) ⟨s,a,n,c,rfl,HS,hx.ext bZ⟩ (v' := .agg #[.bool t,.slice b m d]) (y:=(sb:Int)) ⟨t,b,m,d,rfl,HT,hy.ext bZ⟩ (Af aS.out (by omega)) (Af b7.out (by omega)) (Or.inl (Af aS.out (by omega))))
       rw[<-ir]at ch;have dP:sa*sb<P2 (257+257):=BJ aS.out b7.out;have cq:sa*sb≠0:=od bv.out.1 bv.out.2;have f5:=qh dP;clear dP
       go_wp2_with fail
       refine ch.out.mono ?_;rintro e w4 ⟨s4,a4,n4,c4,rfl,ct,ff,eG⟩;have bf:=Arr.new w4 83 (Ac false none 0 0);have fK:(Ac s4 a4 n4 c4).toArray=#[.bool s4,.slice a4 n4 c4]:=rfl
       go_upto_region 24 with(refine Aa (vs:=Ac s4 a4 n4 c4) rfl rfl rfl rfl rfl Ai bf rfl (Ae _ _ _ _) ?_;intro w5 a1 bh)
       have bn:Ext w4 w5:=((Ext.refl w4).alloc _).grownR bh (lrf _);have ai:=W.step (ct.trans bn);have ah:=bZ.trans (ct.trans bn);have cJ:=eG.ext bn;obtain⟨DB,dh⟩:∃ x,w4.heap.size=x:=⟨_,rfl⟩;rw[dh]at a1;rw[dh];have aM:(EB E).length=E.length:=by simp[EB]
       have ez:=Ih (P:=prog) (ty:=3) FH ai.map;rw[aM]at ez;have f4:=aB;clear bf bh fK ct bn eG W u00 u01 u10 u11 ch aB aR
       go_upto_region 25 with(refine Jk (n:=E.length) rfl rfl (by kernel_rfl) Bs AV rfl rfl (by omega) (by unfold maxLen;omega) ?_;intro w6 aH aF)
       have dV:=ai.map.ext aF
       go_upto_region 26 with(refine JL rfl rfl FH rfl dV ?_;intro w7 bB bA eX)
       have aP:=aF.trans bA;rw[aM,<-EC (sa*sb)]at bB;have bE:Er w7 w.heap.size 92 10 w5.heap.size 0 E.length []:=⟨(aH.1.mono ah.size).ext bA,aH.2.ext aH.lt.2 bA⟩;have ep:w5.heap.size<w6.heap.size:=aH.lt.2;have gy:=ah.size;obtain⟨g,fC⟩:∃ x,w5.heap.size=x:=⟨_,rfl⟩;obtain⟨it,fF⟩:∃ x,w6.heap.size=x:=⟨_,rfl⟩;rw[fC]at bE ep |-;rw[fF]at bB ep |-;obtain⟨MM,cw⟩:∃ x,E.length=x:=⟨_,rfl⟩;rw[cw]at bE fA |-;have f9:=qh cw;clear aH aF bA dV ez eX cw
       go_frame
       go_loopw[21] (fun v wr=>YN w w5 w2.heap.size it g MM (Dd (sa*sb) E) v wr) (fun _ wr=>(Dd (sa*sb) E).length-IH wr it)
       case atStart=>exact⟨[],0,[],rfl,aP,bB,by simp,by simp,bE,rfl,qh (fun i hi=>absurd hi (by omega))⟩
       case round =>
        clear aP bB bE;obtain⟨o,NN,b1,rfl,hE,hI,bI,bH,hO,eA,cg⟩:=hrel;have gn:NN<=o.length/\o.length<=(Dd (sa*sb) E).length:=by
         have h1:=Pl.picked_len (Dd (sa*sb) E) o;have h2:=Pl.seen_len bI bH;omega
        have aO:=qh eA;clear eA;have cz:=ai.map.ext hE;have cu:AN wr it w2.heap.size (EB E).length o:=by rw[aM,<-EC (sa*sb)];exact hI
        by_cases c3:∀ i,i<(EB E).length->i∈o
        · have db:=Pl.picked_perm bI bH (fun i hi=>c3 i (by rw[aM,<-EC (sa*sb)];exact hi));have dH:=qh db
          have dG:Hid (((Dd (sa*sb) E).map (·.1)).Nodup/\∀ t∈Dd (sa*sb) E,t.1.length=6):=qh (by
           refine⟨by rw[L4];exact ai.nodup,fun t ht => ?_⟩;have h1:t.1∈(EB E).map (·.1):=by rw[Ij,<-L4 (sa*sb)];exact jk ht
           obtain⟨p,hp,e⟩:=ie.1 h1;rw[<-e]
           exact ai.map.six p hp)
          clear db
          go_wp2_with(refine FY rfl rfl rfl cz cu (fun _ => ?_) (fun i _ _ _ h1 h2 _ _ _=>absurd (c3 i h1) h2))
          go_ret;refine⟨Pl.picked (Dd (sa*sb) E) o,⟨_,NN,MM,rfl,ah.trans hE,b1,hO.1,fun g' fB => ?_,aO.out,cg.out⟩,(Pl.Nrm.filter dG.out.2 dG.out.1).perm dH.out.symm,fun e => ?_⟩
          · have:g=g':=by simpa[blk]using fB
            subst this;exact hO.2
          · rw[Pl.coef_perm dH.out,Pl.coef_nz];exact Pl.coef_done dC.out.1 dC.out.2 bv.out.1 bv.out.2 f4.out e
        · have e9:IH wr it=o.length:=C2 hI;have fR:=hE.size;have e4:=Da hO.1 hI;have dS:=hI.noU;have gm:=hI.lt
          go_upto_region 27 with(refine FY rfl rfl rfl cz cu (fun h=>absurd h c3) ?_;intro ii kk v w8 fE es an dR aI)
          have aZ:=an;unfold EB at an;rw[me]at an;cases aU:E[ii]? with
          | none=>rw[aU]at an;cases an
          | some f =>
           rw[aU]at an;simp only[jJ,gK,kX]at an;obtain⟨rfl,rfl⟩:=an;have cC:=im aU;have b5:=qh (TJ (d:=sa*sb) aU);have cE:f.1.length=6:=ai.map.six _ (im aZ);have aG:Ext w5 w8:=hE.grownR aI (by omega);have dn:=ai.map.ext aG;have dY:=hO.kept aI (by simpa using e4);have dc:Hid (∀ i,i<NN->BB w8 (b1.getD i []) ((Pl.picked (Dd (sa*sb) E) o).getD i ([],0))):=qh (fun i hi=>(cg.out i hi).keptU dS aI)
           have ap:Hid ((o ++ [ii]).Nodup/\(∀ j∈o ++ [ii],j<(Dd (sa*sb) E).length)/\o.length<(Dd (sa*sb) E).length):=qh (by
            have eq:ii<(Dd (sa*sb) E).length:=by rw[EC,<-aM];exact fE
            refine⟨nJ.2 ⟨bI,by simp,fun x hx y hy=>by simp only[gL]at hy;subst hy;rintro rfl;exact es hx⟩,fun j hj => ?_,?_⟩
            · rcases iw.1 hj with hj|hj
              · exact bH j hj
              · simp only[gL]at hj;subst hj;exact eq
            · have:=Pl.seen_len (n:=(Dd (sa*sb) E).length) (kf.2 ⟨es,bI⟩) (fun x hx=>by
               rcases iE.1 hx with rfl|hx
               · exact eq
               · exact bH x hx)
              simp at this
              omega)
           have b2:Hid (AN w8 it w2.heap.size (Dd (sa*sb) E).length (o ++ [ii])):=qh (by rw[EC,<-aM];exact dR);have cm:Hid (f.2.z.natAbs<P2 2600):=qh (f2.out f cC);have bj:=fun(wx:World) (hC:Ext w8 wx)=>qh (Mx ((ai.sums f cC).ext (aG.trans hC)) fq);obtain⟨fk,fv⟩:=f;simp only at cE cm bj b5 aU aZ;obtain⟨J,K,L,O,Q,T,ab⟩:=Bt cE;subst ab;obtain⟨vp,gB,gC,vz⟩:=fv;simp only at cm bj b5 aU aZ;have ei:=Arr.new w8 90 (ze.map (Value.int .i64));clear cg hE hO hI cu cz aI dS cE fR e4 cC
           go_upto_region 28 with(first
            | (refine JM rfl rfl rfl dn dR aZ ?_)
            | (refine Aa (vs:=[J,K,L,O,Q,T].map (Value.int .i64)) rfl rfl rfl rfl rfl D4 ei rfl (Cc _) ?_;intro g3 bV dr))
           have ac:Ext w8 g3:=((Ext.refl w8).alloc _).grownR dr (lrf _);obtain⟨Y,bF⟩:∃ x,w8.heap.size=x:=⟨_,rfl⟩;rw[bF]at bV |-;clear ei dr dn aZ
           go_wp2_with fail
           refine(bj _ ac).out.mono ?_;rintro e bJ ⟨sv,av,nv,cv,rfl,bX,dL,eJ⟩;have eg:=Arr.new bJ 83 (Ac false none 0 0);have fM:(Ac sv av nv cv).toArray=#[.bool sv,.slice av nv cv]:=rfl
           go_upto_region 29 with(refine Aa (vs:=Ac sv av nv cv) rfl rfl rfl rfl rfl Ai eg rfl (Ae _ _ _ _) ?_;intro eP bk ds)
           have bo:Ext bJ eP:=((Ext.refl bJ).alloc _).grownR ds (lrf _);obtain⟨VB,fx⟩:∃ x,bJ.heap.size=x:=⟨_,rfl⟩;rw[fx]at bk |-;have dj:=(ac.trans bX).trans bo;have dO:=(bV.ext bX).ext bo;have cd:=eJ.ext bo;have d4:=bk.c 0 rfl;have d5:=bk.c 1 rfl;have et:=qh (AA (w:=eP) (v := .agg #[.bool sv,.slice av nv cv]) (z:=vz) ⟨sv,av,nv,cv,rfl,dL,cd⟩ rfl);clear eg ds fM bV bj ac bX bo eJ
           go_wp2_with fail
           refine et.out.mono ?_;rintro e w9 ⟨rfl,ae⟩;have ac:=dj.trans ae;have aX:=aG.trans ac;have dk:=ah.trans aX;have dZ:=dY.ext ac;have dd:Hid (∀ i,i<NN->BB w9 (b1.getD i []) ((Pl.picked (Dd (sa*sb) E) o).getD i ([],0))):=qh (fun i hi=>(dc.out i hi).ext ac);have b2:Hid (AN w9 it w2.heap.size (Dd (sa*sb) E).length (o ++ [ii])):=qh (b2.out.ext ac);have au:=dO.ext ae;have d4:=ae.cell d4;have d5:=ae.cell d5;have cp:=a1.ext aX;have fi:=cp.c 0 rfl;have fj:=cp.c 1 rfl;have fU:=au.c 0 rfl;have fV:=au.c 1 rfl
           have fW:=au.c 2 rfl;have fX:=au.c 3 rfl;have fY:=au.c 4 rfl;have fZ:=au.c 5 rfl;have f8:=fun(wx:World) (hC:Ext w9 wx)=>qh (GO ((hT.ext dk).ext hC) (v := .agg #[.bool sv,.slice av nv cv]) (x:=vz) ⟨sv,av,nv,cv,rfl,dL,(cd.ext ae).ext hC⟩ (v' := .agg #[.bool s4,.slice a4 n4 c4]) (k:=sa*sb) ⟨s4,a4,n4,c4,rfl,ff,(cJ.ext aX).ext hC⟩ (Af cm.out (by omega)) (Af f5.out (by omega)) cq);clear et dj ae dO au cp bk dY dc ac cd;by_cases ao:vz=0
           · rw[iA ao];have b6:Hid (Pl.picked (Dd (sa*sb) E) (o ++ [ii])=Pl.picked (Dd (sa*sb) E) o):=qh (by rw[Pl.picked_snoc,gY (by rw[b5.out];exact(Pl.mkRat_zero cq).2 ao)]);clear ao;go_wp2;go_roundw
             case rel=>exact⟨o ++ [ii],NN,b1,rfl,aX,b2.out,ap.out.1,ap.out.2.1,dZ,by rw[b6.out];exact aO.out,by rw[b6.out];exact dd⟩
             case measure =>
              have e1:=C2 b2.out;have e2:=ap.out.2.2;rw[e9,e1];simp;omega
           · rw[gR ao];have b6:Hid (Pl.picked (Dd (sa*sb) E) (o ++ [ii])=Pl.picked (Dd (sa*sb) E) o ++ [([J,K,L,O,Q,T],mkRat vz (sa*sb))]):=qh (by rw[Pl.picked_snoc,gT (by rw[b5.out];exact fun h=>ao ((Pl.mkRat_zero cq).1 h)),b5.out]);have gt:NN<MM:=by have h1:=ap.out.2.2;have h2:=f9.out;rw[EC]at h1;omega
             clear ao;go_wp2;have aC:=fun(wx:World) (hC:Ext w9 wx)=>qh (And.intro (hC.cell fU) (And.intro (hC.cell fV) (And.intro (hC.cell fW) (And.intro (hC.cell fX) (And.intro (hC.cell fY) (And.intro (hC.cell fZ) (And.intro (hC.cell d4) (And.intro (hC.cell d5) (And.intro (hC.cell fi) (hC.cell fj))))))))))
             refine Ab (by kernel_rfl) (fun wx=>Ext w9 wx)
              [he (.slice (some ⟨g,0,none⟩) NN MM),
 he (.agg #[.int .i64 J,.int .i64 K,.int .i64 L,.int .i64 O,.int .i64 Q,.int .i64 T]),
 he (.agg #[.bool sv,.slice av nv cv]),
 he (.agg #[.bool s4,.slice a4 n4 c4]),
 hp (fun v wx=>NR (mkRat vz (sa*sb)) v wx),
 hp (fun v wx=>NEn [J,K,L,O,Q,T] (mkRat vz (sa*sb)) v wx),
 hp (fun v wx=>NSl [J,K,L,O,Q,T] (mkRat vz (sa*sb)) v wx)]
              (by kernel_rfl) (fun _ _ e h=>h.trans e) ((Ext.refl w9).drew) ⟨trivial,trivial,trivial,trivial,NR.x _,NEn.x _ _,NSl.x _ _,trivial⟩ ⟨?o0,?o1,?o2,?o3,?o4,?o5,?o6,trivial⟩ ?fin
             case o0=>exact omv
             case o2 | o3=>exact ol2
             case o1 =>
              refine Aj rfl fun ρ wx hC ca h => ?_;have e0:ρ (.tmp 22)=(.pointer (some ⟨Y,0,none⟩)):=h.1;obtain⟨cO,cP,cQ,cR,cS,cT,cU,cV,cM,cN⟩:=(aC wx hC).out;go_simp
             case o4 =>
              refine Ag rfl fun ρ wx hC ca em h => ?_;have e1:ρ (.tmp 104)=(.agg #[.bool sv,.slice av nv cv]):=h.2.1;have e2:ρ (.tmp 105)=(.agg #[.bool s4,.slice a4 n4 c4]):=h.2.2.1;obtain⟨cO,cP,cQ,cR,cS,cT,cU,cV,cM,cN⟩:=(aC wx hC).out;refine⟨191,#[.agg #[.bool sv,.slice av nv cv],.agg #[.bool s4,.slice a4 n4 c4]],by go_simp,((f8 wx hC).out).mono ?_⟩;rintro e w' ⟨cs,rfl,fm,fO⟩;exact⟨_,rfl,fm,cs,rfl,fO⟩
             case o5 =>
              refine AE rfl ?_;intro ρ wx hp hC h;have ca:=hp.const;have em:=hp.func;have e0:ρ (.tmp 103)=(.agg #[.int .i64 J,.int .i64 K,.int .i64 L,.int .i64 O,.int .i64 Q,.int .i64 T]):=h.1;obtain⟨v1,e1,gs,rfl,r1⟩:=h.2.1;obtain⟨cO,cP,cQ,cR,cS,cT,cU,cV,cM,cN⟩:=(aC wx hC).out;obtain⟨s9,a9,n9,c9,b9,m9,d9,rfl,z1,z2,z3⟩:=r1;have cF:(Al s9 a9 n9 c9 false b9 m9 d9).toArray=#[.bool s9,.slice a9 n9 c9,.bool false,.slice b9 m9 d9]:=rfl;rw[cF]at e1
              refine⟨.agg #[.int .i64 J,.int .i64 K,.int .i64 L,.int .i64 O,.int .i64 Q,.int .i64 T,.bool s9,.slice a9 n9 c9,.bool false,.slice b9 m9 d9],wx,by go_simp,Ext.refl _,s9,a9,n9,c9,b9,m9,d9,rfl,s9,a9,n9,c9,b9,m9,d9,rfl,z1,z2,z3⟩
             case o6 =>
              refine AE rfl ?_;intro ρ wx hp hC h;have ca:=hp.const;have em:=hp.func;obtain⟨v0,e0,s0,a0,n0,c0,b0,m0,d0,rfl,r0⟩:=h.1;obtain⟨cO,cP,cQ,cR,cS,cT,cU,cV,cM,cN⟩:=(aC wx hC).out;have cF:(As [J,K,L,O,Q,T] s0 a0 n0 c0 b0 m0 d0).toArray=#[.int .i64 J,.int .i64 K,.int .i64 L,.int .i64 O,.int .i64 Q,.int .i64 T,.bool s0,.slice a0 n0 c0,.bool false,.slice b0 m0 d0]:=rfl;rw[cF]at e0
              refine⟨.slice (some ⟨wx.heap.size,0,none⟩) 1 1,wx.alloc (.cells #[.int .i64 J,.int .i64 K,.int .i64 L,.int .i64 O,.int .i64 Q,.int .i64 T,.bool s0,.slice a0 n0 c0,.bool false,.slice b0 m0 d0] 92),by go_simp,(Ext.refl _).alloc _,wx.heap.size,s0,a0,n0,c0,b0,m0,d0,rfl,Arr.new wx _ (As [J,K,L,O,Q,T] s0 a0 n0 c0 b0 m0 d0),r0.ext ((Ext.refl _).alloc _)⟩
             case fin =>
              intro wx hC;rintro _ ⟨_,rfl,_⟩;rintro _ ⟨_,_,_,_,_,_,_,rfl,_⟩;rintro _ ⟨Z9,s9,a9,n9,c9,b9,m9,d9,rfl,fy,fP⟩;change wpList _ _ _ _ _ _;simp only[lq,lw,lx,lz,Act.put,lj,lk,ly];have bw:=dZ.ext hC;have f1:=qh bw;have fn:=BT (k:=10) fy rfl;have ed:=bw.2;have fz:w.heap.size<=wx.heap.size:=(dk.trans hC).size;have fQ:=bw.1.len (by omega);have dE:=qh (b2.out.ext hC);have eQ:=qh (aX.trans hC)
              have eR:Hid (∀ i,i<NN->BB wx (b1.getD i []) ((Pl.picked (Dd (sa*sb) E) o).getD i ([],0))):=qh fun i hi=>(dd.out i hi).ext hC
              go_wp2_with(refine GT rfl rfl (by kernel_rfl) Bs rfl bw rfl fn (by intro r hr u hu;rw[gL.1 hr]at hu;exact AI u hu) (by intro r hr u hu;rw[gL.1 hr]at hu;exact AV u hu) (by omega) (by omega) fz ?_;intro eO eS bq)
              have df:Hid (AN eO it w2.heap.size (Dd (sa*sb) E).length (o ++ [ii])):=qh (dE.out.kept bq (by have:=Da f1.out.1 dE.out;simpa using fun h=>this h.symm));go_roundw
              case rel =>
               refine⟨o ++ [ii],NN+1,_,rfl,eQ.out.grownR bq (by omega),df.out,ap.out.1,ap.out.2.1,eS,by rw[b6.out,iD,aO.out];rfl,qh fun jj gv => ?_⟩;rw[b6.out];by_cases fG:jj=NN
               · subst fG;rw[gqq,iu (by omega),fQ,ju,gqq,iu (by rw[aO.out];exact lrf _),aO.out,ju];exact BB.keptU ⟨s9,a9,n9,c9,b9,m9,d9,rfl,rfl,fP⟩ ed bq
               · rw[gqq,gZ (by omega),<-gqq,gqq (l:=Pl.picked _ o ++ _),gZ (by rw[aO.out];omega),<-gqq];exact(eR.out jj (by omega)).keptU ed bq
              case measure =>
               have e1:=C2 df.out;have e2:=ap.out.2.2;rw[e9,e1];simp;omega
theorem Sp(a d:Nat):a∣a*(d/Nat.gcd a d):=Nat.dvd_mul_right _ _
theorem Sq(a d:Nat):d∣a*(d/Nat.gcd a d):=by
 have h1:a*(d/Nat.gcd a d)=a/Nat.gcd a d*d:=by
  rw[<-nI _ (kF a d),gV a d,nI _ (kL a d),gV]
 rw[h1];exact ll _ _
theorem J8:∀ (l:List Rat) (a:Nat),a∣l.foldl (fun a q=>a*(q.den/Nat.gcd a q.den)) a/\∀ q∈l,q.den∣l.foldl (fun a q=>a*(q.den/Nat.gcd a q.den)) a
 | [],a=>⟨Nat.dvd_refl _,by simp⟩
 | q :: r,a=>by
  have ih:=J8 r (a*(q.den/Nat.gcd a q.den));refine⟨lL (Sp a q.den) ih.1,fun p hp => ?_⟩;rcases iE.1 hp with rfl|hp
  · exact lL (Sq a p.den) ih.1
  · exact ih.2 p hp
theorem GX{l:List Rat}(h:q∈l):q.den∣Bk l:=(J8 l 1).2 q h
theorem C3{l:List Rat}(k:Nat):Bk (l.take k)<=Bk l:=by
 have h:Bk (l.take k)∣Bk l:=by
  have e:Bk l=(l.drop k).foldl (fun a q=>a*(q.den/Nat.gcd a q.den)) (Bk (l.take k)):=by
   unfold Bk;rw[<-mJ,jN]
  rw[e];exact(J8 _ _).1
 exact lK (Cn l) h
theorem PV{x:Nat}(b:x<P2 256)(h:0<x->0<L/\P2 (L-1)<=x)(h0:0<x):L<=256:=by
 obtain⟨h1,h2⟩:=h h0;refine ia fun a => ?_;have h3:P2 256<=P2 (L-1):=Hq (by omega);omega
theorem GY{la lb:List Pl.Tm}(hT:AM w)(I:Bn w A N C la)(J:Bn w B M D lb)(ba:∀ t∈la,Pl.RB 1000 t.2)(bb:∀ t∈lb,Pl.RB 1000 t.2)
 (ea:Bp la) (eb:Bp lb) (hN:N<=1000000) (hM:M<=1000000) (ap:N*M<=1000000) (n:Bk (la.map (·.2))<P2 256) (o:Bk (lb.map (·.2))<P2 256) :
 Calls prog 82 #[.slice A N C,.slice B M D] w (fun e w'=>∃ g,J4 w g e w'/\Pl.Nrm g/\∀ e,Pl.coef g e=Pl.coef (Pl.prodT la lb) e):=by
 have ad:=fun(S:World) (m:Ext w S)=>qh (Co (hT.ext m) (I.ext m) hN (fun q hq=>by obtain⟨t,O,rfl⟩:=ie.1 hq;exact Af (ba t O).2 (by omega)) (fun k=>Af (gN (C3 k) n) (by omega)));have ae:=fun(S:World) (m:Ext w S)=>qh (Co (hT.ext m) (J.ext m) hM (fun q hq=>by obtain⟨t,O,rfl⟩:=ie.1 hq;exact Af (bb t O).2 (by omega)) (fun k=>Af (gN (C3 k) o) (by omega)))
 have ah:=fun(S:World) (m:Ext w S) (v v':Value) (h1:AF S v (Bk (la.map (·.2)):Int)) (h2:AF S v' (Bk (lb.map (·.2)):Int))=>qh (Gx (hT.ext m) (I.ext m) (J.ext m) h1 h2 (fun t O=>GX (jk O)) (fun t O=>GX (jk O)) (by have:=Cn (la.map (·.2));omega) (by have:=Cn (lb.map (·.2));omega) ba bb (Af n (by omega)) (Af o (by omega)) ea eb hN hM ap);have av:=Cn (la.map (·.2));have aw:=Cn (lb.map (·.2));have T:=qh n;have U:=qh o;clear ba bb ea eb n o I J
 generalize Bk (la.map (·.2))=sa at *
 generalize Bk (lb.map (·.2))=sb at *
 go_enter func82,ntmps82
 go_wp2_with fail
 refine(ad _ (Ext.refl w)).out.mono ?_;rintro e w1 ⟨s1,s,P,E,rfl,G,W,ai⟩
 go_wp2_with fail
 refine(ae _ G).out.mono ?_;rintro e w2 ⟨R,y,Q,F,rfl,H,X,aj⟩;have p:=G.trans H;have r:=ai.ext H;have ar:(Ac s1 s P E).toArray=#[.bool s1,.slice s P E]:=rfl;have au:(Ac R y Q F).toArray=#[.bool R,.slice y Q F]:=rfl;have a8:=ER w2 (Ac false none 0 0) (Ac false none 0 0) 83 83;have a9:=ES w2 (Ac false none 0 0) (Ac false none 0 0) 83 83;have a0:=UD w2 (.cells (Ac false none 0 0).toArray 83) (.cells (Ac false none 0 0).toArray 83)
 go_upto_region 2 with(first
  | (refine Aa (vs:=Ac s1 s P E) rfl rfl rfl rfl rfl Ai a8 rfl (Ae _ _ _ _) ?_;intro w3 Y K;have aa:=a9.kept K (by simp);clear a8)
  | (refine Aa (vs:=Ac R y Q F) rfl rfl rfl rfl rfl Ai aa rfl (Ae _ _ _ _) ?_;intro w4 j L))
 have a:Ext w2 w4:=((a0.grownR K (lrf _)).grownR L (by omega));have l:=Y.kept L (by simp);have a4:=p.trans a;have ak:=r.ext a;have al:=aj.ext a;obtain⟨Z,hZ⟩:∃ x,w2.heap.size=x:=⟨_,rfl⟩;rw[hZ]at l j;rw[hZ];have c0:=l.c 0 rfl;have i:=l.c 1 rfl;have e0:=j.c 0 rfl;have e1:=j.c 1 rfl;have ab:=qh (Fp (w:=w4) (v := .agg #[.bool s1,.slice s P E]) (z:=(sa:Int)) ⟨s1,s,P,E,rfl,W,ak⟩ (Af T.out (by omega)));clear ad ae G H ai r aj a9 aa a0 K L Y j l ar au a p
 go_wp2_with fail
 refine ab.out.mono ?_;rintro e w5 ⟨L1,rfl,d,_,_,a5⟩;have ax:(L1:Int)<=256:=by have:=PV (x:=sa) T.out a5 av;omega
 have am:=al.ext d;have c0:=d.cell c0;have i:=d.cell i;have e0:=d.cell e0;have e1:=d.cell e1;have ac:=qh (Fp (w:=w5) (v := .agg #[.bool R,.slice y Q F]) (z:=(sb:Int)) ⟨R,y,Q,F,rfl,X,am⟩ (Af U.out (by omega)));clear ab a5
 go_wp2_with fail
 refine ac.out.mono ?_;rintro e w6 ⟨L2,rfl,f,_,_,a6⟩;have ay:(L2:Int)<=256:=by have:=PV (x:=sb) U.out a6 aw;omega
 have c0:=f.cell c0;have i:=f.cell i;have e0:=f.cell e0;have e1:=f.cell e1;have b:=d.trans f;have an:=ah w6 (a4.trans b) (.agg #[.bool s1,.slice s P E]) (.agg #[.bool R,.slice y Q F]) ⟨s1,s,P,E,rfl,W,ak.ext b⟩ ⟨R,y,Q,F,rfl,X,al.ext b⟩;clear ac a6 ah
 go_wp2_with fail
 refine an.out.mono ?_;rintro e w7 ⟨g,⟨a7,n7,c7,rfl,ao,aq⟩,ag,af⟩;have V:=qh (And.intro ag af);clear ag af;go_wp2;go_ret;have a3:=a4.trans b;exact⟨g,⟨a7,n7,c7,rfl,a3.trans ao,aq.mono a3.size⟩,V.out.1,V.out.2⟩
end Go.Proofs.YtlbmnokpiilfpaaGreatDoor
