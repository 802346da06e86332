/- Part PqPIb. -/
import Derived.Test.YtlbmnokpiilfpaaGreatDoorPqCDx1

set_option linter.all false
set_option maxRecDepth 100000
set_option maxHeartbeats 100000000
namespace Go.Proofs.YtlbmnokpiilfpaaGreatDoor
open Tryz Go Go.RowKit
variable {L k x:Nat} {A B:Option Addr} {w:World}
def YD(w w5:World)(R:Nat)(p:List Pl.Tm)(wr:World):Prop:=∃ l,Ext w wr/\Kp (fun b=>b=R) w5 wr/\Dz wr R l/\Hid (∀ e,Pl.coef l e=Pl.coef p e)/\l.length<=p.length
theorem La{la lb:List Pl.Tm}(a:k<la.length):Pl.prodT (la.take (k+1)) lb=Pl.prodT (la.take k) lb ++ lb.map (fun t=>(Pl.plE (la.getD k ([],0)).1 t.1,(la.getD k ([],0)).2*t.2)):=by
 unfold Pl.prodT;rw[gM a,List.flatMap_append,gqq,gD a];simp
theorem U3{s:Pl.Tm}{lb:List Pl.Tm}(a:k<lb.length):(lb.take (k+1)).map (fun t=>(Pl.plE s.1 t.1,s.2*t.2))=(lb.take k).map (fun t=>(Pl.plE s.1 t.1,s.2*t.2)) ++ [(Pl.plE s.1 (lb.getD k ([],0)).1,s.2*(lb.getD k ([],0)).2)]:=by
 rw[gM a,iJ,gqq,gD a];rfl
theorem Tc{la lb:List Pl.Tm}(h:∀ p s,p ++ s=Pl.prodT la lb->∀ e,Pl.RB 2400 (Pl.coef p e)){i j:Nat}(hi:i<la.length)(e:List Int):Pl.RB 2400 (Pl.coef (Pl.prodT (la.take i) lb ++ (lb.take j).map (fun t=>(Pl.plE (la.getD i ([],0)).1 t.1,(la.getD i ([],0)).2*t.2))) e):=by
 refine h _ ((lb.drop j).map (fun t=>(Pl.plE (la.getD i ([],0)).1 t.1,(la.getD i ([],0)).2*t.2)) ++ Pl.prodT (la.drop (i+1)) lb) ?_ e;rw[iQ,<-iQ (List.map _ (lb.take j)),<-iJ,jN,<-iQ,<-La hi];have h1:Pl.prodT (la.take (i+1)) lb ++ Pl.prodT (la.drop (i+1)) lb=Pl.prodT la lb:=by
  unfold Pl.prodT;rw[<-List.flatMap_append,jN]
 exact h1
theorem Ft(a b:List Pl.Tm):(Pl.prodT a b).length=a.length*b.length:=by
 unfold Pl.prodT
 induction a with
 | nil=>simp
 | cons t r ih=>rw[lF,iD,ih];simp[iW];omega
theorem U4(h:x<P2 L)(a:P2 256<=x):256<L:=by
 rcases iH 256 L with h1|h1
 · exact h1
 · exact absurd (ib h (Hq h1)) (by omega)
theorem LA{N C M D:Nat}{la lb:List Pl.Tm}(hT:AM w)(d6:Bn w A N C la)(d7:Bn w B M D lb)(ba:∀ t∈la,Pl.RB 1000 t.2)(bb:∀ t∈lb,Pl.RB 1000 t.2)
 (ea:Bp la) (eb:Bp lb) (hN:N<=1000000) (hM:M<=1000000) (aU:N*M<=1000000) (bY:Bk (la.map (·.2))<P2 9600) (bZ:Bk (lb.map (·.2))<P2 9600) (br:¬ (Bk (la.map (·.2))<P2 256/\Bk (lb.map (·.2))<P2 256)) (hB:∀ p s,p ++ s=Pl.prodT la lb->∀ e,Pl.RB 2400 (Pl.coef p e)) :
 Calls prog 82 #[.slice A N C,.slice B M D] w (fun e w'=>∃ cc,J4 w cc e w'/\Pl.Nrm cc/\∀ e,Pl.coef cc e=Pl.coef (Pl.prodT la lb) e):=by
 have dm:=fun(T:World) (f:Ext w T)=>qh (Co (hT.ext f) (d6.ext f) hN (fun q hq=>by obtain⟨t,ht,rfl⟩:=ie.1 hq;exact Af (ba t ht).2 (by omega)) (fun k=>gN (C3 k) bY));have dn:=fun(T:World) (f:Ext w T)=>qh (Co (hT.ext f) (d7.ext f) hM (fun q hq=>by obtain⟨t,ht,rfl⟩:=ie.1 hq;exact Af (bb t ht).2 (by omega)) (fun k=>gN (C3 k) bZ));have ev:=Cn (la.map (·.2));have f8:=Cn (lb.map (·.2));have dZ:=qh bY;have e3:=qh bZ;obtain⟨eS,ei,bi,dd⟩:=d6
 obtain⟨eT,ej,bj,de⟩:=d7;have e7:=qh dd;have e8:=qh de;have cp:=qh bi;have cq:=qh bj;have dT:=qh ba;have dU:=qh bb;have dV:=qh ea;have dW:=qh eb;have e6:=qh hB;have eZ:=qh aU
 have cU:Hid ((Pl.prodT la lb).length<=1000000):=qh (by
  have h1:(Pl.prodT la lb).length=la.length*lb.length:=Ft la lb
  rw[h1,bi,bj];exact aU)
 clear ba bb ea eb bY bZ dd de bi bj hB aU;generalize Bk (la.map (·.2))=sa at *
 generalize Bk (lb.map (·.2))=sb at *
 go_enter func82,ntmps82
 go_wp2_with fail
 refine(dm _ (Ext.refl w)).out.mono ?_;rintro e w1 ⟨s1,a1,n1,c1,rfl,bM,e9,dE⟩
 go_wp2_with fail
 refine(dn _ bM).out.mono ?_;rintro e w2 ⟨s2,a2,n2,c2,rfl,ad,ec,dF⟩;have cu:=bM.trans ad;have cJ:=dE.ext ad;have eq:(Ac s1 a1 n1 c1).toArray=#[.bool s1,.slice a1 n1 c1]:=rfl;have er:(Ac s2 a2 n2 c2).toArray=#[.bool s2,.slice a2 n2 c2]:=rfl;have aB:=ER w2 (Ac false none 0 0) (Ac false none 0 0) 83 83;have aC:=ES w2 (Ac false none 0 0) (Ac false none 0 0) 83 83;have ak:=UD w2 (.cells (Ac false none 0 0).toArray 83) (.cells (Ac false none 0 0).toArray 83)
 go_upto_region 2 with(first
  | (refine Aa (vs:=Ac s1 a1 n1 c1) rfl rfl rfl rfl rfl Ai aB rfl (Ae _ _ _ _) ?_;intro w3 d1 bV;have aD:=aC.kept bV (by simp);clear aB)
  | (refine Aa (vs:=Ac s2 a2 n2 c2) rfl rfl rfl rfl rfl Ai aD rfl (Ae _ _ _ _) ?_;intro w4 aQ a4))
 have aK:Ext w2 w4:=((ak.grownR bV (lrf _)).grownR a4 (by omega));have a5:=d1.kept a4 (by simp);have aR:=cu.trans aK;have ca:=cJ.ext aK;have cb:=dF.ext aK;obtain⟨Z,hZ⟩:∃ x,w2.heap.size=x:=⟨_,rfl⟩;rw[hZ]at a5 aQ;rw[hZ];have c0:=a5.c 0 rfl;have aP:=a5.c 1 rfl;have e0:=aQ.c 0 rfl;have e1:=aQ.c 1 rfl;have dj:=qh (Fp (w:=w4) (v := .agg #[.bool s1,.slice a1 n1 c1]) (z:=(sa:Int)) ⟨s1,a1,n1,c1,rfl,e9,ca⟩ (dZ.out));clear dm dn bM ad dE cJ dF aC aD ak bV a4 d1 aQ a5 eq er aK cu
 go_wp2_with fail
 refine dj.out.mono ?_;rintro e w5 ⟨L1,rfl,ae,_,bv,bR⟩;have bw:=cb.ext ae;have c0:=ae.cell c0;have aP:=ae.cell aP;have e0:=ae.cell e0;have e1:=ae.cell e1;have ap:=aR.trans ae;clear dj;by_cases hA:P2 256<=sa
 case' pos =>
  have dO:¬ ((L1:Int)<=256):=by have:=U4 bv hA;omega
  clear br bR hA bv c0 aP e0 e1 bw ca cb
  go_upto_region 5 with(refine GJ rfl rfl ?_;intro w6 aT al bu)
 case' neg =>
  have c9:sa<P2 256:=by omega
  have dO:(L1:Int)<=256:=by have:=PV (x:=sa) c9 bR ev;omega
  have dC:P2 256<=sb:=by
   rcases iH sb (P2 256)with h|h
   · exact absurd ⟨c9,h⟩ br
   · exact h
  have dk:=qh (Fp (w:=w5) (v := .agg #[.bool s2,.slice a2 n2 c2]) (z:=(sb:Int)) ⟨s2,a2,n2,c2,rfl,ec,bw⟩ e3.out);clear br bR hA bv c9 ca cb
  go_wp2_with fail
  refine dk.out.mono ?_;rintro e eF ⟨L2,rfl,cv,_,cK,ee⟩;have eW:¬ ((L2:Int)<=256):=by have:=U4 cK dC;omega
  replace ap:=ap.trans cv;clear dk ee cK c0 aP e0 e1 bw dC ae cv;generalize hw:eF=w5 at *
  clear hw
  go_upto_region 5 with(refine GJ rfl rfl ?_;intro w6 aT al bu)
 all_goals
  have d2:=ap.trans al;obtain⟨R,hR⟩:∃ R,w5.heap.size=R:=⟨_,rfl⟩;have eh:w.heap.size<=R:=by have:=ap.size;omega
  rw[hR]at aT bu |-;have HR:=qh hR;clear hR al ap;go_wp2
  go_loopw[36] (fun iv wr=>∃ i:Nat,iv = .int .i64 i/\i<=N/\Xc w R (Pl.prodT (la.take i) lb) wr) (fun iv _=>N-(intOf iv).toNat)
  case atStart=>exact⟨0,rfl,gO _,[],d2,Dz.new aT,qh (fun e=>rfl),gO _⟩
  case round =>
   clear aT d2 bu;obtain⟨i,rfl,hi,aA⟩:=hrel;by_cases c4:i<N
   · obtain⟨l0,bL,bn,bB,bX⟩:=aA;have af:=ei.ext bL;obtain⟨bb,fa,rfl,_⟩:=af.rd (by omega);obtain⟨sx,ax,nx,cx,bx,mx,dx,ab,h6,dB⟩:=e7.out i c4;have aM:i<la.length:=by rw[cp.out];exact c4
     have hm:la.getD i ([],0)∈la:=by rw[gqq,gD aM,gP];exact jl _
     have av:=qh (And.intro (dT.out _ hm) (dV.out _ hm).2);have aO:=qh (La (lb:=lb) aM);have bH:=fun j e=>qh (Tc e6.out aM (j:=j) e);have cX:=fun j hj=>qh (U3 (s:=la.getD i ([],0)) (lb:=lb) (k:=j) hj);obtain⟨pre,cW⟩:∃ p,Hid (Pl.prodT (la.take i) lb=p):=⟨_,qh rfl⟩
     have eU:Hid (pre.length+lb.length<=1000000):=qh (by
      have h1:(Pl.prodT (la.take (i+1)) lb).length<=(Pl.prodT la lb).length:=by rw[Ft,Ft,iq];exact gH _ (by omega)
      have h2:=cU.out;rw[aO.out,iD,iM,cW.out]at h1
      omega)
     rw[cW.out]at bB bX aO bH;generalize la.getD i ([],0)=ts at *
     obtain⟨te,tq⟩:=ts;obtain⟨E,F,G,H,I,J,ac⟩:=Bt h6;simp only at ac ab dB av bH cX aO;subst ac;have hY:=Arr.new wr 92 (As [0,0,0,0,0,0] false none 0 0 none 0 0)
     go_upto_region 8 with(first
      | (refine Bg rfl rfl At rfl af c4 ?_;rw[ab])
      | (refine Aa (vs:=As [E,F,G,H,I,J] sx ax nx cx bx mx dx) rfl rfl rfl rfl rfl At hY rfl AI ?_;intro be a5 am))
     have bl:Ext wr be:=((Ext.refl wr).alloc _).grownR am (lrf _);have cD:=bn.ext bl;have cw:=bL.trans bl;obtain⟨X,hX⟩:∃ x,wr.heap.size=x:=⟨_,rfl⟩;have f4:R<X:=by have:=bn.lt;omega
     rw[hX]at a5 |-;clear hY am bn bL bl ab h6 af hm aM hX;obtain⟨wo,rfl⟩:∃ x:World,x=wr:=⟨_,rfl⟩;go_wp2
     go_loopw[42] (fun jv wr=>∃ j:Nat,jv = .int .i64 j/\j<=M/\YD w be R (pre ++ (lb.take j).map (fun t=>(Pl.plE [E,F,G,H,I,J] t.1,tq*t.2))) wr) (fun jv _=>M-(intOf jv).toNat)
     case atStart=>exact⟨0,rfl,gO _,l0,cw,Kp.ofExt (Ext.refl _),cD,by simpa using bB,by simpa using bX⟩
     case round =>
      clear cD bB bX cw;obtain⟨j,rfl,hj,aA⟩:=hrel;obtain⟨l,hE,bQ,a6,HC,aF⟩:=aA;by_cases c3:j<M
      · have af:=ej.ext hE;obtain⟨f0,eY,rfl,_⟩:=af.rd (by omega);obtain⟨sy,ay,ny,cy,aj,my,dy,ab,h6,cI⟩:=e8.out j c3;have bt:j<lb.length:=by rw[cq.out];exact c3
        have hm:lb.getD j ([],0)∈lb:=by rw[gqq,gD bt,gP];exact jl _
        have aw:=qh (And.intro (dU.out _ hm) (dW.out _ hm).2);have bJ:=qh (cX j bt).out;have cN:Hid (∀ e,Pl.RB 2400 (Pl.coef (pre ++ (lb.take j).map (fun t=>(Pl.plE [E,F,G,H,I,J] t.1,tq*t.2))) e)):=qh (fun e=>(bH j e).out);generalize lb.getD j ([],0)=us at *
        obtain⟨ue,uq⟩:=us;obtain⟨y0,y1,y2,y3,y4,y5,ac⟩:=Bt h6;simp only at ac ab cI aw bJ;subst ac;have bU:=bQ.arr a5 (show ¬ X=R by omega);have eX:=bU.lt;have hY:=Arr.new wr 92 (As [0,0,0,0,0,0] false none 0 0 none 0 0)
        go_upto_region 11 with(first
         | (refine Bg rfl rfl At rfl af c3 ?_;rw[ab])
         | (refine Aa (vs:=As [y0,y1,y2,y3,y4,y5] sy ay ny cy aj my dy) rfl rfl rfl rfl rfl At hY rfl AI ?_;intro w8 a0 dp))
        have a3:Ext wr w8:=((Ext.refl wr).alloc _).grownR dp (lrf _);have O:=bU.ext a3;obtain⟨X2,dh⟩:∃ x,wr.heap.size=x:=⟨_,rfl⟩;rw[dh]at a0 |-;clear dh hY dp bU ab h6 af hm bt;have eG:=O.c 0 rfl;have eH:=O.c 1 rfl;have eI:=O.c 2 rfl;have eJ:=O.c 3 rfl;have eK:=O.c 4 rfl;have eL:=O.c 5 rfl;have cd:=O.c 6 rfl;have ce:=O.c 7 rfl;have cf:=O.c 8 rfl;have cg:=O.c 9 rfl;have eM:=a0.c 0 rfl;have eN:=a0.c 1 rfl;have eO:=a0.c 2 rfl;have eP:=a0.c 3 rfl;have eQ:=a0.c 4 rfl;have eR:=a0.c 5 rfl;have ch:=a0.c 6 rfl
        have ci:=a0.c 7 rfl;have cj:=a0.c 8 rfl;have ck:=a0.c 9 rfl;have an:=fun T:World=>qh (L0 (w:=T) (xs:=[E,F,G,H,I,J]) (ys:=[y0,y1,y2,y3,y4,y5]) rfl rfl av.out.2 aw.out.2);have dt:BI [E,F,G,H,I,J] = .agg #[.int .i64 E,.int .i64 F,.int .i64 G,.int .i64 H,.int .i64 I,.int .i64 J]:=rfl;have du:BI [y0,y1,y2,y3,y4,y5] = .agg #[.int .i64 y0,.int .i64 y1,.int .i64 y2,.int .i64 y3,.int .i64 y4,.int .i64 y5]:=rfl
        have dv:BI (TE [E,F,G,H,I,J] [y0,y1,y2,y3,y4,y5]) = .agg #[.int .i64 (E+y0),.int .i64 (F+y1),.int .i64 (G+y2),.int .i64 (H+y3),.int .i64 (I+y4),.int .i64 (J+y5)]:=rfl;rw[dt,du,dv]at an;clear dt du dv O a0
        go_wp2_with fail
        refine(an _).out.mono ?_;rintro e w9 ⟨rfl,bO⟩;have di:=Arr.new w9 90 (ze.map (Value.int .i64))
        go_upto_region 12 with(refine Aa (vs:=[E+y0,F+y1,G+y2,H+y3,I+y4,J+y5].map (Value.int .i64)) rfl rfl rfl rfl rfl D4 di rfl (Cc _) ?_;intro a8 V cG)
        have bg:Ext w9 a8:=((Ext.refl w9).alloc _).grownR cG (lrf _);have aH:=(a3.trans bO).trans bg;have ah:=hE.trans aH;have dI:Kp (fun b=>b=R) be a8:=bQ.trans (Kp.ofExt (S:=fun b=>b=R) aH) (fun _ _ h=>h);have dJ:=a6.ext aH;have cH:=dB.ext ah;have cl:=cI.ext ah;have Q:=bO.trans bg;replace cd:=Q.cell cd;replace ce:=Q.cell ce;replace cf:=Q.cell cf;replace cg:=Q.cell cg;replace ch:=Q.cell ch;replace ci:=Q.cell ci;replace cj:=Q.cell cj;replace ck:=Q.cell ck
        obtain⟨K,hK⟩:∃ x,w9.heap.size=x:=⟨_,rfl⟩;rw[hK]at V |-;have ez:=V.c 0 rfl;have eA:=V.c 1 rfl;have eB:=V.c 2 rfl;have eC:=V.c 3 rfl;have eD:=V.c 4 rfl;have eE:=V.c 5 rfl;clear di cG V hK bO bg an a3 aH bQ a6 hE eG eM eH eN eI eO eJ eP eK eQ eL eR;obtain⟨m,a7,a9⟩:=dJ;have aG:=a7.nodup;have aI:=qh a9;obtain⟨LV,cT⟩:∃ v,Hid (Fu Q2 m [E+y0,F+y1,G+y2,H+y3,I+y4,J+y5]=v):=⟨_,qh rfl⟩;have cS:Hid ((l.map (·.1)).Nodup):=qh (by rw[<-a9.keys];exact aG)
        have e4:Hid (BU a8 LV (Pl.getK 0 l [E+y0,F+y1,G+y2,H+y3,I+y4,J+y5])):=qh (by rw[<-cT.out,Ig];exact a9.get (Oe a8) _);have bD:Hid (Pl.RB 2400 (Pl.getK 0 l [E+y0,F+y1,G+y2,H+y3,I+y4,J+y5])):=qh (by rw[Pl.getK_coef l _ cS.out,HC.out];exact cN.out _);have bI:Hid (Pl.RB 2400 (tq*uq)):=qh ((Pl.RB.mul av.out.1 aw.out.1).mono (by omega))
        have dS:=fun(T:World) (hq:Ext a8 T)=>qh (Nx ((hT.ext ah).ext hq) (v := .agg #[.bool sx,.slice ax nx cx,.bool false,.slice bx mx dx]) (p:=tq) ⟨Al sx ax nx cx false bx mx dx,rfl,cH.ext hq⟩ (v' := .agg #[.bool sy,.slice ay ny cy,.bool false,.slice aj my dy]) (q:=uq) ⟨Al sy ay ny cy false aj my dy,rfl,cl.ext hq⟩ (Af av.out.1.1 (by omega)) (Af av.out.1.2 (by omega)) (Af aw.out.1.1 (by omega)) (Af aw.out.1.2 (by omega)))
        have dQ:=fun(T:World) (hq:Ext a8 T) (cs:List Value) (hr:CJ T cs (tq*uq))=>qh (QS ((hT.ext ah).ext hq) (e4.out.ext hq) (v' := .agg cs.toArray) (q:=tq*uq) ⟨cs,rfl,hr⟩ bD.out.1 bD.out.2 bI.out.1 bI.out.2)
        have ed:Hid (∀ e,Pl.coef (Pl.putK l [E+y0,F+y1,G+y2,H+y3,I+y4,J+y5] (Pl.getK 0 l [E+y0,F+y1,G+y2,H+y3,I+y4,J+y5]+tq*uq)) e=Pl.coef (pre ++ (lb.take (j+1)).map (fun t=>(Pl.plE [E,F,G,H,I,J] t.1,tq*t.2))) e):=qh (fun e=>by
         rw[Pl.coef_step cS.out,HC.out,bJ.out,<-iQ,Pl.coef_app _ [_]]
         rfl)
        have dM:=qh (Pl.putK_length [E+y0,F+y1,G+y2,H+y3,I+y4,J+y5] (Pl.getK 0 l [E+y0,F+y1,G+y2,H+y3,I+y4,J+y5]+tq*uq) l);have dY:Hid ((pre ++ (lb.take (j+1)).map (fun t=>(Pl.plE [E,F,G,H,I,J] t.1,tq*t.2))).length=(pre ++ (lb.take j).map (fun t=>(Pl.plE [E,F,G,H,I,J] t.1,tq*t.2))).length+1):=qh (by rw[bJ.out];simp;omega);clear a9 aG bD bI cH cl cN;generalize Pl.getK 0 l [E+y0,F+y1,G+y2,H+y3,I+y4,J+y5]=gq at *
        go_upto_region 12 with(fail)
        have ar:=fun(T:World) (f:Ext a8 T)=>qh (And.intro (f.cell ez) (And.intro (f.cell eA) (And.intro (f.cell eB) (And.intro (f.cell eC) (And.intro (f.cell eD) (And.intro (f.cell eE) (And.intro (f.cell cd) (And.intro (f.cell ce) (And.intro (f.cell cf) (And.intro (f.cell cg) (And.intro (f.cell ch) (And.intro (f.cell ci) (And.intro (f.cell cj) (f.cell ck))))))))))))))
        refine Ab (by kernel_rfl) (fun T=>Ext a8 T)
         [he (.map (some R)),
 he (.agg #[.int .i64 (E+y0),.int .i64 (F+y1),.int .i64 (G+y2),.int .i64 (H+y3),.int .i64 (I+y4),.int .i64 (J+y5)]),
 he (.map (some R)),
 he (.agg #[.int .i64 (E+y0),.int .i64 (F+y1),.int .i64 (G+y2),.int .i64 (H+y3),.int .i64 (I+y4),.int .i64 (J+y5)]),
 he LV,
 he (.pointer (some ⟨X,6,none⟩)),
 he (.agg #[.bool sx,.slice ax nx cx,.bool false,.slice bx mx dx]),
 he (.pointer (some ⟨X2,6,none⟩)),
 he (.agg #[.bool sy,.slice ay ny cy,.bool false,.slice aj my dy]),
 hp (fun v T=>NR (tq*uq) v T),
 hp (fun v T=>NR (gq+tq*uq) v T)]
         (by kernel_rfl) (fun _ _ e h=>h.trans e) ((Ext.refl a8).drew) ⟨trivial,trivial,trivial,trivial,trivial,trivial,trivial,trivial,trivial,NR.x _,NR.x _,trivial⟩ ⟨?o0,?o1,?o2,?o3,?o4,?o5,?o6,?o7,?o8,?o9,?o10,trivial⟩ ?fin
        case o0 | o2=>exact omv
        case o5 | o7=>exact ofa (d:=6)
        case o6 | o8=>exact ol4
        case o1 =>
         refine Aj rfl fun ρ T f aL h => ?_;have e0:ρ (.tmp 12)=(.pointer (some ⟨K,0,none⟩)):=h.1;obtain⟨aY,aZ,b0,b1,b2,b3,b4,b5,b6,b7,b8,b9,bc,bd⟩:=(ar T f).out;go_simp
        case o3 =>
         refine Aj rfl fun ρ T f aL h => ?_;have e0:ρ (.tmp 12)=(.pointer (some ⟨K,0,none⟩)):=h.1;obtain⟨aY,aZ,b0,b1,b2,b3,b4,b5,b6,b7,b8,b9,bc,bd⟩:=(ar T f).out;go_simp
        case o4 =>
         refine Aj rfl fun ρ T f aL h => ?_;have e0:ρ (.tmp 53)=(.map (some R)):=h.1;have e1:ρ (.tmp 54)=(.agg #[.int .i64 (E+y0),.int .i64 (F+y1),.int .i64 (G+y2),.int .i64 (H+y3),.int .i64 (I+y4),.int .i64 (J+y5)]):=h.2.1;obtain⟨aY,aZ,b0,b1,b2,b3,b4,b5,b6,b7,b8,b9,bc,bd⟩:=(ar T f).out;rw[<-cT.out];exact LX rfl Du A1 J3 e0 e1 (a7.ext f) rfl
        case o9 =>
         refine Ag rfl fun ρ T f aL ek h => ?_;have e1:ρ (.tmp 57)=(.agg #[.bool sx,.slice ax nx cx,.bool false,.slice bx mx dx]):=h.2.1;have e2:ρ (.tmp 59)=(.agg #[.bool sy,.slice ay ny cy,.bool false,.slice aj my dy]):=h.2.2.1;obtain⟨aY,aZ,b0,b1,b2,b3,b4,b5,b6,b7,b8,b9,bc,bd⟩:=(ar T f).out;refine⟨85,#[.agg #[.bool sx,.slice ax nx cx,.bool false,.slice bx mx dx],.agg #[.bool sy,.slice ay ny cy,.bool false,.slice aj my dy]],by go_simp,((dS T f).out).mono ?_⟩;rintro e w' ⟨cs,rfl,bK,c7⟩;exact⟨_,rfl,bK,cs,rfl,c7⟩
        case o10 =>
         refine Ag rfl fun ρ T f aL ek h => ?_;have e1:ρ (.tmp 55)=LV:=h.2.1;obtain⟨v2,e2,cZ,rfl,r2⟩:=h.2.2.1;obtain⟨aY,aZ,b0,b1,b2,b3,b4,b5,b6,b7,b8,b9,bc,bd⟩:=(ar T f).out;refine⟨146,#[LV,.agg cZ.toArray],by go_simp,((dQ T f cZ r2).out).mono ?_⟩;rintro e w' ⟨cs,rfl,bK,c7⟩;exact⟨_,rfl,bK,cs,rfl,c7⟩
        case fin =>
         intro T f;rintro _ _;rintro _ ⟨d0,rfl,ew⟩;change wpList _ _ _ _ _ _;simp only[lq,lw,lx,lz,Act.put,lj,lk,ly];have d9:=a7.ext f;have f5:=ah.size;have dN:Kp (fun b=>b=R) be T:=dI.trans (Kp.ofExt (S:=fun b=>b=R) f) (fun _ _ h=>h)
         go_wp2_with(refine PG rfl (Or.inl rfl) Du A1 (k:=[E+y0,F+y1,G+y2,H+y3,I+y4,J+y5]) (v := .agg d0.toArray) rfl rfl rfl d9 rfl ?_;intro fb cA bs)
         go_roundw
         case rel =>
          refine⟨j+1,by go_num,by omega,_,(ah.trans f).grownR bs eh,dN.trans (Kp.ofGrown bs (S:=fun b=>b=R) (fun g hg=>by simpa using hg.symm)) (fun _ _ h=>h),⟨_,by rw[Od]at cA;exact cA,?_⟩,ed,by have h1:=dM.out;have h2:=dY.out;omega⟩;have hU:=d9.noU;exact((aI.out.mono fun _ _ h=>h.ext f).put _ ⟨d0,rfl,ew⟩).mono fun _ _ h=>h.keptU hU bs
         case measure=>simp[intOf];omega
      · have ep:j=M:=by omega
        subst ep;rw[gG (by rw[cq.out];exact lrf _)]at HC aF;rw[<-aO.out]at HC aF;go_wp2;go_roundw
        case rel=>exact⟨i+1,by go_num,by omega,l,hE,a6,HC,aF⟩
        case measure=>simp[intOf];omega
   · have en:i=N:=by omega
     subst en;rw[gG (by rw[cp.out];exact lrf _)]at aA;obtain⟨l,hE,a6,HC,aF⟩:=aA;have h6:=a6.six;have aG:=a6.nodup;have HP:=qh (And.intro h6 aG);clear h6 aG;obtain⟨m,a7,a9⟩:=a6;have dA:=a9.len;have c5:m.length<=1000000:=by have:=cU.out;omega
     have bF:=qh dA;have et:=Ih (P:=prog) (ty:=3) Du a7;have aI:=qh a9;clear dA a9 aF
     go_upto_region 16 with(refine Jk rfl rfl (by kernel_rfl) Bs AV rfl rfl (by omega) (by unfold maxLen;omega) ?_;intro w2 bS ad)
     have L:=a7.ext ad
     go_upto_region 17 with(refine JL rfl rfl Du rfl L ?_;intro w3 d4 ak dR)
     have aJ:=ad.trans ak;have aR:=hE.trans aJ;have cB:Dz w3 R l:=⟨m,a7.ext aJ,aI.out.mono fun _ _ h=>h.ext aJ⟩;have cz:AN w3 w2.heap.size R l.length []:=by rw[<-bF.out];exact d4
     have f6:R<wr.heap.size:=a7.lt;have bT:=bS.ext ak;have f7:wr.heap.size<w2.heap.size:=bS.lt.2;have bp:Er w3 w.heap.size 92 10 wr.heap.size 0 m.length []:=⟨bT.1.mono (by omega),bT.2⟩;clear d4 L ad ak bS aJ et hE dR a7 bT;generalize wr.heap.size=g at *
     generalize w2.heap.size=it at *
     obtain⟨M,hM⟩:∃ M,m.length=M:=⟨_,rfl⟩;have d8:l.length=M:=by rw[<-hM];exact bF.out.symm
     have e5:=qh d8;rw[hM]at bp c5 |-;have ef:=c5;clear c5;clear hM d8 aI bF
     go_frame
     go_loopw[13] (fun v wr=>X7 w R it g M l v wr) (fun _ wr=>l.length-IH wr it)
     case atStart=>exact⟨[],0,[],rfl,aR,cB,cz,by simp,by simp,bp,rfl,qh (fun i hi=>absurd hi (by omega))⟩
     case round =>
      clear aR cB cz bp;obtain⟨a,N,ai,rfl,hE,a6,hI,aX,aW,hO,an,bC⟩:=hrel;have aU:N<=a.length/\a.length<=l.length:=by
       have h1:=Pl.picked_len l a;have h2:=Pl.seen_len aX aW;omega
      have ag:=qh an;clear an;obtain⟨m2,L,bh⟩:=a6;have aq:=bh.len;rw[<-aq]at hI;have c8:=LY L hI;by_cases bq:∀ i,i<m2.length->i∈a
      · have cm:=Pl.picked_perm aX aW (fun i hi=>bq i (by rw[aq];exact hi));have cV:=qh cm;clear cm aq
        go_wp2_with(refine FY rfl rfl rfl L hI (fun _ => ?_) (fun i _ _ _ h1 h2 _ _ _=>absurd (bq i h1) h2))
        go_ret;refine⟨Pl.picked l a,⟨_,N,M,rfl,hE,ai,hO.1,fun g' el => ?_,ag.out,bC.out⟩,(Pl.Nrm.filter HP.out.1 HP.out.2).perm cV.out.symm,fun e => ?_⟩
        · have:g=g':=by simpa[blk]using el
          subst this;exact hO.2
        · rw[Pl.coef_perm cV.out,Pl.coef_nz,HC.out]
      · have dg:IH wr it=a.length:=C2 hI;have ey:=hE.size;have dc:=Da hO.1 hI;have f3:=Ej hO.1 L;have bf:=qh bh;have cr:=qh aq;have eV:=hI.lt;have aS:=hI.noU;clear bh aq
        go_upto_region 18 with(refine FY rfl rfl rfl L hI (fun h=>absurd h bq) ?_;intro i k v w4 em dr c6 bP a4)
        obtain⟨q,dz,df⟩:=bf.out.nth c6;have bE:Hid (l.getD i ([],0)=(k,q)):=qh (by rw[gqq,dz];rfl);have dw:k.length=6:=L.six _ (im c6);have cC:Dz w4 R l:=Dz.keptU ⟨m2,L,bf.out⟩ aS a4 c8;have cF:=L.kept a4 (by simpa using c8);have da:=hO.kept a4 (by simpa using dc);have cn:Hid (∀ i,i<N->BB w4 (ai.getD i []) ((Pl.picked l a).getD i ([],0))):=qh (fun i hi=>(bC.out i hi).keptU aS a4);have dP:=df.keptU aS a4;have bN:Ext w w4:=hE.grownR a4 (by omega)
        have U:Hid ((a ++ [i]).Nodup/\(∀ j∈a ++ [i],j<l.length)/\a.length<l.length):=qh (by
         have dq:i<l.length:=by rw[<-cr.out];exact em
         refine⟨nJ.2 ⟨aX,by simp,fun x hx y hy=>by simp only[gL]at hy;subst hy;rintro rfl;exact dr hx⟩,fun j hj => ?_,?_⟩
         · rcases iw.1 hj with hj|hj
           · exact aW j hj
           · simp only[gL]at hj;subst hj;exact dq
         · have:=Pl.seen_len (n:=l.length) (kf.2 ⟨dr,aX⟩) (fun x hx=>by
            rcases iE.1 hx with rfl|hx
            · exact dq
            · exact aW x hx)
           simp at this
           omega)
        obtain⟨E,F,G,H,I,J,ac⟩:=Bt dw;subst ac;obtain⟨_,rfl,sx,ax,nx,cx,bx,mx,dx,rfl,cY,dG,dH⟩:=dP;have cO:Hid (AN w4 it R l.length (a ++ [i])):=qh (by rw[<-cr.out];exact bP);have f9:=bN.size;clear df bC hE L hO hI a4 aS dw dz ey dc c8 bf;have aB:=ER w4 (ze.map (Value.int .i64)) (Al false none 0 0 false none 0 0) 90 85;have aC:=ES w4 (ze.map (Value.int .i64)) (Al false none 0 0 false none 0 0) 90 85;have d3:=UD w4 (.cells (ze.map (Value.int .i64)).toArray 90) (.cells (Al false none 0 0 false none 0 0).toArray 85)
        go_upto_region 19 with(first
         | (refine JM rfl rfl rfl cF bP c6 ?_)
         | (refine Aa (vs:=[E,F,G,H,I,J].map (Value.int .i64)) rfl rfl rfl rfl rfl D4 aB rfl (Cc _) ?_;intro w5 a5 am;have aD:=aC.kept am (by simp);clear aB)
         | (refine Aa (vs:=Al sx ax nx cx false bx mx dx) rfl rfl rfl rfl rfl Ak aD rfl (Aq _ _ _ _ _ _ _ _) ?_;intro w6 az bW))
        have W:Ext w4 w6:=(d3.grownR am (lrf _)).grownR bW (by omega);have aa:=a5.kept bW (by simp);have al:=bN.trans W;have cE:=cC.ext W;have cP:Hid (AN w6 it R l.length (a ++ [i])):=qh (cO.out.ext W);have db:=da.ext W;have co:Hid (∀ i,i<N->BB w6 (ai.getD i []) ((Pl.picked l a).getD i ([],0))):=qh (fun i hi=>(cn.out i hi).ext W);have bz:=dG.ext W;have bA:=dH.ext W;clear a5 am bW d3 aC aD W cC cO da cn dG dH bN cF bP;generalize w4.heap.size=Y at *
        have y0:w6.cell? ⟨Y,0,none⟩=some (.int .i64 E):=aa.cell (i:=0) (by simp);have y1:w6.cell? ⟨Y,1,none⟩=some (.int .i64 F):=aa.cell (i:=1) (by simp);have y2:w6.cell? ⟨Y,2,none⟩=some (.int .i64 G):=aa.cell (i:=2) (by simp);have y3:w6.cell? ⟨Y,3,none⟩=some (.int .i64 H):=aa.cell (i:=3) (by simp);have y4:w6.cell? ⟨Y,4,none⟩=some (.int .i64 I):=aa.cell (i:=4) (by simp);have y5:w6.cell? ⟨Y,5,none⟩=some (.int .i64 J):=aa.cell (i:=5) (by simp);have z0:=az.c 0 rfl;have z1:=az.c 1 rfl;have z2:=az.c 2 rfl;have z3:=az.c 3 rfl
        have ds:=qh (DU (w:=w6) (v := .agg #[.bool sx,.slice ax nx cx,.bool false,.slice bx mx dx]) (q:=q) ⟨Al sx ax nx cx false bx mx dx,rfl,sx,ax,nx,cx,bx,mx,dx,rfl,cY,bz,bA⟩ rfl);clear aa az
        go_wp2_with fail
        refine ds.out.mono ?_;rintro e w7 ⟨rfl,o⟩;have bm:=al.trans o;have bo:=cE.ext o;have aN:Hid (AN w7 it R l.length (a ++ [i])):=qh (cP.out.ext o);have aV:=db.ext o;have bk:Hid (∀ i,i<N->BB w7 (ai.getD i []) ((Pl.picked l a).getD i ([],0))):=qh (fun i hi=>(co.out i hi).ext o);have cL:=bz.ext o;have cM:=bA.ext o;have y0:=o.cell y0;have y1:=o.cell y1;have y2:=o.cell y2;have y3:=o.cell y3;have y4:=o.cell y4;have y5:=o.cell y5;have z0:=o.cell z0;have z1:=o.cell z1;have z2:=o.cell z2;have z3:=o.cell z3
        clear ds al cE cP db co bz bA o;by_cases ao:q=0
        · rw[iA ao];have au:Hid (Pl.picked l (a ++ [i])=Pl.picked l a):=qh (by rw[Pl.picked_snoc,gY (by rw[bE.out];exact ao)]);clear ao;go_wp2;go_roundw
          case rel=>exact⟨a ++ [i],N,ai,rfl,bm,bo,aN.out,U.out.1,U.out.2.1,aV,by rw[au.out];exact ag.out,by rw[au.out];exact bk⟩
          case measure =>
           have e1:=C2 aN.out;have e2:=U.out.2.2;rw[dg,e1];simp;omega
        · rw[gR ao];have au:Hid (Pl.picked l (a ++ [i])=Pl.picked l a ++ [([E,F,G,H,I,J],q)]):=qh (by rw[Pl.picked_snoc,gT (by rw[bE.out];exact ao),bE.out]);have f2:N<M:=by have h1:=U.out.2.2;have h2:=e5.out;omega
          have f1:M<=1000000:=ef;clear ao;have a3:Ext w7 (w7.alloc (.cells (As [E,F,G,H,I,J] sx ax nx cx bx mx dx).toArray 92)):=(Ext.refl w7).alloc _;have hA8:=aV.ext a3;have d5:=BT (k:=10) (Arr.new w7 92 (As [E,F,G,H,I,J] sx ax nx cx bx mx dx)) rfl;have es:(As [E,F,G,H,I,J] sx ax nx cx bx mx dx).toArray=#[.int .i64 E,.int .i64 F,.int .i64 G,.int .i64 H,.int .i64 I,.int .i64 J,.bool sx,.slice ax nx cx,.bool false,.slice bx mx dx]:=rfl
          have dl:w.heap.size<=(w7.alloc (.cells (As [E,F,G,H,I,J] sx ax nx cx bx mx dx).toArray 92)).heap.size:=(bm.trans a3).size;have dX:=qh (bm.trans a3);have dL:Hid (∀ i,i<N->BB (w7.alloc (.cells (As [E,F,G,H,I,J] sx ax nx cx bx mx dx).toArray 92)) (ai.getD i []) ((Pl.picked l a).getD i ([],0))):=qh fun i hi=>(bk.out i hi).ext a3
          have dK:Hid (BB (w7.alloc (.cells (As [E,F,G,H,I,J] sx ax nx cx bx mx dx).toArray 92)) (As [E,F,G,H,I,J] sx ax nx cx bx mx dx) ([E,F,G,H,I,J],q)):=qh ⟨sx,ax,nx,cx,bx,mx,dx,rfl,rfl,sx,ax,nx,cx,bx,mx,dx,rfl,cY,cL.ext a3,cM.ext a3⟩;have ct:=qh (bo.ext a3);have cQ:=qh (aN.out.ext a3);have bG:=qh hA8;rw[es]at hA8 d5 dl;have ex:=aV.1.len (by omega);clear bo aV bk aN cL cM
          go_wp2_with(refine GT rfl rfl (by kernel_rfl) Bs rfl hA8 rfl d5 (by intro r hr u hu;rw[gL.1 hr]at hu;exact AI u hu) (by intro r hr u hu;rw[gL.1 hr]at hu;exact AV u hu) (by omega) (by omega) dl ?_;intro w9 eg aE)
          have cR:Hid (AN w9 it R l.length (a ++ [i])):=qh (cQ.out.kept aE (by have:=Da bG.out.1 cQ.out;simpa using fun h=>this h.symm));go_roundw
          case rel =>
           have hU:=bG.out.2;have eu:R≠g:=by
            obtain⟨m8,h8,_⟩:=ct.out;exact fun h=>Ej bG.out.1 h8 h.symm
           refine⟨a ++ [i],N+1,_,rfl,dX.out.grownR aE (by omega),ct.out.keptU hU aE eu,cR.out,U.out.1,U.out.2.1,eg,by rw[au.out,iD,ag.out];rfl,qh fun j hj => ?_⟩;rw[au.out];by_cases eo:j=N
           · subst eo;rw[gqq,iu (by omega),ex,ju,gqq,iu (by rw[ag.out];exact lrf _),ag.out,ju];exact dK.out.keptU hU aE
           · rw[gqq,gZ (by omega),<-gqq,gqq (l:=Pl.picked l a ++ _),gZ (by rw[ag.out];omega),<-gqq];exact(dL.out j (by omega)).keptU hU aE
          case measure =>
           have e1:=C2 cR.out;have e2:=U.out.2.2;rw[dg,e1];simp;omega
theorem CF.ofF{la lb:List Pl.Tm}(n:∀ t∈la,Pl.RB 1000 t.2)(o:∀ t∈lb,Pl.RB 1000 t.2)(d:Bp la)(f:Bp lb)(j:Bk (la.map (·.2))<P2 9600)(k:Bk (lb.map (·.2))<P2 9600)
 (l:la.length<=1000000) (m:lb.length<=1000000) (r:∀ p s,p ++ s=Pl.prodT la lb->∀ e,Pl.RB 2400 (Pl.coef p e)) (c:Cj (Pl.prodT la lb)):CF la lb:=by
 refine⟨fun q a b => ?_,d,f,l,m,c⟩;have g:=c.len;rw[Dg,a.len,b.len]at g;by_cases i:Bk (la.map (·.2))<P2 256/\Bk (lb.map (·.2))<P2 256
 · exact GY q a b n o d f (by rw[<-a.len];exact l) (by rw[<-b.len];exact m) g i.1 i.2
 · exact LA q a b n o d f (by rw[<-a.len];exact l) (by rw[<-b.len];exact m) g j k i r
end Go.Proofs.YtlbmnokpiilfpaaGreatDoor
