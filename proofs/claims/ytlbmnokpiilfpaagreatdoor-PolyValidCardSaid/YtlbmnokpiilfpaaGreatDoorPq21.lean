/- Part Pq21. -/
import Derived.Test.YtlbmnokpiilfpaaGreatDoorPq20

set_option linter.all false
set_option maxRecDepth 100000
set_option maxHeartbeats 100000000
namespace Go.Proofs.YtlbmnokpiilfpaaGreatDoor
open Tryz Go Go.RowKit
variable {s s':ByteArray} {v1 v2 vars:Int} {xs ys:List Int} {c d k m n:Nat} {A a b:Option Addr} {w:World}
theorem St{ls:List (List Pl.Tm)}(a:k<ls.length):(ls.take (k+1)).flatten=(ls.take k).flatten ++ ls.getD k []:=by
 rw[oH,List.flatten_append];simp[a]
theorem P7{ls:List (List Pl.Tm)}(a:k<ls.length):(ls.take k).flatten ++ (ls.getD k [] ++ (ls.drop (k+1)).flatten)=ls.flatten:=by
 have h1:ls.take k ++ (ls.getD k [] :: ls.drop (k+1))=ls:=by
  have:ls.getD k [] :: ls.drop (k+1)=ls.drop k:=by
   rw[iU a,gqq,gD a];rfl
  rw[this,jN]
 conv=>rhs;rw[<-h1]
 simp
def Xc(w0:World)(r:Nat)(p:List Pl.Tm)(wr:World):Prop:=∃ l,Ext w0 wr/\Dz wr r l/\Hid (∀ e,Pl.coef l e=Pl.coef p e)/\l.length<=p.length
def X7(w0:World)(r it g c:Nat)(l:List Pl.Tm)(v:Value)(wr:World):Prop :=
 ∃ seen n rows,v = .slice (some ⟨g,0,none⟩) n c/\Ext w0 wr/\Dz wr r l/\AN wr it r l.length seen/\seen.Nodup/\(∀ i∈seen,i<l.length)/\Er wr w0.heap.size 92 10 g n c rows /\
  (Pl.picked l seen).length=n/\Hid (∀ i,i<n->BB wr (rows.getD i []) ((Pl.picked l seen).getD i ([],0)))
theorem Ff{ls:List (List Pl.Tm)}(hT:AM w)(h:GU w a n c ls)(hn:n<=1000)(hN:ls.flatten.length<=1000000)(hB:∀ p s,p ++ s=ls.flatten->∀ e,Pl.RB 2400 (Pl.coef p e))(bI:∀ t∈ls.flatten,Pl.RB 2400 t.2) :
 Calls prog 70 #[.slice a n c] w (fun e w'=>∃ be,J4 w be e w'/\Pl.Nrm be/\∀ e,Pl.coef be e=Pl.coef ls.flatten e):=by
 obtain⟨cs,hS,hl,hq⟩:=h;have HQ:=qh hq;have HB:=qh hB;have cz:=qh bI;have HL:=qh hl;have HN:=qh hN;clear hq hB bI hl hN
 go_enter func70,ntmps70
 go_upto_region 2 with(refine GJ rfl rfl ?_;intro w1 bQ bK cw)
 go_wp2
 go_loopw[14] (fun iv wr=>∃ k:Nat,iv = .int .i64 k/\k<=n/\Xc w w.heap.size (ls.take k).flatten wr) (fun iv _=>n-(intOf iv).toNat)
 case atStart=>exact⟨0,rfl,gO _,[],bK,Dz.new bQ,qh (fun e=>rfl),gO _⟩
 case round =>
  clear bQ bK cw;obtain⟨k,rfl,hk,a6⟩:=hrel;by_cases ap:k<n
  · obtain⟨l0,aQ,bl,aG,aY⟩:=a6;obtain⟨b1,o1,rfl,cf⟩:=(hS.ext aQ).rd (by omega);obtain⟨a2,n2,c2,e2,bM⟩:=HQ.out k ap;have g1:=cf k ap;rw[e2]at g1;have bt:=qh (P7 (ls:=ls) (k:=k) (by rw[HL.out];exact ap));have bG:=qh (St (ls:=ls) (k:=k) (by rw[HL.out];exact ap));have cC:=qh e2;clear cf e2;obtain⟨L,aK⟩:∃ L,Hid (ls.getD k []=L):=⟨_,qh rfl⟩;obtain⟨pre,aN⟩:∃ p,Hid ((ls.take k).flatten=p):=⟨_,qh rfl⟩;rw[aN.out]at aG aY;have bs:Hid (pre ++ (L ++ (ls.drop (k+1)).flatten)=ls.flatten):=qh (by rw[<-aN.out,<-aK.out];exact bt.out)
    have cI:Hid ((ls.take (k+1)).flatten=pre ++ L):=qh (by rw[<-aN.out,<-aK.out];exact bG.out);rw[aK.out]at bM;obtain⟨O,hR,bX,bY⟩:=bM;have cG:=qh bY;have aO:=qh bX;have d9:=hR.le;clear bY bX bt bG cC;obtain⟨wo,rfl⟩:∃ x:World,x=wr:=⟨_,rfl⟩;go_wp2
    go_loopw[20] (fun iv wr=>∃ j:Nat,iv = .int .i64 j/\j<=n2/\Xc w w.heap.size (pre ++ L.take j) wr) (fun iv _=>n2-(intOf iv).toNat)
    case atStart=>exact⟨0,rfl,gO _,l0,aQ,bl,by simpa using aG,by simpa using aY⟩
    case round =>
     clear bl aG aY aQ g1;obtain⟨j,rfl,hj,a6⟩:=hrel;by_cases ao:j<n2
     · obtain⟨l,hE,a0,HC,cl⟩:=a6;have aW:=hR.ext hE;obtain⟨b,db,rfl,_⟩:=aW.rd (by omega);obtain⟨Z,Q,W,S,R,V,T,aD,h6,b3⟩:=cG.out j ao
       have bA:Hid (L.take (j+1)=L.take j ++ [L.getD j ([],0)]):=qh (by
        rw[oH,gqq,gD (by rw[aO.out];exact ao)];rfl)
       have cJ:Hid (L.getD j ([],0)∈ls.flatten):=qh (by
        rw[<-bs.out];refine List.mem_append_right _ (List.mem_append_left _ ?_);rw[gqq,gD (by rw[aO.out];exact ao)]
        exact jl _)
       have bE:Hid (∀ e,Pl.RB 2400 (Pl.coef (pre ++ L.take j) e)):=qh (HB.out _ (L.drop j ++ (ls.drop (k+1)).flatten) (by rw[<-bs.out,iQ,<-iQ (L.take j),jN]));generalize L.getD j ([],0)=t at *
       obtain⟨te,tq⟩:=t;obtain⟨D,E,F,G,H,I,al⟩:=Bt h6;simp only at al aD b3;subst al;have hY:=Arr.new wr 92 (As [0,0,0,0,0,0] false none 0 0 none 0 0)
       go_upto_region 8 with(first
        | (refine Bg rfl rfl At rfl aW ao ?_;rw[aD])
        | (refine Aa (vs:=As [D,E,F,G,H,I] Z Q W S R V T) rfl rfl rfl rfl rfl At hY rfl AI ?_;intro w3 U cg))
       have a4:Ext wr w3:=((Ext.refl wr).alloc _).grownR cg (lrf _);have ai:=a0.ext a4;have a5:=hE.trans a4;have bp:=b3.ext a5;have d5:w.heap.size≠wr.heap.size:=by have:=a0.lt;omega
       clear hY cg a0 hE a4 aD h6 aW b3;generalize wr.heap.size=X at *
       have c0:=U.c 0 rfl;have c1:=U.c 1 rfl;have c2:=U.c 2 rfl;have c3:=U.c 3 rfl;have c4:=U.c 4 rfl;have c5:=U.c 5 rfl;have c6:=U.c 6 rfl;have c7:=U.c 7 rfl;have c8:=U.c 8 rfl;have c9:=U.c 9 rfl;obtain⟨m,a1,C⟩:=ai;have af:=a1.nodup;have ag:=qh C;obtain⟨LV,bC⟩:∃ v,Hid (Fu Q2 m [D,E,F,G,H,I]=v):=⟨_,qh rfl⟩;have bB:Hid ((l.map (·.1)).Nodup):=qh (by rw[<-C.keys];exact af);have cD:Hid (BU w3 LV (Pl.getK 0 l [D,E,F,G,H,I])):=qh (by rw[<-bC.out,Ig];exact C.get (Oe w3) _)
       have aI:Hid (Pl.RB 2400 (Pl.getK 0 l [D,E,F,G,H,I])):=qh (by rw[Pl.getK_coef l _ bB.out,HC.out];exact bE.out _);have aP:Hid (Pl.RB 2400 tq):=qh (cz.out _ cJ.out);have cv:=fun(wx:World) (hq:Ext w3 wx)=>qh (QS ((hT.ext a5).ext hq) (cD.out.ext hq) (v' := .agg #[.bool Z,.slice Q W S,.bool false,.slice R V T]) (q:=tq) ⟨Al Z Q W S false R V T,rfl,bp.ext hq⟩ aI.out.1 aI.out.2 aP.out.1 aP.out.2)
       have cH:Hid (∀ e,Pl.coef (Pl.putK l [D,E,F,G,H,I] (Pl.getK 0 l [D,E,F,G,H,I]+tq)) e=Pl.coef (pre ++ L.take (j+1)) e):=qh (fun e=>by
        rw[Pl.coef_step bB.out,HC.out,bA.out,<-iQ,Pl.coef_app _ [_]])
       have cF:=qh (Pl.putK_length [D,E,F,G,H,I] (Pl.getK 0 l [D,E,F,G,H,I]+tq) l);have cB:Hid ((pre ++ L.take (j+1)).length=(pre ++ L.take j).length+1):=qh (by rw[bA.out];simp;omega);clear C af bE aI aP bp;generalize Pl.getK 0 l [D,E,F,G,H,I]=gq at *
       have aj:=fun(wx:World) (J:Ext w3 wx)=>qh (And.intro (J.cell c0) (And.intro (J.cell c1) (And.intro (J.cell c2) (And.intro (J.cell c3) (And.intro (J.cell c4) (And.intro (J.cell c5) (And.intro (J.cell c6) (And.intro (J.cell c7) (And.intro (J.cell c8) (J.cell c9))))))))))
       refine Ab (by kernel_rfl) (fun wx=>Ext w3 wx)
        [he (.map (some w.heap.size)),
 he (.pointer (some ⟨X,0,none⟩)),
 he (.agg #[.int .i64 D,.int .i64 E,.int .i64 F,.int .i64 G,.int .i64 H,.int .i64 I]),
 he (.map (some w.heap.size)),
 he (.pointer (some ⟨X,0,none⟩)),
 he (.agg #[.int .i64 D,.int .i64 E,.int .i64 F,.int .i64 G,.int .i64 H,.int .i64 I]),
 he LV,
 he (.pointer (some ⟨X,6,none⟩)),
 he (.agg #[.bool Z,.slice Q W S,.bool false,.slice R V T]),
 hp (fun v wx=>NR (gq+tq) v wx)]
        (by kernel_rfl) (fun _ _ e h=>h.trans e) ((Ext.refl w3).drew) ⟨trivial,trivial,trivial,trivial,trivial,trivial,trivial,trivial,trivial,NR.x _,trivial⟩ ⟨?o0,?o1,?o2,?o3,?o4,?o5,?o6,?o7,?o8,?o9,trivial⟩ ?fin
       case o0 | o3=>exact omv
       case o1 | o4=>exact ofa (d:=0)
       case o7=>exact ofa (d:=6)
       case o8=>exact ol4
       case o2 =>
        refine Aj rfl fun ρ wx J aC h => ?_;have e0:ρ (.tmp 25)=(.pointer (some ⟨X,0,none⟩)):=h.1;obtain⟨b4,b5,b6,b7,b8,b9,ba,bb,bc,bd⟩:=(aj wx J).out;go_simp
       case o5 =>
        refine Aj rfl fun ρ wx J aC h => ?_;have e0:ρ (.tmp 28)=(.pointer (some ⟨X,0,none⟩)):=h.1;obtain⟨b4,b5,b6,b7,b8,b9,ba,bb,bc,bd⟩:=(aj wx J).out;go_simp
       case o6 =>
        refine Aj rfl fun ρ wx J aC h => ?_;have e0:ρ (.tmp 27)=(.map (some w.heap.size)):=h.1;have e1:ρ (.tmp 29)=(.agg #[.int .i64 D,.int .i64 E,.int .i64 F,.int .i64 G,.int .i64 H,.int .i64 I]):=h.2.1;obtain⟨b4,b5,b6,b7,b8,b9,ba,bb,bc,bd⟩:=(aj wx J).out;rw[<-bC.out];exact LX rfl Du A1 J3 e0 e1 (a1.ext J) rfl
       case o9 =>
        refine Ag rfl fun ρ wx J aC d6 h => ?_;have e1:ρ (.tmp 30)=LV:=h.2.1;have e2:ρ (.tmp 32)=(.agg #[.bool Z,.slice Q W S,.bool false,.slice R V T]):=h.2.2.1;obtain⟨b4,b5,b6,b7,b8,b9,ba,bb,bc,bd⟩:=(aj wx J).out;refine⟨146,#[LV,.agg #[.bool Z,.slice Q W S,.bool false,.slice R V T]],by go_simp,((cv wx J).out).mono ?_⟩;rintro e w' ⟨cs,rfl,cK,cV⟩;exact⟨_,rfl,cK,cs,rfl,cV⟩
       case fin =>
        intro wx J;rintro _ ⟨bH,rfl,cW⟩;change wpList _ _ _ _ _ _;simp only[lq,lw,lx,lz,Act.put,lj,lk,ly];have bT:=a1.ext J;have d4:=a5.size
        go_wp2_with(refine PG rfl (Or.inl rfl) Du A1 (k:=[D,E,F,G,H,I]) (v := .agg bH.toArray) rfl rfl rfl bT rfl ?_;intro w5 bR a9)
        go_roundw
        case rel =>
         refine⟨j+1,by go_num,by omega,_,(a5.trans J).grownR a9 (lrf _),⟨_,by rw[Od]at bR;exact bR,?_⟩,cH,by have h1:=cF.out;have h2:=cB.out;omega⟩;have hU:=bT.noU;exact((ag.out.mono fun _ _ h=>h.ext J).put _ ⟨bH,rfl,cW⟩).mono fun _ _ h=>h.keptU hU a9
        case measure=>simp[intOf];omega
     · have cQ:j=n2:=by omega
       subst cQ;rw[gG (by rw[aO.out];exact lrf _),<-cI.out]at a6;go_wp2;go_roundw
       case rel=>exact⟨k+1,by go_num,by omega,a6⟩
       case measure=>simp[intOf];omega
  · have cR:k=n:=by omega
    subst cR;rw[gG (by rw[HL.out];exact lrf _)]at a6;obtain⟨l,hE,a0,HC,cl⟩:=a6;have h6:=a0.six;have af:=a0.nodup;have HP:=qh (And.intro h6 af);clear h6 af;obtain⟨m,a1,C⟩:=a0;have cn:=C.len;have aZ:m.length<=1000000:=by have:=HN.out;omega
    have aL:=qh cn;have cT:=Ih (P:=prog) (ty:=3) Du a1;have ag:=qh C;clear cn C cl
    go_upto_region 12 with(refine Jk rfl rfl (by kernel_rfl) Bs AV rfl rfl (by omega) (by unfold maxLen;omega) ?_;intro w2 aU aR)
    have z:=a1.ext aR
    go_upto_region 13 with(refine JL rfl rfl Du rfl z ?_;intro w3 bO a4 cy)
    have ah:=aR.trans a4;have a5:=hE.trans ah;have ai:Dz w3 w.heap.size l:=⟨m,a1.ext ah,ag.out.mono fun _ _ h=>h.ext ah⟩;have bk:AN w3 w2.heap.size w.heap.size l.length []:=by rw[<-aL.out];exact bO
    have d7:w.heap.size<wr.heap.size:=a1.lt;have aV:=aU.ext a4;have d8:wr.heap.size<w2.heap.size:=aU.lt.2;have aA:Er w3 w.heap.size 92 10 wr.heap.size 0 m.length []:=⟨aV.1.mono (by omega),aV.2⟩;clear bO z aR a4 aU ah cT hE cy a1 aV;generalize wr.heap.size=g at *
    generalize w2.heap.size=it at *
    obtain⟨M,hM⟩:∃ M,m.length=M:=⟨_,rfl⟩;have bS:l.length=M:=by rw[<-hM];exact aL.out.symm
    have cE:=qh bS;rw[hM]at aA aZ |-;have cL:=aZ;clear aZ;clear hM bS ag aL
    go_frame
    go_loopw[8] (fun v wr=>X7 w w.heap.size it g M l v wr) (fun _ wr=>l.length-IH wr it)
    case atStart=>exact⟨[],0,[],rfl,a5,ai,bk,by simp,by simp,aA,rfl,qh (fun i hi=>absurd hi (by omega))⟩
    case round =>
     clear a5 ai bk aA;obtain⟨f,N,O,rfl,hE,a0,hI,ar,aq,hO,co,aH⟩:=hrel;have d1:N<=f.length/\f.length<=l.length:=by
      have h1:=Pl.picked_len l f;have h2:=Pl.seen_len ar aq;omega
     have a8:=qh co;clear co;obtain⟨m2,z,av⟩:=a0;have ab:=av.len;rw[<-ab]at hI;have b2:=LY z hI;by_cases aB:∀ i,i<m2.length->i∈f
     · have bf:=Pl.picked_perm ar aq (fun i hi=>aB i (by rw[ab];exact hi));have bD:=qh bf;clear bf ab
       go_wp2_with(refine FY rfl rfl rfl z hI (fun _ => ?_) (fun i _ _ _ h1 h2 _ _ _=>absurd (aB i h1) h2))
       go_ret;refine⟨Pl.picked l f,⟨_,N,M,rfl,hE,O,hO.1,fun g' cN => ?_,a8.out,aH.out⟩,(Pl.Nrm.filter HP.out.1 HP.out.2).perm bD.out.symm,fun e => ?_⟩
       · have:g=g':=by simpa[blk]using cN
         subst this;exact hO.2
       · rw[Pl.coef_perm bD.out,Pl.coef_nz,HC.out]
     · have ca:IH wr it=f.length:=C2 hI;have cY:=hE.size;have bW:=Da hO.1 hI;have d3:=Ej hO.1 z;have au:=qh av;have bi:=qh ab;have cZ:=hI.lt;have am:=hI.noU;clear av ab
       go_upto_region 14 with(refine FY rfl rfl rfl z hI (fun h=>absurd h aB) ?_;intro i k v w4 cO ci b0 aT a7)
       obtain⟨q,cm,bZ⟩:=au.out.nth b0;have aJ:Hid (l.getD i ([],0)=(k,q)):=qh (by rw[gqq,cm];rfl);have ck:k.length=6:=z.six _ (im b0);have bm:Dz w4 w.heap.size l:=Dz.keptU ⟨m2,z,au.out⟩ am a7 b2;have bo:=z.kept a7 (by simpa using b2);have bU:=hO.kept a7 (by simpa using bW);have bg:Hid (∀ i,i<N->BB w4 (O.getD i []) ((Pl.picked l f).getD i ([],0))):=qh (fun i hi=>(aH.out i hi).keptU am a7);have cu:=bZ.keptU am a7;have aS:Ext w w4:=hE.grownR a7 (by omega)
       have A:Hid ((f ++ [i]).Nodup/\(∀ j∈f ++ [i],j<l.length)/\f.length<l.length):=qh (by
        have ch:i<l.length:=by rw[<-bi.out];exact cO
        refine⟨nJ.2 ⟨ar,by simp,fun x hx y hy=>by simp only[gL]at hy;subst hy;rintro rfl;exact ci hx⟩,fun j hj => ?_,?_⟩
        · rcases iw.1 hj with hj|hj
          · exact aq j hj
          · simp only[gL]at hj;subst hj;exact ch
        · have:=Pl.seen_len (n:=l.length) (kf.2 ⟨ci,ar⟩) (fun x hx=>by
           rcases iE.1 hx with rfl|hx
           · exact ch
           · exact aq x hx)
          simp at this
          omega)
       obtain⟨D,E,F,G,H,I,al⟩:=Bt ck;subst al;obtain⟨_,rfl,Z,Q,W,S,R,V,T,rfl,bF,cp,cq⟩:=cu;have bu:Hid (AN w4 it w.heap.size l.length (f ++ [i])):=qh (by rw[<-bi.out];exact aT);have da:=aS.size;clear bZ aH hE z hO hI a7 am ck cm cY bW b2 au;have cb:=ER w4 (ze.map (Value.int .i64)) (Al false none 0 0 false none 0 0) 90 85;have cc:=ES w4 (ze.map (Value.int .i64)) (Al false none 0 0 false none 0 0) 90 85;have bN:=UD w4 (.cells (ze.map (Value.int .i64)).toArray 90) (.cells (Al false none 0 0 false none 0 0).toArray 85)
       go_upto_region 15 with(first
        | (refine JM rfl rfl rfl bo aT b0 ?_)
        | (refine Aa (vs:=[D,E,F,G,H,I].map (Value.int .i64)) rfl rfl rfl rfl rfl D4 cb rfl (Cc _) ?_;intro w5 bJ a9;have cd:=cc.kept a9 (by simp);clear cb)
        | (refine Aa (vs:=Al Z Q W S false R V T) rfl rfl rfl rfl rfl Ak cd rfl (Aq _ _ _ _ _ _ _ _) ?_;intro w6 ad aX))
       have B:Ext w4 w6:=(bN.grownR a9 (lrf _)).grownR aX (by omega);have K:=bJ.kept aX (by simp);have bL:=aS.trans B;have bn:=bm.ext B;have bv:Hid (AN w6 it w.heap.size l.length (f ++ [i])):=qh (bu.out.ext B);have bV:=bU.ext B;have bh:Hid (∀ i,i<N->BB w6 (O.getD i []) ((Pl.picked l f).getD i ([],0))):=qh (fun i hi=>(bg.out i hi).ext B);have aE:=cp.ext B;have aF:=cq.ext B;clear bJ a9 aX bN cc cd B bm bu bU bg cp cq aS bo aT;generalize w4.heap.size=Y at *
       have y0:w6.cell? ⟨Y,0,none⟩=some (.int .i64 D):=K.cell (i:=0) (by simp);have y1:w6.cell? ⟨Y,1,none⟩=some (.int .i64 E):=K.cell (i:=1) (by simp);have y2:w6.cell? ⟨Y,2,none⟩=some (.int .i64 F):=K.cell (i:=2) (by simp);have y3:w6.cell? ⟨Y,3,none⟩=some (.int .i64 G):=K.cell (i:=3) (by simp);have y4:w6.cell? ⟨Y,4,none⟩=some (.int .i64 H):=K.cell (i:=4) (by simp);have y5:w6.cell? ⟨Y,5,none⟩=some (.int .i64 I):=K.cell (i:=5) (by simp);have z0:=ad.c 0 rfl;have z1:=ad.c 1 rfl;have z2:=ad.c 2 rfl;have z3:=ad.c 3 rfl
       have cj:=qh (DU (w:=w6) (v := .agg #[.bool Z,.slice Q W S,.bool false,.slice R V T]) (q:=q) ⟨Al Z Q W S false R V T,rfl,Z,Q,W,S,R,V,T,rfl,bF,aE,aF⟩ rfl);clear K ad
       go_wp2_with fail
       refine cj.out.mono ?_;rintro e w7 ⟨rfl,o⟩;have ay:=bL.trans o;have az:=bn.ext o;have ak:Hid (AN w7 it w.heap.size l.length (f ++ [i])):=qh (bv.out.ext o);have an:=bV.ext o;have aw:Hid (∀ i,i<N->BB w7 (O.getD i []) ((Pl.picked l f).getD i ([],0))):=qh (fun i hi=>(bh.out i hi).ext o);have bq:=aE.ext o;have br:=aF.ext o;have y0:=o.cell y0;have y1:=o.cell y1;have y2:=o.cell y2;have y3:=o.cell y3;have y4:=o.cell y4;have y5:=o.cell y5;have z0:=o.cell z0;have z1:=o.cell z1;have z2:=o.cell z2;have z3:=o.cell z3
       clear cj bL bn bv bV bh aE aF o;by_cases aa:q=0
       · rw[iA aa];have ac:Hid (Pl.picked l (f ++ [i])=Pl.picked l f):=qh (by rw[Pl.picked_snoc,gY (by rw[aJ.out];exact aa)]);clear aa;go_wp2;go_roundw
         case rel=>exact⟨f ++ [i],N,O,rfl,ay,az,ak.out,A.out.1,A.out.2.1,an,by rw[ac.out];exact a8.out,by rw[ac.out];exact aw⟩
         case measure =>
          have e1:=C2 ak.out;have e2:=A.out.2.2;rw[ca,e1];simp;omega
       · rw[gR aa];have ac:Hid (Pl.picked l (f ++ [i])=Pl.picked l f ++ [([D,E,F,G,H,I],q)]):=qh (by rw[Pl.picked_snoc,gT (by rw[aJ.out];exact aa),aJ.out]);have d2:N<M:=by have h1:=A.out.2.2;have h2:=cE.out;omega
         have d0:M<=1000000:=cL;clear aa;have a3:Ext w7 (w7.alloc (.cells (As [D,E,F,G,H,I] Z Q W S R V T).toArray 92)):=(Ext.refl w7).alloc _;have hA8:=an.ext a3;have bP:=BT (k:=10) (Arr.new w7 92 (As [D,E,F,G,H,I] Z Q W S R V T)) rfl;have cS:(As [D,E,F,G,H,I] Z Q W S R V T).toArray=#[.int .i64 D,.int .i64 E,.int .i64 F,.int .i64 G,.int .i64 H,.int .i64 I,.bool Z,.slice Q W S,.bool false,.slice R V T]:=rfl
         have ce:w.heap.size<=(w7.alloc (.cells (As [D,E,F,G,H,I] Z Q W S R V T).toArray 92)).heap.size:=(ay.trans a3).size;have cA:=qh (ay.trans a3);have ct:Hid (∀ i,i<N->BB (w7.alloc (.cells (As [D,E,F,G,H,I] Z Q W S R V T).toArray 92)) (O.getD i []) ((Pl.picked l f).getD i ([],0))):=qh fun i hi=>(aw.out i hi).ext a3
         have cr:Hid (BB (w7.alloc (.cells (As [D,E,F,G,H,I] Z Q W S R V T).toArray 92)) (As [D,E,F,G,H,I] Z Q W S R V T) ([D,E,F,G,H,I],q)):=qh ⟨Z,Q,W,S,R,V,T,rfl,rfl,Z,Q,W,S,R,V,T,rfl,bF,bq.ext a3,br.ext a3⟩;have bj:=qh (az.ext a3);have bw:=qh (ak.out.ext a3);have aM:=qh hA8;rw[cS]at hA8 bP ce;have cX:=an.1.len (by omega);clear az an aw ak bq br
         go_wp2_with(refine GT rfl rfl (by kernel_rfl) Bs rfl hA8 rfl bP (by intro r hr u hu;rw[gL.1 hr]at hu;exact AI u hu) (by intro r hr u hu;rw[gL.1 hr]at hu;exact AV u hu) (by omega) (by omega) ce ?_;intro w9 cM ae)
         have bz:Hid (AN w9 it w.heap.size l.length (f ++ [i])):=qh (bw.out.kept ae (by have:=Da aM.out.1 bw.out;simpa using fun h=>this h.symm));go_roundw
         case rel =>
          have hU:=aM.out.2;have cU:w.heap.size≠g:=by
           obtain⟨m8,h8,_⟩:=bj.out;exact fun h=>Ej aM.out.1 h8 h.symm
          refine⟨f ++ [i],N+1,_,rfl,cA.out.grownR ae (by omega),bj.out.keptU hU ae cU,bz.out,A.out.1,A.out.2.1,cM,by rw[ac.out,iD,a8.out];rfl,qh fun j hj => ?_⟩;rw[ac.out];by_cases cP:j=N
          · subst cP;rw[gqq,iu (by omega),cX,ju,gqq,iu (by rw[a8.out];exact lrf _),a8.out,ju];exact cr.out.keptU hU ae
          · rw[gqq,gZ (by omega),<-gqq,gqq (l:=Pl.picked l f ++ _),gZ (by rw[a8.out];omega),<-gqq];exact(ct.out j (by omega)).keptU hU ae
         case measure =>
          have e1:=C2 bz.out;have e2:=A.out.2.2;rw[ca,e1];simp;omega
theorem FK{k:Nat}:∀ (a:List (List Value)),(∀ r∈a,r.length=k)->∀ i o (vs:List Value),o+vs.length<=k->i<a.length ->
 a.flatten.take (i*k+o) ++ vs ++ a.flatten.drop (i*k+o+vs.length)=(a.set i ((a.getD i []).take o ++ vs ++ (a.getD i []).drop (o+vs.length))).flatten
 | [],_,i,o,vs,_,hi=>by simp at hi
 | r :: rest,h,0,o,vs,hv,_=>by
  have hr:r.length=k:=h r (by simp);simp only[jg,iz,lE,lV,kD];rw[List.take_append_of_le_length (by omega),List.drop_append_of_le_length (by omega),<-iQ]
 | r :: rest,h,i+1,o,vs,hv,hi=>by
  have hr:r.length=k:=h r (by simp);have d:=FK rest (fun x c=>h x (by simp[c])) i o vs hv (by simpa using hi);have e:(i+1)*k+o=k+(i*k+o):=by rw[iW];omega
  have b:k+(i*k+o)+vs.length=k+(i*k+o+vs.length):=by omega
  simp only[lE,lu,kQ,e,b];rw[<-d,<-hr,List.take_length_add_append,List.drop_length_add_append];simp
section
variable {w:World} {base:Nat} {e:TypeId} {k g n:Nat} {rows:List (List Value)}
theorem AR.arrK(h:AR w base e k (some ⟨g,0,none⟩) n n rows):Arr w g e rows.flatten:=by
 rcases h.2.2 with⟨a,_⟩|⟨l,d,b,a,m,f,i,o,j,c⟩
 · simp at a
 simp only[gW,gK,iV,jp,lI]at a;obtain⟨rfl,rfl⟩:=a;have h2:b.toList=rows.flatten:=by rw[<-c,gG (by simp[j])]
 unfold Arr;rw[f,<-h2]
theorem Arr.ownK(h:Arr w g e rows.flatten)(b:∀ r∈rows,r.length=k)(f:rows.length=n)(c:base<=g)(d:n<=maxLen):AR w base e k (some ⟨g,0,none⟩) n n rows:=by
 have a:=BM rows b;rw[f]at a;refine⟨b,by rw[a],Or.inr ⟨g,n,rows.flatten.toArray,rfl,c,h,lrf _,d,by simpa using a,?_⟩⟩;simpa using gG (by rw[a];exact lrf _)
end
def G9(vars:Int)(t:Tx):Prop:=(AD t.1).isSome=true/\(t.2.length:Int)=vars/\A3 t.2=true
def Es(t:Tx):Pl.Tm:=(AY t.2,(AD t.1).getD 0)
def Xd:List Value:=As ze false none 0 0 none 0 0
def Rc(w:World)(vars:Int)(ts:List Tx)(e:Ending)(w':World):Prop :=
 (¬ (0<=vars/\vars<=6)/\Cl w 0 [] 3 e w')\/(0<=vars/\vars<=6/\¬ (∀ t∈ts,G9 vars t)/\Cl w 0 [] 1 e w')\/(0<=vars/\vars<=6/\(∀ t∈ts,G9 vars t)/\Cd w (resQ vars (ts.map Es)) e w')
structure EH(p:List Pl.Tm):Prop where
 pre:∀ a s,a ++ s=p->∀ e,Pl.RB 2400 (Pl.coef a e)
 each:∀ t∈p,Pl.RB 2400 t.2
 fits:Cj p
theorem Su{ts:List Tx}(hT:AM w)(h:AH w A n c ts)(hs:∀ t∈ts,t.1.length<=570)(hn:n<=1000000)(ay:0<=vars->vars<=6->(∀ t∈ts,G9 vars t)->EH (ts.map Es)) :
 Calls prog 12 #[.int .i64 vars,.slice A n c] w (Rc w vars ts):=by
 have aI:=h.len;obtain⟨bk,hS,_,hq⟩:=h;have HQ:=qh hq;have HL:=qh aI;have HS:=qh hs;clear hq aI hs
 go_enter func12,ntmps12
 go_upto_region 1 with(fail)
 refine AP ?_;intro w0 M aT bF;have hR:Arr w0 w.heap.size 28 (Ah 0 none 0 0):=aT;have bN:(Ah 0 none 0 0).toArray=#[.int .i64 0,.slice none 0 0]:=rfl;clear aT bF;by_cases hv:0<=vars/\vars<=6
 · obtain⟨a5,a6⟩:=hv;have bq:=qh (ay a5 a6);clear ay;obtain⟨E,rfl⟩:∃ k:Nat,vars=(k:Int):=⟨vars.toNat,by omega⟩;have c1:¬ ((E:Int)<0):=by omega
   have c2:¬ ((6:Int)<(E:Int)):=by omega
   have aJ:nuR (List.replicate n Xd):=fun r hr u hu=>by rw[(jb.1 hr).2]at hu;exact AV u hu
   go_upto_region 4 with(refine E0 rfl rfl (by kernel_rfl) Bs rfl rfl (by omega) (by unfold maxLen;omega) ?_;intro w1 an aU)
   obtain⟨G,hG⟩:∃ G,w0.heap.size=G:=⟨_,rfl⟩;rw[hG]at an |-;go_wp2
   go_loopw[23] (fun iv wr=>∃ (k:Nat) (a:List (List Value)),iv = .int .i64 k/\k<=n/\Ext w0 wr/\AR wr w0.heap.size 92 10 (some ⟨G,0,none⟩) n n a/\nuR a/\Hid (∀ i,i<k->G9 E (ts.getD i tm0)/\BB wr (a.getD i []) (Es (ts.getD i tm0)))/\Hid (∀ i,k<=i->i<n->a.getD i []=Xd)) (fun iv _=>n-(intOf iv).toNat)
   case atStart=>exact⟨0,_,rfl,gO _,aU,by rw[hG];exact an,aJ,qh (fun i d=>absurd d (by omega)),qh (fun i _ d=>by simp[d,Xd,ze])⟩
   case round =>
    clear an aU aJ;obtain⟨k,a,rfl,hk,hE,hO,aw,HC,HZ⟩:=hrel;have aX:=M.trans hE;by_cases ad:k<n
    · have ao:=hS.ext aX;obtain⟨b,bO,rfl,bu⟩:=ao.rd (by omega);obtain⟨s,ax,nx,cx,aK,a4,af⟩:=HQ.out k ad;have hY:=Arr.new wr 26 (tmL ⟨#[]⟩ none 0 0);have aC:bk.getD k []=tmL s ax nx cx:=aK
      go_upto_region 7 with(first
       | (refine Bg rfl rfl A4 rfl ao ad ?_;rw[aC])
       | (refine Aa (vs:=tmL s ax nx cx) rfl rfl rfl rfl rfl A4 hY rfl (CI _ _ _ _) ?_;intro w2 a8 b6))
      have a9:Ext wr w2:=((Ext.refl wr).alloc _).grownR b6 (lrf _);have aZ:=hO.ext a9;have ai:Hid (∀ i,i<k->G9 E (ts.getD i tm0)/\BB w2 (a.getD i []) (Es (ts.getD i tm0))):=qh fun i d=>⟨(HC.out i d).1,(HC.out i d).2.ext a9⟩;have ag:=hE.trans a9;have aF:=M.trans ag;have S:=af.ext aF;have F:Hid (ts.getD k tm0∈ts):=qh (by simp[HL.out,ad]);have ba:s.size<=570:=by rw[<-Ay,a4];exact HS.out _ F.out
      have a2:=qh (GQ (w:=w2) (hT.ext aF) ba);rw[a4]at a2;obtain⟨t,aR⟩:∃ t,Hid (ts.getD k tm0=t):=⟨_,qh rfl⟩;rw[aR.out]at a2 S af a4 F;obtain⟨t1,P⟩:=t;simp only at a2 S af a4;obtain⟨X,hX⟩:∃ x,wr.heap.size=x:=⟨_,rfl⟩;rw[hX]at a8 |-;have bI:G<X:=by have:=(hO.lt (g:=G) rfl).2;omega
      have y0:=a8.c 0 rfl;have y1:=a8.c 1 rfl;clear hY b6 hO hE a9 aK aC bu ao HC a4 ba
      go_wp2_with fail
      refine a2.out.mono ?_;rintro e w3 ⟨_,rfl,aa,B,f,m,j,o,z,y,rfl,aQ,bc,be⟩;have b5:=Arr.new w3 85 (Al false none 0 0 false none 0 0);have bx:(Al B f m j false o z y).toArray=#[.bool B,.slice f m j,.bool false,.slice o z y]:=rfl
      go_upto_region 8 with(refine Aa (vs:=Al B f m j false o z y) rfl rfl rfl rfl rfl Ak b5 rfl (Aq _ _ _ _ _ _ _ _) ?_;intro w4 U b7)
      have R:Ext w3 w4:=((Ext.refl w3).alloc _).grownR b7 (lrf _);have H:=aa.trans R;have Q:=ag.trans H;have I:=M.trans Q;have ab:=hR.ext Q;have C:=aZ.ext H;have aj:Hid (∀ i,i<k->G9 E (ts.getD i tm0)/\BB w4 (a.getD i []) (Es (ts.getD i tm0))):=qh fun i d=>⟨(ai.out i d).1,(ai.out i d).2.ext H⟩;have T:=S.ext H;have y1:=H.cell y1;have aA:=bc.ext R;have aB:=be.ext R;have ae:=T.len;obtain⟨Y,b4⟩:∃ x,w3.heap.size=x:=⟨_,rfl⟩;rw[b4]at U |-;have z0:=U.c 0 rfl;have z1:=U.c 1 rfl;have z2:=U.c 2 rfl
      have z3:=U.c 3 rfl;clear b5 b7 bx aa R bc be aZ ai S y0 a8 a2 ag U b4;cases K:AD t1 with
      | none =>
       have a0:Hid (¬ ∀ t∈ts,G9 E t):=qh (fun h=>by have:=(h _ F.out).1;rw[K]at this;cases this);simp only[jz];clear K
       go_wp2_with(refine Aa (vs:=Ah 0 none 0 0) rfl rfl rfl rfl rfl Ad ab rfl (Am _ _ _ _) ?_;intro w9 L O)
       refine gF (Ao rfl Ad rfl rfl L) rfl ?_;exact Or.inr (Or.inl ⟨a5,a6,a0.out,none,0,0,rfl,I.grownR O (lrf _),TmO.nil _ _⟩)
      | some q =>
       simp only[jr,K,gP]at aQ aA aB |-;by_cases D:(nx:Int)=E
       · have bi:((nx:Int) != (E:Int))=false:=by simp[D]
         cases Z:A3 P with
         | false =>
          have a0:Hid (¬ ∀ t∈ts,G9 E t):=qh (fun h=>by have:=(h _ F.out).2.2;rw[show((t1,P):Tx).2=P from rfl,Z]at this;cases this);have W:=qh (E6 T);rw[Z]at W;have bo:=qh D;clear K Z D
          go_wp2_with fail
          refine W.out.mono ?_;rintro e w5 ⟨rfl,rfl⟩
          go_wp2_with(refine Aa (vs:=Ah 0 none 0 0) rfl rfl rfl rfl rfl Ad ab rfl (Am _ _ _ _) ?_;intro w9 L O)
          refine gF (Ao rfl Ad rfl rfl L) rfl ?_;exact Or.inr (Or.inl ⟨a5,a6,a0.out,none,0,0,rfl,I.grownR O (lrf _),TmO.nil _ _⟩)
         | true =>
          have bm:Hid (G9 E (t1,P)):=qh ⟨by rw[show((t1,P):Tx).1=t1 from rfl,K];rfl,by show(P.length:Int)=E;rw[ae];exact D,Z⟩;have bn:Hid (Es (t1,P)=(AY P,q)):=qh (by show(AY P,(AD t1).getD 0)=_;rw[K];rfl);have W:=qh (E6 T);rw[Z]at W;have bz:nx<=6:=by omega
          have b9:=HZ.out k (lrf _) ad;have az:=C.len (by omega);have aq:=BM a C.1;rw[az]at aq
          have aN:Hid (a.flatten.take (k*10+6) ++ Al B f m j false o z y ++ a.flatten.drop (k*10+6+(Al B f m j false o z y).length)=(a.set k (As ze B f m j o z y)).flatten):=qh (by
           rw[FK a C.1 k 6 (Al B f m j false o z y) (by simp[Al,Ac]) (by omega),b9]
           rfl)
          have bb:∀ r∈a.set k (As ze B f m j o z y),r.length=10:=fun r hr=>by
           rcases j7 hr with h|h
           · exact C.1 r h
           · rw[h,BC];rfl
          have bl:Hid ((a.set k (As ze B f m j o z y)).flatten.take (k*10) ++ P.map (Value.int .i64) ++ (a.set k (As ze B f m j o z y)).flatten.drop (k*10+nx)=(a.set k (As (AY P) B f m j o z y)).flatten):=qh (by
           have h1:=FK (a.set k (As ze B f m j o z y)) bb k 0 (P.map (Value.int .i64)) (by simp;omega) (by simp;omega);rw[iO,iM,ae]at h1;rw[h1,oK];congr 2;have e1:(a.set k (As ze B f m j o z y)).getD k []=As ze B f m j o z y:=by rw[gqq,jF (by omega)];rfl
           rw[e1,jw,jo,iz];unfold As AY;have hz:ze=List.replicate 6 0:=rfl
           rw[hz,lW,iJ,lW,nU,List.drop_replicate,ae,List.length_replicate,show nx-6=0 by omega,ji,iQ])
          have hA4:=C.arrK;have bo:=qh D;have bp:=qh C.1;have bH:=(C.lt (g:=G) rfl);have ac:=C.noU aw;have b8:(k:Int)<n:=by omega
          have bK:X≠G:=by omega
          clear K Z D b9 C
          go_wp2_with fail
          refine W.out.mono ?_;rintro e w5 ⟨rfl,rfl⟩;clear W
          go_upto_region 11 with(refine CD rfl rfl (Al B f m j false o z y) _ (by kernel_rfl) rfl rfl rfl hA4 (by rw[aq];simp[Al,Ac];omega) (Aq _ _ _ _ _ _ _ _) aN.out ?_;intro w5 hA5 N)
          have bG:∀ v∈(a.set k (As ze B f m j o z y)).flatten,∀ i,v ≠ .int .u64 i:=fun v hv=>by
           obtain⟨r,hr,hu⟩:=kM.1 hv;rcases j7 hr with h|h
           · exact aw r h v hu
           · rw[h]at hu;exact AV v hu
          have bC:w.heap.size<=G:=by have:=M.size;omega
          have aG:=I.grownR N bC;have aE:=Q.grownR N (lH hG);have aL:=af.ext aG;have yy:w5.cell? ⟨X,1,none⟩=some (.slice ax nx cx):=by rw[kJ (w:=w4) (N.block X (jq w4 ⟨X,1,none⟩ y1) (by simp;omega)),y1]
          have ak:Hid (∀ i,i<k->G9 E (ts.getD i tm0)/\BB w5 (a.getD i []) (Es (ts.getD i tm0))):=qh fun i d=>⟨(aj.out i d).1,(aj.out i d).2.keptU ac N⟩;have bd:=aA.keptU ac N;have bf:=aB.keptU ac N;have aH:=BM _ bb;rw[kA,az]at aH;clear y1 z0 z1 z2 z3 hA4 ac N aj aA aB T ab Q I aN aq
          go_still_tail 7,(by kernel_rfl)
          change wpList _ _ _ _ _ w5.drew;have hA6:Arr w5.drew G 92 (a.set k (As ze B f m j o z y)).flatten:=hA5;have V:=(Ext.refl w5).drew;have bj:=aL.ext V;have bh:=aE.trans V;have aM:Hid (∀ i,i<k->G9 E (ts.getD i tm0)/\BB w5.drew (a.getD i []) (Es (ts.getD i tm0))):=qh fun i d=>⟨(ak.out i d).1,(ak.out i d).2.ext V⟩;have bD:=bd.ext V;have bE:=bf.ext V;clear hA5 aL aE aG ak bd bf V yy;generalize w5.drew=w6 at *
          have b2:=hA6.noU bG
          go_wp2_with(refine LF (sT:=24) rfl rfl underlying24 Dt rfl rfl hA6 bj bz (by rw[aH];omega) (Cc _) ?_;intro w7 hA7 au;rw[bl.out]at hA7)
          go_roundw
          case rel =>
           have bB:∀ r∈a.set k (As (AY P) B f m j o z y),r.length=10:=fun r hr=>by
            rcases j7 hr with h|h
            · exact bp.out r h
            · rw[h,BC,D0 (by omega)]
           refine⟨k+1,a.set k (As (AY P) B f m j o z y),by go_num,by omega,bh.grownR au (lH hG),hA7.ownK bB (by rw[kA];exact az) (lH hG) (by unfold maxLen;omega),?_,qh fun i d => ?_,qh fun i h1 h2 => ?_⟩
           · intro r hr u hu;rcases j7 hr with h|h
             · exact aw r h u hu
             · rw[h]at hu;exact AV u hu
           · by_cases bw:i=k
             · subst bw;rw[aR.out];refine⟨bm.out,?_⟩;rw[bn.out,gqq,jF (by omega)];exact BB.keptU ⟨B,f,m,j,o,z,y,rfl,D0 (by show P.length<=6;omega),B,f,m,j,o,z,y,rfl,aQ,bD,bE⟩ b2 au
             · rw[gqq (l:=a.set _ _),List.getElem?_set_ne (by omega),<-gqq];exact⟨(aM.out i (by omega)).1,(aM.out i (by omega)).2.keptU b2 au⟩
           · rw[gqq (l:=a.set _ _),List.getElem?_set_ne (by omega),<-gqq];exact HZ.out i (by omega) h2
          case measure=>simp[intOf];omega
       · have a0:Hid (¬ ∀ t∈ts,G9 E t):=qh (fun h=>D (by have:=(h _ F.out).2.1;rw[<-ae];exact this));have bi:((nx:Int) != (E:Int))=true:=by simpa using D
         clear K D
         go_wp2_with(refine Aa (vs:=Ah 0 none 0 0) rfl rfl rfl rfl rfl Ad ab rfl (Am _ _ _ _) ?_;intro w9 L O)
         refine gF (Ao rfl Ad rfl rfl L) rfl ?_;exact Or.inr (Or.inl ⟨a5,a6,a0.out,none,0,0,rfl,I.grownR O (lrf _),TmO.nil _ _⟩)
    · have b8:k=n:=by omega
      subst b8
      have aD:Hid (∀ t∈ts,G9 E t):=qh (fun t ht=>by
       obtain⟨i,d,rfl⟩:=jX.1 ht;have:=(HC.out i (by rw[<-HL.out];exact d)).1;rw[gqq,gD d]at this
       exact this)
      have a1:=bq.out aD.out;have br:=qh a1
      have aW:Bn wr (some ⟨G,0,none⟩) k k (ts.map Es):=⟨a,hO.slk (by omega),by simp[HL.out],fun i d=>by
       have h1:=(HC.out i d).2;have h2:(ts.map Es).getD i ([],0)=Es (ts.getD i tm0):=by simp[HL.out,d]
       rw[h2];exact h1⟩
      have am:=(Ext.refl wr).alloc (.cells #[.slice (some ⟨G,0,none⟩) k k] 80);have aY:GU (wr.alloc (.cells #[.slice (some ⟨G,0,none⟩) k k] 80)) (some ⟨wr.heap.size,0,none⟩) 1 1 [ts.map Es]:=by
       refine⟨[.slice (some ⟨G,0,none⟩) k k],(AB wr wr.heap.size 80 #[.slice (some ⟨G,0,none⟩) k k] 1 rfl (lrf _) (by omega)).sl,rfl,fun i d => ?_⟩;have:i=0:=by omega
       subst this;exact⟨_,k,k,rfl,aW.ext am⟩
      have J:[ts.map Es].flatten=ts.map Es:=by simp
      have al:=qh (Ff ((hT.ext aX).ext am) aY (by omega) (by rw[J];exact a1.fits.len) (by rw[J];exact a1.pre) (by rw[J];exact a1.each));rw[J]at al;have ah:=hE.trans am;have bJ:=hR.ext ah;clear a1 aW aY hO HC HZ J
      go_wp2_with fail
      refine al.out.mono ?_;rintro e w3 ⟨bP,⟨f,m,j,rfl,aa,b0⟩,av,ap⟩;have ar:=br.out.fits.out av ap;have bL:=b0.len;have aS:=qh (B6 (vars:=E) (w0:=w0) (hT.ext M) (ah.trans aa) (b0.mono ah.size) (by omega) ar.1 ar.2.1 (by omega));have aO:=qh (And.intro av ap);clear av ap ar al
      go_wp2_with fail
      refine aS.out.mono ?_;intro e w7 hw;have hq:=Fw.q (p:=ts.map Es) hw aO.out.1 aO.out.2;obtain⟨rr,aP⟩:∃ r,Hid (resQ (E:Int) (ts.map Es)=r):=⟨_,qh rfl⟩;rw[aP.out]at hq;obtain⟨a7,n7,c7,rfl,aV,bt⟩:=hq;have bA:BS rr.1 a7 n7 c7 = .agg #[.int .i64 rr.1,.slice a7 n7 c7]:=rfl;rw[bA];have bM:(Ah rr.1 a7 n7 c7).toArray=#[.int .i64 rr.1,.slice a7 n7 c7]:=rfl;have b1:=hR.ext aV;clear hw aS
      go_wp2_with(refine Aa (vs:=Ah rr.1 a7 n7 c7) rfl rfl rfl rfl rfl Ad b1 rfl (Am _ _ _ _) ?_;intro w8 bs bv)
      refine gF (Ao rfl Ad rfl rfl bs) rfl ?_;exact Or.inr (Or.inr ⟨a5,a6,aD.out,by rw[aP.out];exact Kr M aV bt b1 bv (lrf _)⟩)
 · have HF:Hid (∀ e w',Cl w 0 [] 3 e w'->Rc w vars ts e w'):=qh (fun e w' h=>Or.inl ⟨hv,h⟩);have bg:vars<0\/(¬ vars<0/\6<vars):=by omega
   clear hv ay;rcases bg with h1|⟨h1,h2⟩
   all_goals
    go_wp2_with(refine Aa (vs:=Ah 0 none 0 0) rfl rfl rfl rfl rfl Ad hR rfl (Am _ _ _ _) ?_;intro w9 L O)
    refine gF (Ao rfl Ad rfl rfl L) rfl ?_;exact HF.out _ _ ⟨none,0,0,rfl,M.grownR O (lrf _),TmO.nil _ _⟩
theorem Fg(g:SlI w a n c xs)(j:SlI w b m d ys) :
 Calls prog 92 #[.slice a n c,.slice b m d] w fun e F=>e = .returned (.bool (decide (xs=ys)))/\Qt w F:=by
 have L:=g.le;have E:=j.le;by_cases t:n=m
 · have x:((n:Int) != (m:Int))=false:=by simp[t]
   have y:=qh t;clear t
   go_enter func92,ntmps92
   go_wp2
   go_loopw[13] (fun i wr=>∃ k:Nat,k<=n/\i = .int .i64 k/\Qt w wr/\xs.take k=ys.take k) (fun i _=>n-(intOf i).toNat)
   case atStart=>exact⟨0,gO _,rfl,Qt.refl _,rfl⟩
   case round =>
    obtain⟨k,K,rfl,l,hp⟩:=hrel;have z:=qh hp;clear hp;have g:=g.ext l.ext;have j:=j.ext l.ext;by_cases q:k<n
    · have f:k<m:=by have:=y.out;omega
      obtain⟨G,M,rfl,o⟩:=g.at q;obtain⟨H,N,rfl,p⟩:=j.at f;have I:=o k q;have J:=p k f;clear o p;generalize r:xs.getD k 0=C at *
      generalize s:ys.getD k 0=D at *
      have A:=qh r;have B:=qh s;clear r s;go_wp2
      go_quiet (fail)
      by_cases he:(C != D)=true
      · go_wp2;go_ret;have:xs≠ys:=Oa (k:=k) (by rw[A.out,B.out];exact he);exact⟨by simp[this],l.drewN _⟩
      · have v:(C != D)=false:=by simpa using he
        go_wp2;go_roundw
        case rel=>exact⟨k+1,by omega,by go_num,l.drewN _,LS z.out (by have:=g.len;omega) (by have:=j.len;omega) (by rw[A.out,B.out];exact v)⟩
        case measure=>simp[intOf];omega
    · go_wp2;go_ret;refine⟨?_,l⟩;have h1:=z.out;have h2:=y.out;rw[gG (by have:=g.len;omega),gG (by have:=j.len;omega)]at h1;simp[h1]
 · have x:((n:Int) != (m:Int))=true:=by simp;omega
   go_enter func92,ntmps92
   go_wp2;go_ret;refine⟨?_,Qt.refl _⟩;have:xs≠ys:=by rintro rfl;exact t (g.len.symm.trans j.len)
   simp[this]
theorem OE(p:SlI w a n c xs)(q:SlI w b m d ys) :
 Calls prog 91 #[.agg #[.string s,.slice a n c],.agg #[.string s',.slice b m d]] w fun e r=>e = .returned (.bool (decide ((An s,xs)=(An s',ys))))/\Ext w r:=by
 have k:=fun(t:World) (o:Ext w t)=>qh (Fg (p.ext o) (q.ext o))
 go_enter func91,ntmps91
 go_upto_region 1 with(fail)
 refine Cf ?_;intro y i f g l;have v:=f.c 0 rfl;have x:=f.c 1 rfl;have u0:=g.c 0 rfl;have u1:=g.c 1 rfl;clear f g l;by_cases he:s.toList=s'.toList
 · go_wp2_with fail
   refine(k _ i).out.mono ?_;rintro e z ⟨rfl,j⟩;go_wp2;go_ret;rw[jD,jD]at he;exact⟨by unfold An;simp[he],i.trans j.ext⟩
 · go_wp2_with fail
   go_ret;rw[jD,jD]at he;exact⟨by unfold An;simp[he],i⟩
theorem P8{xs ys:List Tx}(hp:xs.take k=ys.take k)(h1:k<xs.length)(h2:k<ys.length)(he:xs.getD k tm0=ys.getD k tm0):xs.take (k+1)=ys.take (k+1):=by
 simp only[gqq,h1,h2,gD,gP]at he;rw[gM h1,gM h2,hp,he]
theorem Io{xs ys:List Tx}(hx:AH w a n c xs)(hy:AH w b m d ys) :
 Calls prog 90 #[.slice a n c,.slice b m d,.func (.func 91) #[] #[]] w fun e w'=>e = .returned (.bool (decide (xs=ys)))/\Ext w w':=by
 have G:=hx.len;have H:=hy.len;obtain⟨rx,hX,_,I⟩:=hx;obtain⟨ry,hY,_,J⟩:=hy;have U:=qh I;have V:=qh J;have p:=qh G;have q:=qh H;clear I J G H;have a5:=hX.le;have a4:=hY.le;by_cases S:n=m
 · have a0:((n:Int) != (m:Int))=false:=by simp[S]
   have HL:=qh S;clear S
   go_enter func90,ntmps90
   go_wp2
   go_loopw[17] (fun i wr=>∃ k:Nat,k<=n/\i = .int .i64 k/\Ext w wr/\xs.take k=ys.take k) (fun i _=>n-(intOf i).toNat)
   case atStart=>exact⟨0,gO _,rfl,Ext.refl _,rfl⟩
   case round =>
    obtain⟨k,hk,rfl,R,hp⟩:=hrel;have HP:=qh hp;clear hp;by_cases F:k<n
    · have o:k<m:=by have:=HL.out;omega
      have x:=hX.ext R;obtain⟨b1,o1,rfl,Y⟩:=x.rd (by omega);obtain⟨s1,a1,n1,c1,K,M,O⟩:=U.out k F;obtain⟨s2,a2,n2,c2,L,N,P⟩:=V.out k o;clear Y;have B:=Arr.new wr 26 (tmL ⟨#[]⟩ none 0 0)
      go_upto_region 6 with(first
       | (refine Bg rfl rfl A4 rfl x F ?_;rw[K])
       | (refine Aa (vs:=tmL s1 a1 n1 c1) rfl rfl rfl rfl rfl A4 B rfl (CI _ _ _ _) ?_;intro Q r D))
      have C:Ext wr Q:=((Ext.refl wr).alloc _).grownR D (lrf _);have g:=R.trans C;have y:=hY.ext g;clear B D R C x;generalize wr.heap.size=Xg at *
      obtain⟨b2,o2,rfl,Z⟩:=y.rd (by omega);clear Z;have B:=Arr.new Q 26 (tmL ⟨#[]⟩ none 0 0)
      go_upto_region 7 with(first
       | (refine Bg rfl rfl A4 rfl y o ?_;rw[L])
       | (refine Aa (vs:=tmL s2 a2 n2 c2) rfl rfl rfl rfl rfl A4 B rfl (CI _ _ _ _) ?_;intro w3 t E))
      have v:Ext Q w3:=((Ext.refl Q).alloc _).grownR E (lrf _);have j:=g.trans v;have f:=r.ext v;have a3:=r.lt;have A:=OE (s:=s1) (s':=s2) (O.ext j) (P.ext j);rw[M,N]at A;have T:=qh A;clear A M N K L B E g v r O P y;generalize Q.heap.size=Yg at *
      have x0:w3.cell? ⟨Xg,0,none⟩=some (.string s1):=f.cell (i:=0) (by simp[tmL]);have x1:w3.cell? ⟨Xg,1,none⟩=some (.slice a1 n1 c1):=f.cell (i:=1) (by simp[tmL]);have y0:=t.c 0 rfl;have y1:=t.c 1 rfl;clear f t
      go_wp2_with fail
      refine T.out.mono ?_;rintro e w4 ⟨rfl,X⟩;have l:=j.trans X;obtain⟨W,z⟩:∃ W,decide (((xs.getD k tm0).1,(xs.getD k tm0).2)=((ys.getD k tm0).1,(ys.getD k tm0).2))=W:=⟨_,rfl⟩;rw[z];have HB:=qh z;clear z;cases W with
      | true =>
       go_wp2;go_roundw
       case rel=>exact⟨k+1,by omega,by go_num,l,P8 HP.out (by have:=p.out;omega) (by have:=q.out;omega) (by have:=HB.out;exact kE this)⟩
       case measure=>simp[intOf];omega
      | false =>
       go_wp2;go_ret;have:xs≠ys:=by
        rintro rfl;have:=HB.out;simp at this
       exact⟨by simp[this],l⟩
    · go_wp2;go_ret;refine⟨?_,R⟩;have h1:=HP.out;have h2:=HL.out;rw[gG (by have:=p.out;omega),gG (by have:=q.out;omega)]at h1;simp[h1]
 · have a0:((n:Int) != (m:Int))=true:=by simp;omega
   go_enter func90,ntmps90
   go_wp2;go_ret;refine⟨?_,Ext.refl _⟩;have:xs≠ys:=by rintro rfl;exact S (p.out.symm.trans q.out)
   simp[this]
theorem Ks{xs ys:List Tx}(F:AM w)(B:AH w a n c xs)(H:AH w b m d ys)(G:∀ t∈xs,t.1.length<=570) :
 Calls prog 31 #[.agg #[.int .i64 v1,.slice a n c],.agg #[.int .i64 v2,.slice b m d]] w fun e I=>e = .returned (.bool (decide (xs=ys) && decide (v1=v2) && (rdP v1 xs).isSome))/\Ext w I:=by
 have o:=fun(z:World) (p:Ext w z)=>qh (Io (B.ext p) (H.ext p));have s:=fun(z:World) (p:Ext w z)=>qh (D7 (vars:=v1) (F.ext p) (B.ext p) G);obtain⟨v,k⟩:∃ v,decide (xs=ys)=v:=⟨_,rfl⟩;obtain⟨A,l⟩:∃ A,(rdP v1 xs).isSome=A:=⟨_,rfl⟩;rw[k,l];rw[k]at o;rw[l]at s;clear k l
 go_enter func31,ntmps31
 go_upto_region 1 with(fail)
 refine Cf ?_;intro N q i j y;have C:=i.c 0 rfl;have D:=i.c 1 rfl;have u0:=j.c 0 rfl;have u1:=j.c 1 rfl;clear i j y;generalize w.heap.size=X at *
 go_wp2_with fail
 refine(o _ q).out.mono ?_;rintro e O ⟨rfl,f⟩;have g:=q.trans f;have J:=f.cell C;have K:=f.cell D;have L:=f.cell u0;have M:=f.cell u1;clear C D u0 u1 o;cases v with
 | false =>
  go_wp2_with fail
  go_ret;exact⟨by simp,g⟩
 | true =>
  by_cases r:v1=v2
  · have he:(v1 == v2)=true:=by simpa using r
    have E:=qh r;clear r
    go_wp2_with fail
    refine(s _ g).out.mono ?_;rintro e P ⟨rfl,x⟩;go_wp2;go_ret;exact⟨by simp[E.out],g.trans x⟩
  · have he:(v1 == v2)=false:=by simpa using r
    go_wp2_with fail
    go_ret;exact⟨by simp[r],g⟩
noncomputable def degP (vars:Int) (ts:List Tx):Int:=if(rdP vars ts).isSome=true/\0<ts.length then Ds (ts.getD 0 tm0).2 else -1
theorem IM{ts:List Tx}(O:AM w)(h:AH w a n c ts)(Q:∀ t∈ts,t.1.length<=570) :
 Calls prog 33 #[.agg #[.int .i64 vars,.slice a n c]] w fun e R=>e = .returned (.int .i64 (degP vars ts))/\Ext w R:=by
 have x:=fun(S:World) (H:Ext w S)=>qh (D7 (vars:=vars) (O.ext H) (h.ext H) Q);obtain⟨r,v⟩:∃ r,degP vars ts=r:=⟨_,rfl⟩;rw[v];unfold degP at v;have d:=h.len;obtain⟨B,l⟩:∃ B,(rdP vars ts).isSome=B:=⟨_,rfl⟩;rw[l,d]at v;rw[l]at x;clear l;have A:=qh v;have T:=qh d;clear v d;have P:n<=maxLen:=by obtain⟨y,z,_⟩:=h;exact z.le
 go_enter func33,ntmps33
 go_upto_region 1 with(fail)
 refine AP ?_;intro w0 j i F;have K:=i.c 0 rfl;have L:=i.c 1 rfl;clear i F;generalize w.heap.size=X at *
 by_cases m:0<n
 · have he:((n:Int) == 0)=false:=by simp;omega
   go_wp2_with fail
   refine(x _ j).out.mono ?_;rintro e w1 ⟨rfl,k⟩;have f:=j.trans k;have Y:=k.cell K;have Z:=k.cell L;clear K L;cases B with
   | false =>
    go_wp2;go_ret;exact⟨by rw[<-A.out];simp,f⟩
   | true =>
    obtain⟨y,z,_,J⟩:=h;obtain⟨s,U,W,V,g,D,E⟩:=J 0 m;clear J;generalize ts.getD 0 tm0=tt at *
    have p:=z.ext f;obtain⟨b,o,rfl,I⟩:=p.rd m;have G:=I 0 m 1 (by omega);rw[g]at G;simp only[jg,iO,kQ,kD]at G;have q:=IF (E.ext f);have M:=qh q;clear q I p z g D
    go_wp2_with fail
    refine M.out.mono ?_;rintro e w2 ⟨rfl,rfl⟩;go_wp2;go_ret;exact⟨by rw[<-A.out];simp[m],f⟩
 · have C:n=0:=by omega
   have he:((n:Int) == 0)=true:=by simp;omega
   have N:=qh m;clear C m
   go_wp2_with fail
   go_ret;exact⟨by rw[<-A.out];simp[N.out],j⟩
def IN(w:World)(a:Option Addr)(n c:Nat)(l:List (List UInt8)):Prop:=∃ cs,Sl w a n c cs/\l.length=n/\∀ i,i<n->∃ s,cs.getD i undef = .string s/\An s=l.getD i []
theorem IN.ext{w b:World}{a:Option Addr}{n c:Nat}{l:List (List UInt8)}(h:IN w a n c l)(e:Ext w b):IN b a n c l:=by
 obtain⟨d,h1,h2,h3⟩:=h;exact⟨d,h1.ext e,h2,h3⟩
open Classical in
noncomputable def rdAll (l:List (List UInt8)):Option (List Rat):=if ∀ i,i<l.length->(AD (l.getD i [])).isSome=true then some (l.map (fun t=>(AD t).getD 0))else none
def X8(w:World)(o:Option (List Rat))(e:Ending)(w':World):Prop:=∃ a n c,e = .returned (.tuple #[.slice a n c,.bool o.isSome])/\Ext w w'/\Ex w' a n c (o.getD [])
theorem Ex.nil(w:World):Ex w none 0 0 []:=⟨[],SlK.nil w 4,rfl,fun i a=>absurd a (by omega)⟩
theorem OF{l:List (List UInt8)}(hT:AM w)(h:IN w a n c l)(hs:∀ t∈l,t.length<=570)(hn:n<=1000000) :
 Calls prog 122 #[.slice a n c] w (X8 w (rdAll l)):=by
 obtain⟨cs,hS,hl,hq⟩:=h;have HQ:=qh hq;have L:=qh hl;have HS:=qh hs;clear hq hl hs;obtain⟨r,m⟩:∃ r,rdAll l=r:=⟨_,rfl⟩;rw[m];have HR:=qh m;clear m;have p:nuR (List.replicate n (Al false none 0 0 false none 0 0)):=fun r m u hu=>by rw[(jb.1 m).2]at hu;exact AO _ _ _ _ _ _ _ _ u hu
 go_enter func122,ntmps122
 go_upto_region 2 with(refine E0 rfl rfl (by kernel_rfl) J0 rfl rfl (by omega) (by unfold maxLen;omega) ?_;intro w1 P N)
 go_wp2
 go_loopw[14] (fun iv wr=>∃ (k:Nat) (K:List (List Value)),iv = .int .i64 k/\k<=n/\Ext w wr/\AR wr w.heap.size 85 4 (some ⟨w.heap.size,0,none⟩) n n K/\nuR K/\Hid (∀ i,i<k->(AD (l.getD i [])).isSome=true)/\Hid (∀ i,i<k->CJ wr (K.getD i []) ((AD (l.getD i [])).getD 0))) (fun iv _=>n-(intOf iv).toNat)
 case atStart=>exact⟨0,_,rfl,gO _,N,P,p,qh (fun i g=>absurd g (by omega)),qh (fun i g=>absurd g (by omega))⟩
 case round =>
  clear P N p;obtain⟨k,K,rfl,hk,M,hO,V,HK,HC⟩:=hrel;by_cases f:k<n
  · have Q:=hS.ext M;obtain⟨b,a9,rfl,S⟩:=Q.rd (by omega);obtain⟨s,T,D⟩:=HQ.out k f;have c0:=S k f;rw[T]at c0;have a6:s.size<=570:=by
     rw[<-Ay,D];exact HS.out _ (by simp[L.out,f])
    have C:=GQ (hT.ext M) a6;rw[D]at C;have v:=qh C;clear C S T D Q;obtain⟨o,Z⟩:∃ o,Hid (AD (l.getD k [])=o):=⟨_,qh rfl⟩;rw[Z.out]at v
    go_wp2_with fail
    refine v.out.mono ?_;rintro e Y ⟨aa,rfl,x,s1,E,J,G,F,I,H,rfl,W⟩;have a7:(Al s1 E J G false F I H).toArray=#[.bool s1,.slice E J G,.bool false,.slice F I H]:=rfl;have hY:=Arr.new Y 85 (Al false none 0 0 false none 0 0)
    go_upto_region 6 with(refine Aa (vs:=Al s1 E J G false F I H) rfl rfl rfl rfl rfl Ak hY rfl (Aq _ _ _ _ _ _ _ _) ?_;intro w3 j U)
    have y:Ext Y w3:=((Ext.refl Y).alloc _).grownR U (lrf _);have d:=x.trans y;have O:=M.trans d;have z:=hO.ext d;have R:=z.noU V;have a3:=qh (z.len (by omega));have a0:Hid (∀ i,i<k->CJ w3 (K.getD i []) ((AD (l.getD i [])).getD 0)):=qh fun i g=>(HC.out i g).ext d;have a2:Hid (CJ w3 (Al s1 E J G false F I H) (o.getD 0)):=qh (CJ.ext ⟨s1,E,J,G,F,I,H,rfl,W⟩ y);have a8:w.heap.size<Y.heap.size:=((hO.ext x).lt rfl).2;clear hY U hO M x y d W HC v c0;generalize Y.heap.size=X at *
    have x0:=j.c 0 rfl;have x1:=j.c 1 rfl;have x2:=j.c 2 rfl;have x3:=j.c 3 rfl;cases o with
    | none =>
     go_wp2
     go_ret2
     have:r=none:=by
      rw[<-HR.out];unfold rdAll;rw[gT];intro h;have:=h k (by rw[L.out];exact f);rw[Z.out]at this;simp at this
     rw[this];exact⟨none,0,0,rfl,O,Ex.nil _⟩
    | some q =>
     go_wp2_with(refine Id (vs:=Al s1 E J G false F I H) rfl rfl (by omega) Ak rfl rfl rfl z f rfl (Aq _ _ _ _ _ _ _ _) ?_;intro w4 a4 A)
     go_roundw
     case rel =>
      refine⟨k+1,_,by go_num,by omega,O.grownR A (lrf _),a4,?_,qh fun i g => ?_,qh fun i g => ?_⟩
      · intro r m;rcases j7 m with h|rfl
        · exact V r h
        · exact AO _ _ _ _ _ _ _ _
      · by_cases B:i=k
        · subst B;rw[Z.out];rfl
        · exact HK.out i (by omega)
      · by_cases B:i=k
        · subst B;rw[Z.out,gqq,jF (by rw[a3.out];exact f)];exact a2.out.keptU R A
        · rw[gqq,List.getElem?_set_ne (by omega),<-gqq];exact(a0.out i (by omega)).keptU R A
     case measure=>simp[intOf];omega
  · have a5:k=n:=by omega
    subst a5;go_wp2
    go_ret2
    have m:r=some (l.map (fun t=>(AD t).getD 0)):=by
     rw[<-HR.out];unfold rdAll;rw[gY];intro i g;exact HK.out i (by rw[<-L.out];exact g)
    rw[m];refine⟨_,_,_,rfl,M,K,hO.slk (by omega),by simp[L.out],fun i g => ?_⟩;have:=HC.out i g;simpa[L.out,g]using this
end Go.Proofs.YtlbmnokpiilfpaaGreatDoor
