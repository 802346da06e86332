/- Part Pq16. -/
import Derived.Test.YtlbmnokpiilfpaaGreatDoorPq15
import Derived.Test.YtlbmnokpiilfpaaGreatDoorProg
import Derived.Deep.QuietTactic
import Derived.BigQuiet
import Derived.WalkKit
import Derived.StillTailTactics
import Derived.ArgAppend
set_option linter.all false
set_option maxRecDepth 100000
set_option maxHeartbeats 100000000
namespace Go.Proofs.YtlbmnokpiilfpaaGreatDoor
open Tryz Go Go.RowKit
def jX:=@List.mem_iff_getElem
def lr:=@List.sum_cons
variable {f:Act} {ad:Addr} {ops:Array Oper} {s:ByteArray} {Q:Exit->Act->World->Prop} {vars y:Int} {news rows:List (List Value)} {xs ys:List Int} {rest:List Oper} {l:List UInt8} {cs zs:List Value} {base c cx d g k m n:Nat} {o:Oper} {x:Operand} {a b:Option Addr} {row:Option Nat} {e t ty:TypeId} {w w':World}
def YK(w:World)(o:Option Rat)(e:Ending)(w':World):Prop:=∃ cs,e = .returned (.tuple #[.agg cs.toArray,.bool o.isSome])/\Ext w w'/\CJ w' cs (o.getD 0)
theorem QX(a:W.digs l)(b:l.length<=570):W.decV l<P2 2280:=by
 have h1:=W.decV_lt a;have h2:10^l.length<=16^l.length:=l9 (by omega) _;have h3:16^l.length=P2 (4*l.length):=by unfold P2;rw[mo]
 have h4:P2 (4*l.length)<=P2 2280:=Hq (by omega);omega
theorem Ez(w:World):CJ w (Al false none 0 0 false none 0 0) 0:=⟨false,none,0,0,none,0,0,rfl,qh rfl,Wd.nil w,Wd.nil w⟩
theorem GQ(hT:AM w)(hs:s.size<=570):Calls prog 67 #[.string s] w (YK w (AD (An s))):=by
 have an:=Sg s;have b7:(Al false none 0 0 false none 0 0).toArray=#[.bool false,.slice none 0 0,.bool false,.slice none 0 0]:=rfl;obtain⟨⟨⟨ab,j,a⟩,ok⟩,hP⟩:∃ P,C9 (An s)=P:=⟨_,rfl⟩;simp only[hP]at an;have b2:(CC ab j a).toArray=#[.bool ab,.string ⟨j.toArray⟩,.string ⟨a.toArray⟩]:=rfl;rw[b2]at an;cases ok with
 | false =>
  have HQ:Hid (AD (An s)=none):=qh (by unfold AD;simp[hP]);rw[HQ.out];clear hP
  go_enter func67,ntmps67
  go_upto_region 1 with(fail)
  refine AP ?_;intro w0 au ae aQ;have hR:Arr w0 w.heap.size 85 (Al false none 0 0 false none 0 0):=ae;clear ae aQ
  go_wp2_with fail
  refine(an w0 (by omega)).mono ?_;rintro e w1 ⟨rfl,V⟩;have hY:=Arr.new w1 175 (CC false [] [])
  go_upto_region 2 with(refine Aa (vs:=CC ab j a) rfl rfl rfl rfl rfl Bj hY rfl (CT _ _ _) ?_;intro w2 b6 az)
  have a4:Ext w1 w2:=((Ext.refl w1).alloc _).grownR az (lrf _);have aw:=(hR.ext V).ext a4;have av:=(au.trans V).trans a4
  go_wp2_with(refine Aa (vs:=Al false none 0 0 false none 0 0) rfl rfl rfl rfl rfl Ak aw rfl (Aq _ _ _ _ _ _ _ _) ?_;intro w9 af Z)
  exact gF (Ao rfl Ak rfl rfl af) rfl ⟨_,rfl,av.grownR Z (lrf _),Ez _⟩
 | true =>
  have hS:=LR hP;have hl:j.length<=570/\a.length<=570:=by
   have h1:=iP List.length hS.eq;rw[Ay]at h1;simp only[iD]at h1;refine⟨by omega,?_⟩;by_cases h:a=[]
   · simp[h]
   · rw[gT h]at h1;simp at h1;omega
  have aX:=fun wx=>qh (LP (s:=⟨j.toArray⟩) (w:=wx) (by rw[Cw];exact hS.dn) (by show j.toArray.size<=_;simpa using hl.1));have aO:=fun wx=>qh (LP (s:=⟨a.toArray⟩) (w:=wx) (by rw[Cw];exact hS.dd) (by show a.toArray.size<=_;simpa using hl.2));rw[Cw]at aX aO;have aS:=qh (QX hS.dn hl.1);have aT:=qh (QX hS.dd hl.2);obtain⟨z,hz⟩:∃ z:Int,(if ab=true then -((W.decV j:Nat):Int)else((W.decV j:Nat):Int))=z:=⟨_,rfl⟩;have aZ:z.natAbs=W.decV j:=by rw[<-hz];split <;> omega
  obtain⟨o,HO⟩:∃ o,Hid (AD (An s)=o/\o=if a=[]then some (mkRat z 1)else if z.natAbs.gcd (W.decV a)=1 then some (mkRat z (W.decV a))else none):=⟨_,qh ⟨rfl,by unfold AD;simp[hP,hz]⟩⟩;rw[HO.out.1]
  have aU:Hid (a≠[]->W.decV a≠0/\W.decV a≠1):=qh fun hd=>by
   have ay:Lib.decDigits (W.decV a)=a:=W.dec_of_digs hS.dd hd (fun c r e hc=>by
    have:=hS.nd;rw[e,hc]at this
    simp at this)
   refine⟨fun h0 => ?_,fun h0 => ?_⟩
   · rw[h0,W.dec_zero]at ay;have:=hS.nd;rw[<-ay]at this;simp at this
   · rw[h0]at ay;have:=hS.n1;rw[<-ay]at this;exact this (by rw[Lib.decDigits];rfl)
  clear hP hS hl
  go_enter func67,ntmps67
  go_upto_region 1 with(fail)
  refine AP ?_;intro w0 au ae aQ;have hR:Arr w0 w.heap.size 85 (Al false none 0 0 false none 0 0):=ae;clear ae aQ
  go_wp2_with fail
  refine(an w0 (by omega)).mono ?_;rintro e w1 ⟨rfl,V⟩;have hY:=Arr.new w1 175 (CC false [] [])
  go_upto_region 2 with(refine Aa (vs:=CC ab j a) rfl rfl rfl rfl rfl Bj hY rfl (CT _ _ _) ?_;intro w2 a7 az)
  have a4:Ext w1 w2:=((Ext.refl w1).alloc _).grownR az (lrf _);have aw:=(hR.ext V).ext a4;have av:=(au.trans V).trans a4;have hF:w.heap.size<w1.heap.size:=(hR.ext V).lt;clear hR au V a4 hY az an;generalize w1.heap.size=F at *
  have c0:=a7.c 0 rfl;have c1:=a7.c 1 rfl;have c2:=a7.c 2 rfl
  go_wp2_with fail
  refine(aX w2).out.mono ?_;rintro e w3 ⟨Q,H,J,I,rfl,aI,a2,aY⟩;have b3:(Ac Q H J I).toArray=#[.bool Q,.slice H J I]:=rfl;have hY:=Arr.new w3 85 (Al false none 0 0 false none 0 0)
  go_upto_region 5 with(refine Aa (vs:=Al Q H J I false none 0 0) rfl rfl rfl rfl rfl Ak hY rfl (Aq _ _ _ _ _ _ _ _) ?_;intro w4 a9 aW)
  have aJ:Ext w3 w4:=((Ext.refl w3).alloc _).grownR aW (lrf _);have aq:=aI.trans aJ;have ax:=aw.ext aq;have ar:=av.trans aq;have aA:=aY.ext aJ;have ai:=a7.ext aq;have hX:F<w3.heap.size:=(a7.ext aI).lt;clear aw av aI aJ aY hY aW b3 c0 c1 c2 a7 aq;generalize w3.heap.size=X at *
  have c0:=ai.c 0 rfl;have aH:=qh aZ;clear aZ;cases ab with
  | true =>
   have aa:z = -((W.decV j:Nat):Int):=by rw[<-hz];rfl
   have x0:=a9.c 0 rfl;have x1:=a9.c 1 rfl;have aN:=Wb (w:=w4) (v := .agg (Ac Q H J I).toArray) ⟨Q,H,J,I,rfl,a2,aA⟩;rw[<-aa]at aN;have aV:=qh aN;have b0:=qh aa;clear aN hz aa
   go_wp2_with fail
   refine aV.out.mono ?_;rintro e b8 ⟨U,R,T,S,rfl,L,aF,aR⟩;have b4:(Ac U R T S).toArray=#[.bool U,.slice R T S]:=rfl;have aB:=a9.ext L
   go_upto_region 7 with(refine CD rfl rfl (Ac U R T S) (Al U R T S false none 0 0) (by kernel_rfl) rfl rfl rfl aB (by simp[Al,Ac]) (Ae _ _ _ _) rfl ?_;intro w5 g am)
   have Y:=(ar.trans L).grownR am (by omega);have C:=(ax.ext L).kept am (by simp;omega);have aj:=(ai.ext L).kept am (by simp;omega);have a0:=aR.kept aB (AO _ _ _ _ _ _ _ _) am;clear x0 x1 c0 aV b0 ar L aR aB am ax ai a9 aA b4 a2;have c2:=aj.c 2 rfl;have x0:=g.c 0 rfl;have x1:=g.c 1 rfl;by_cases hd:a=[]
   · subst hd;have HQ:Hid (o=some (mkRat z 1)):=qh (by rw[HO.out.2,gY rfl]);have K:=qh (Pl.rat_eq_mk (q:=mkRat z 1) (n:=z) (d:=1) (by omega) (kZ _) rfl);have x2:=g.c 2 rfl;have x3:=g.c 3 rfl;have aM:(Al U R T S false none 0 0).toArray=#[.bool U,.slice R T S,.bool false,.slice none 0 0]:=rfl
     go_wp2_with(refine Aa (vs:=Al U R T S false none 0 0) rfl rfl rfl rfl rfl Ak C rfl (Aq _ _ _ _ _ _ _ _) ?_;intro w9 af Z)
     refine gF (Ao rfl Ak rfl rfl af) rfl ?_;rw[HQ.out];refine⟨_,rfl,Y.grownR Z (lrf _),U,R,T,S,none,0,0,rfl,?_,?_,?_⟩
     · show Hid (decide ((mkRat z 1).num<0)=U);rw[K.out.1];exact aF
     · show Wd w9 R T S (mkRat z 1).num.natAbs;rw[K.out.1];exact a0.kept C (AO _ _ _ _ _ _ _ _) Z
     · show Wd w9 none 0 0 (A9 (mkRat z 1)).natAbs;rw[AG.2 K.out.2];exact Wd.nil _
   · have b1:a.isEmpty=false:=by cases a with | nil=>exact absurd rfl hd | cons _ _=>rfl
     go_wp2_with fail
     refine(aO w5).out.mono ?_;rintro e w6 ⟨s6,x,A,y,rfl,B,ad,ao⟩;have aP:s6=false:=by rw[<-ad.out];exact gR (by omega)
     subst aP;have aL:(Ac false x A y).toArray=#[.bool false,.slice x A y]:=rfl;have E:=g.ext B;have ak:=C.ext B;have M:=Y.trans B;have O:=a0.ext B;clear g C Y a0 x0 x1 c2 aj
     go_upto_region 10 with(refine CD rfl rfl (Ac false x A y) (Al U R T S false x A y) (by kernel_rfl) rfl rfl rfl E (by simp[Al,Ac]) (Ae _ _ _ _) rfl ?_;intro w7 i m)
     have l:=M.grownR m (by omega);have al:=ak.kept m (by simp;omega);have p:=O.kept E (AO _ _ _ _ _ _ _ _) m;have t:=ao.kept E (AO _ _ _ _ _ _ _ _) m;clear E ak M O ao m aL;have x0:=i.c 0 rfl;have x1:=i.c 1 rfl;have x2:=i.c 2 rfl;have x3:=i.c 3 rfl;have hg:=qh (Gf (hT.ext l) ⟨U,R,T,S,rfl,aF,p⟩ ⟨false,x,A,y,rfl,ad,t⟩ (by rw[aH.out];exact Af aS.out (by omega)) (Af aT.out (by omega)));rw[il]at hg
     go_wp2_with fail
     refine hg.out.mono ?_;rintro e w8 ⟨s8,a8,n8,c8,rfl,ag,aG,ap⟩;have aK:=qh (CY (w:=w8) ⟨s8,a8,n8,c8,rfl,aG,ap⟩ rfl);have b5:(Ac s8 a8 n8 c8).toArray=#[.bool s8,.slice a8 n8 c8]:=rfl
     go_wp2_with fail
     refine aK.out.mono ?_;rintro e w9 ⟨rfl,ah⟩;have b:=ag.trans ah;have G:=i.ext b;have D:=al.ext b;have N:=l.trans b;have aD:=p.ext b;have aE:=t.ext b;clear i al l p t x0 x1 x2 x3 b ag ah ap;have ac:=qh (aU.out hd);by_cases h1:z.natAbs.gcd (W.decV a)=1
     · have HQ:Hid (o=some (mkRat z (W.decV a))):=qh (by rw[HO.out.2,gT hd,gY h1]);have K:=qh (Pl.rat_eq_mk (q:=mkRat z (W.decV a)) (n:=z) (d:=W.decV a) ac.out.1 h1 rfl);rw[h1];have x0:=G.c 0 rfl;have x1:=G.c 1 rfl;have x2:=G.c 2 rfl;have x3:=G.c 3 rfl;have aM:(Al U R T S false x A y).toArray=#[.bool U,.slice R T S,.bool false,.slice x A y]:=rfl
       go_wp2_with(refine Aa (vs:=Al U R T S false x A y) rfl rfl rfl rfl rfl Ak D rfl (Aq _ _ _ _ _ _ _ _) ?_;intro a1 k f)
       refine gF (Ao rfl Ak rfl rfl k) rfl ?_;rw[HQ.out];refine⟨_,rfl,N.grownR f (lrf _),U,R,T,S,x,A,y,rfl,?_,?_,?_⟩
       · show Hid (decide ((mkRat z (W.decV a)).num<0)=U);rw[K.out.1];exact aF
       · show Wd a1 R T S (mkRat z (W.decV a)).num.natAbs;rw[K.out.1];exact aD.kept D (AO _ _ _ _ _ _ _ _) f
       · show Wd a1 x A y (A9 (mkRat z (W.decV a))).natAbs;rw[DI (by rw[K.out.2];exact ac.out.2),K.out.2];exact aE.kept D (AO _ _ _ _ _ _ _ _) f
     · have HQ:Hid (o=none):=qh (by rw[HO.out.2,gT hd,gT h1]);have aC:decide (((z.natAbs.gcd (W.decV a):Nat):Int)=1)=false:=gR (by omega);rw[aC];clear h1
       go_wp2_with(refine Aa (vs:=Al false none 0 0 false none 0 0) rfl rfl rfl rfl rfl Ak D rfl (Aq _ _ _ _ _ _ _ _) ?_;intro a1 k f)
       refine gF (Ao rfl Ak rfl rfl k) rfl ?_;rw[HQ.out];exact⟨_,rfl,N.grownR f (lrf _),Ez _⟩
  | false =>
   have aa:z=((W.decV j:Nat):Int):=by rw[<-hz];rfl
   rw[<-aa]at a2;have a0:Wd w4 H J I z.natAbs:=by rw[aH.out];exact aA
   have Y:=ar;have C:=ax;have aj:=ai;have g:=a9;clear ar ax ai a9 aA hz aa
   go_upto_region 7 with(fail)
   clear c0;have c2:=aj.c 2 rfl;have x0:=g.c 0 rfl;have x1:=g.c 1 rfl;by_cases hd:a=[]
   · subst hd;have HQ:Hid (o=some (mkRat z 1)):=qh (by rw[HO.out.2,gY rfl]);have K:=qh (Pl.rat_eq_mk (q:=mkRat z 1) (n:=z) (d:=1) (by omega) (kZ _) rfl);have x2:=g.c 2 rfl;have x3:=g.c 3 rfl;have aM:(Al Q H J I false none 0 0).toArray=#[.bool Q,.slice H J I,.bool false,.slice none 0 0]:=rfl
     go_wp2_with(refine Aa (vs:=Al Q H J I false none 0 0) rfl rfl rfl rfl rfl Ak C rfl (Aq _ _ _ _ _ _ _ _) ?_;intro w9 af Z)
     refine gF (Ao rfl Ak rfl rfl af) rfl ?_;rw[HQ.out];refine⟨_,rfl,Y.grownR Z (lrf _),Q,H,J,I,none,0,0,rfl,?_,?_,?_⟩
     · show Hid (decide ((mkRat z 1).num<0)=Q);rw[K.out.1];exact a2
     · show Wd w9 H J I (mkRat z 1).num.natAbs;rw[K.out.1];exact a0.kept C (AO _ _ _ _ _ _ _ _) Z
     · show Wd w9 none 0 0 (A9 (mkRat z 1)).natAbs;rw[AG.2 K.out.2];exact Wd.nil _
   · have b1:a.isEmpty=false:=by cases a with | nil=>exact absurd rfl hd | cons _ _=>rfl
     go_wp2_with fail
     refine(aO w4).out.mono ?_;rintro e w6 ⟨s6,x,A,y,rfl,B,ad,ao⟩;have aP:s6=false:=by rw[<-ad.out];exact gR (by omega)
     subst aP;have aL:(Ac false x A y).toArray=#[.bool false,.slice x A y]:=rfl;have E:=g.ext B;have ak:=C.ext B;have M:=Y.trans B;have O:=a0.ext B;clear g C Y a0 x0 x1 c2 aj
     go_upto_region 10 with(refine CD rfl rfl (Ac false x A y) (Al Q H J I false x A y) (by kernel_rfl) rfl rfl rfl E (by simp[Al,Ac]) (Ae _ _ _ _) rfl ?_;intro w7 i m)
     have l:=M.grownR m (by omega);have al:=ak.kept m (by simp;omega);have p:=O.kept E (AO _ _ _ _ _ _ _ _) m;have t:=ao.kept E (AO _ _ _ _ _ _ _ _) m;clear E ak M O ao m aL;have x0:=i.c 0 rfl;have x1:=i.c 1 rfl;have x2:=i.c 2 rfl;have x3:=i.c 3 rfl;have hg:=qh (Gf (hT.ext l) ⟨Q,H,J,I,rfl,a2,p⟩ ⟨false,x,A,y,rfl,ad,t⟩ (by rw[aH.out];exact Af aS.out (by omega)) (Af aT.out (by omega)));rw[il]at hg
     go_wp2_with fail
     refine hg.out.mono ?_;rintro e w8 ⟨s8,a8,n8,c8,rfl,ag,aG,ap⟩;have aK:=qh (CY (w:=w8) ⟨s8,a8,n8,c8,rfl,aG,ap⟩ rfl);have b5:(Ac s8 a8 n8 c8).toArray=#[.bool s8,.slice a8 n8 c8]:=rfl
     go_wp2_with fail
     refine aK.out.mono ?_;rintro e w9 ⟨rfl,ah⟩;have b:=ag.trans ah;have G:=i.ext b;have D:=al.ext b;have N:=l.trans b;have aD:=p.ext b;have aE:=t.ext b;clear i al l p t x0 x1 x2 x3 b ag ah ap;have ac:=qh (aU.out hd);by_cases h1:z.natAbs.gcd (W.decV a)=1
     · have HQ:Hid (o=some (mkRat z (W.decV a))):=qh (by rw[HO.out.2,gT hd,gY h1]);have K:=qh (Pl.rat_eq_mk (q:=mkRat z (W.decV a)) (n:=z) (d:=W.decV a) ac.out.1 h1 rfl);rw[h1];have x0:=G.c 0 rfl;have x1:=G.c 1 rfl;have x2:=G.c 2 rfl;have x3:=G.c 3 rfl;have aM:(Al Q H J I false x A y).toArray=#[.bool Q,.slice H J I,.bool false,.slice x A y]:=rfl
       go_wp2_with(refine Aa (vs:=Al Q H J I false x A y) rfl rfl rfl rfl rfl Ak D rfl (Aq _ _ _ _ _ _ _ _) ?_;intro a1 k f)
       refine gF (Ao rfl Ak rfl rfl k) rfl ?_;rw[HQ.out];refine⟨_,rfl,N.grownR f (lrf _),Q,H,J,I,x,A,y,rfl,?_,?_,?_⟩
       · show Hid (decide ((mkRat z (W.decV a)).num<0)=Q);rw[K.out.1];exact a2
       · show Wd a1 H J I (mkRat z (W.decV a)).num.natAbs;rw[K.out.1];exact aD.kept D (AO _ _ _ _ _ _ _ _) f
       · show Wd a1 x A y (A9 (mkRat z (W.decV a))).natAbs;rw[DI (by rw[K.out.2];exact ac.out.2),K.out.2];exact aE.kept D (AO _ _ _ _ _ _ _ _) f
     · have HQ:Hid (o=none):=qh (by rw[HO.out.2,gT hd,gT h1]);have aC:decide (((z.natAbs.gcd (W.decV a):Nat):Int)=1)=false:=gR (by omega);rw[aC];clear h1
       go_wp2_with(refine Aa (vs:=Al false none 0 0 false none 0 0) rfl rfl rfl rfl rfl Ak D rfl (Aq _ _ _ _ _ _ _ _) ?_;intro a1 k f)
       refine gF (Ao rfl Ak rfl rfl k) rfl ?_;rw[HQ.out];exact⟨_,rfl,N.grownR f (lrf _),Ez _⟩
theorem LS(hp:xs.take k=ys.take k)(h1:k<xs.length)(h2:k<ys.length)(he:(xs.getD k 0 != ys.getD k 0)=false):xs.take (k+1)=ys.take (k+1):=by
 simp[h1,h2]at he;rw[gM h1,gM h2,hp,he]
theorem Oa(he:(xs.getD k 0 != ys.getD k 0)=true):xs≠ys:=by
 rintro rfl;simp at he
theorem LT(g:SlI w a n c xs)(j:SlI w b m d ys) :
 Calls prog 26 #[.slice a n c,.slice b m d] w fun e F=>e = .returned (.bool (decide (xs=ys)))/\Qt w F:=by
 have L:=g.le;have E:=j.le;by_cases t:n=m
 · have x:((n:Int) != (m:Int))=false:=by simp[t]
   have y:=gE t;clear t
   go_enter func26,ntmps26
   go_wp2
   go_loopw[5] (fun i wr=>∃ k:Nat,k<=n/\i = .int .i64 k/\Qt w wr/\xs.take k=ys.take k) (fun i _=>n-(intOf i).toNat)
   case atStart=>exact⟨0,gO _,rfl,Qt.refl _,rfl⟩
   case round =>
    obtain⟨k,K,rfl,l,hp⟩:=hrel;have z:=gE hp;clear hp;have g:=g.ext l.ext;have j:=j.ext l.ext;by_cases q:k<n
    · have f:k<m:=by have:=y.out;omega
      obtain⟨G,M,rfl,o⟩:=g.at q;obtain⟨H,N,rfl,p⟩:=j.at f;have I:=o k q;have J:=p k f;clear o p;generalize r:xs.getD k 0=C at *
      generalize s:ys.getD k 0=D at *
      have A:=gE r;have B:=gE s;clear r s;go_wp2
      go_quiet (fail)
      by_cases he:(C != D)=true
      · go_wp2;go_ret;have:xs≠ys:=Oa (k:=k) (by rw[A.out,B.out];exact he);exact⟨by simp[this],l.drewN _⟩
      · have v:(C != D)=false:=by simpa using he
        go_wp2;go_roundw
        case rel=>exact⟨k+1,by omega,by go_num,l.drewN _,LS z.out (by have:=g.len;omega) (by have:=j.len;omega) (by rw[A.out,B.out];exact v)⟩
        case measure=>simp[intOf];omega
    · go_wp2;go_ret;refine⟨?_,l⟩;have h1:=z.out;have h2:=y.out;rw[gG (by have:=g.len;omega),gG (by have:=j.len;omega)]at h1;simp[h1]
 · have x:((n:Int) != (m:Int))=true:=by simp;omega
   go_enter func26,ntmps26
   go_wp2;go_ret;refine⟨?_,Qt.refl _⟩;have:xs≠ys:=by rintro rfl;exact t (g.len.symm.trans j.len)
   simp[this]
def C5:Int->List Int->Int
 | s,[]=>s
 | s,x :: t=>if x<0\/24-s<x then -1 else C5 (s+x) t
def Ds(xs:List Int):Int:=if 6<xs.length then -1 else C5 0 xs
theorem QY{s:Int}(b:k<xs.length)(h:C5 0 xs=C5 s (xs.drop k))(a:xs.getD k 0<0\/24-s<xs.getD k 0):C5 0 xs = -1:=by
 rw[h,iU b];simp only[gqq,gD b,gP]at a;simp only[C5];rw[gY a]
theorem Ob{s:Int}(b:k<xs.length)(h:C5 0 xs=C5 s (xs.drop k))(a:¬ (xs.getD k 0<0\/24-s<xs.getD k 0)):C5 0 xs=C5 (s+xs.getD k 0) (xs.drop (k+1)):=by
 rw[h,iU b];simp only[gqq,gD b,gP]at a |-;simp only[C5];rw[gT a]
theorem IF(l:SlI w a n c xs) :
 Calls prog 94 #[.slice a n c] w fun e D=>e = .returned (.int .i64 (Ds xs))/\w=D:=by
 have g:=gE l.len;have x:=l.le;by_cases h6:6<(n:Int)
 · have d:Hid (Ds xs = -1):=by
    show Ds xs = -1;unfold Ds;rw[gY (by rw[g.out];omega)]
   go_enter func94,ntmps94
   go_wp2;go_ret;exact⟨DF d.out,rfl⟩
 · have d:Hid (Ds xs=C5 0 xs):=by
    show Ds xs=_;unfold Ds;rw[gT (by rw[g.out];omega)]
   go_enter func94,ntmps94
   go_wp2
   go_loop[3,11] (fun v i=>∃ (s:Int) (k:Nat),v = .int .i64 s/\i = .int .i64 k/\k<=n/\0<=s/\s<=24/\Hid (C5 0 xs=C5 s (xs.drop k))) (fun _ i=>n-(intOf i).toNat)
   case atStart=>exact⟨0,0,rfl,rfl,gO _,by omega,by omega,gE rfl⟩
   case round =>
    obtain⟨s,k,rfl,rfl,G,z,A,j⟩:=hrel;by_cases b:k<n
    · obtain⟨E,I,rfl,p⟩:=l.at b;have F:=p k b;have f:k<xs.length:=by rw[g.out];exact b
      have o:=gE (QY f j.out);have r:=gE (Ob f j.out);generalize xs.getD k 0=y at *
      clear p;by_cases C:y<0
      · go_wp2;go_ret;exact⟨DF (by rw[d.out,o.out (Or.inl C)]),rfl⟩
      · have H:IntKind.i64.wrap (24-s)=24-s:=gI _ (by omega);by_cases m:24-s<y
        · go_wp2;go_ret;exact⟨DF (by rw[d.out,o.out (Or.inr m)]),rfl⟩
        · have B:IntKind.i64.wrap (s+y)=s+y:=gI _ (by omega);go_wp2;go_round
          case rel=>exact⟨s+y,k+1,by go_num,by go_num,by omega,by omega,by omega,gE (r.out (by omega))⟩
          case measure=>simp[intOf];omega
    · have t:xs.drop k=[]:=iX (by have:=g.out;omega);have q:Hid (Ds xs=s):=by
       show Ds xs=s;rw[d.out,j.out,t];rfl
      go_wp2;go_ret;exact⟨DF q.out,rfl⟩
def A3(xs:List Int):Bool:=decide (0<=Ds xs)
theorem E6(b:SlI w a n c xs) :
 Calls prog 68 #[.slice a n c] w fun e d=>e = .returned (.bool (A3 xs))/\w=d:=by
 go_enter func68,ntmps68
 go_wp2_with fail
 refine(IF b).mono ?_;rintro e f ⟨rfl,rfl⟩;go_wp2;go_ret;exact⟨rfl,rfl⟩
theorem QZ{x:Int}:Calls prog 207 #[.int .i64 x,.int .i64 y] w fun e b=>e = .returned (.int .i64 (Pl.cmpI x y))/\b=w:=by
 rcases Int.lt_trichotomy x y with h|h|h
 · have a:Hid (Pl.cmpI x y = -1):=gE (by unfold Pl.cmpI;rw[gY h])
   go_enter func207,ntmps207
   go_wp2;go_ret;exact⟨by rw[a.out];rfl,rfl⟩
 · subst h;have a:Hid (Pl.cmpI x x=0):=gE (Pl.cmpI_zero.2 rfl)
   go_enter func207,ntmps207
   go_wp2;go_ret;exact⟨by rw[a.out];rfl,rfl⟩
 · have a:Hid (Pl.cmpI x y=1):=gE (by unfold Pl.cmpI;rw[gT (by omega),gY h])
   go_enter func207,ntmps207
   go_wp2;go_ret;exact⟨by rw[a.out];rfl,rfl⟩
theorem DY(a:k<xs.length):(xs.take (k+1)).sum=(xs.take k).sum+xs.getD k 0:=by
 have e:xs.getD k 0=xs[k]:=by simp[a]
 rw[gM a,e,List.sum_append];simp only[lr,List.sum_nil,Int.add_zero]
theorem GR{xs:List Int}{B:Int}(h:∀ x∈xs,-B<=x/\x<=B)(a:0<=B):∀ k,k<=xs.length -> -(B*k)<=(xs.take k).sum/\(xs.take k).sum<=B*k
 | 0,_=>by simp
 | k+1,hk=>by
  have ih:=GR h a k (by omega);have h1:=h (xs.getD k 0) (by simp[show k<xs.length by omega]);rw[DY (by omega)];have e:B*((k+1:Nat):Int)=B*k+B:=by rw[iy,Int.mul_add];simp
  rw[e];omega
def E7(xs ys:List Int)(k:Nat):Int:=Pl.ordR (xs.take k).reverse (ys.take k).reverse
theorem LU(xs ys:List Int):E7 xs ys 0=0:=by simp[E7,Pl.ordR]
theorem LW(a:k<xs.length)(b:k<ys.length):E7 xs ys (k+1)=if xs.getD k 0=ys.getD k 0 then E7 xs ys k else Pl.cmpI (ys.getD k 0) (xs.getD k 0):=by
 have c:xs.getD k 0=xs[k]:=by simp[a]
 have d:ys.getD k 0=ys[k]:=by simp[b]
 unfold E7;rw[gM a,gM b,c,d,List.reverse_concat,List.reverse_concat];rfl
theorem J2(K:SlI w a n c xs)(L:SlI w b n d ys)(hn:n<=12)(Q:∀ x∈xs,-1099511627776<=x/\x<=1099511627776)(v:∀ x∈ys,-1099511627776<=x/\x<=1099511627776) :
 Calls prog 145 #[.slice a n c,.slice b n d] w fun e w'=>e = .returned (.int .i64 (Pl.ordE xs ys))/\Qt w w':=by
 have T:=gE (GR Q (by omega));have U:=gE (GR v (by omega));have Y:=K.len;have Z:=L.len
 go_enter func145,ntmps145
 go_wp2
 go_loop[5,6,12] (fun V W s=>∃ (k:Nat) (p q:Int),V = .int .i64 p/\W = .int .i64 q/\s = .int .i64 k/\k<=n/\Hid ((xs.take k).sum=p/\(ys.take k).sum=q)) (fun _ _ s=>n-(intOf s).toNat)
 case atStart=>exact⟨0,0,0,rfl,rfl,rfl,gO _,gE ⟨rfl,rfl⟩⟩
 case round =>
  obtain⟨k,p,q,rfl,rfl,rfl,hk,o⟩:=hrel;have O:=T.out k (by omega);have P:=U.out k (by omega);rw[o.out.1]at O;rw[o.out.2]at P;by_cases i:k<n
  · obtain⟨N,C,rfl,z⟩:=K.at i;obtain⟨t,l,rfl,f⟩:=L.at i;have R:=z k i;have S:=f k i;have m1:=Q (xs.getD k 0) (by simp[show k<xs.length by omega]);have m2:=v (ys.getD k 0) (by simp[show k<ys.length by omega]);have G:Hid ((xs.take (k+1)).sum=p+xs.getD k 0/\(ys.take (k+1)).sum=q+ys.getD k 0):=gE ⟨by rw[DY (by omega),o.out.1],by rw[DY (by omega),o.out.2]⟩;clear z f;generalize xs.getD k 0=x at *
    generalize ys.getD k 0=y at *
    have w1:IntKind.i64.wrap (p+x)=p+x:=gI _ (by omega);have w2:IntKind.i64.wrap (q+y)=q+y:=gI _ (by omega);go_wp2;go_round
    case rel=>exact⟨k+1,p+x,q+y,by first | rfl | go_num,by first | rfl | go_num,by go_num,by omega,G⟩
    case measure=>simp[intOf];omega
  · have I:k=n:=by omega
    subst I
    have D:Hid (Pl.ordE xs ys=if p=q then E7 xs ys k else Pl.cmpI p q):=gE (by
     have h1:=o.out.1;have h2:=o.out.2;unfold Pl.ordE E7;rw[gG (by omega)]at h1 h2 |-;rw[gG (by omega)]
     rw[h1,h2])
    by_cases A:p=q
    · subst A;have g:Hid (Pl.ordE xs ys=E7 xs ys k):=gE (by rw[D.out,gY rfl]);clear O P o D;go_wp2
      go_loopw[9] (fun s wr=>∃ m:Nat,s = .int .i64 ((m:Int)-1)/\m<=k/\Qt w wr/\Hid (E7 xs ys k=E7 xs ys m)) (fun s _=>(intOf s+1).toNat)
      case atStart=>exact⟨k,by first | rfl | go_num,lrf _,Qt.refl _,gE rfl⟩
      case round =>
       obtain⟨m,rfl,hm,B,E⟩:=hrel;by_cases h0:m=0
       · subst h0;have H:Hid (Pl.ordE xs ys=0):=gE (by rw[g.out,E.out,LU]);go_wp2;go_ret;exact⟨by rw[H.out];rfl,B⟩
       · obtain⟨j,rfl⟩:∃ j,m=j+1:=⟨m-1,by omega⟩;have X:(((j+1:Nat):Int)-1)=(j:Int):=by omega
         rw[X];obtain⟨N,C,rfl,z⟩:=(K.ext B.ext).at (k:=j) (by omega);obtain⟨t,l,rfl,f⟩:=(L.ext B.ext).at (k:=j) (by omega);have R:=z j (by omega);have S:=f j (by omega);have M:=gE (LW (xs:=xs) (ys:=ys) (k:=j) (by omega) (by omega));clear z f;generalize xs.getD j 0=x at *
         generalize ys.getD j 0=y at *
         by_cases r:x=y
         · have F:Hid (E7 xs ys k=E7 xs ys j):=gE (by rw[E.out,M.out,gY r]);subst r;go_wp2
           go_quiet (fail)
           go_wp2;go_roundw
           case rel=>exact⟨j,by first | rfl | go_num,by omega,B.drewN _,F⟩
           case measure=>simp[intOf]
         · have H:Hid (Pl.ordE xs ys=Pl.cmpI y x):=gE (by rw[g.out,E.out,M.out,gT r]);go_wp2
           go_quiet (fail)
           have d1:(wr.drewN nq).cell? ⟨N,C+j,none⟩=some (.int .i64 x):=R;have d2:(wr.drewN nq).cell? ⟨t,l+j,none⟩=some (.int .i64 y):=S;have J:=B.drewN nq;generalize wr.drewN nq=w2 at *
           go_wp2
           go_quiet (exact Calls.quiet_of_same QZ)
           go_wp2;go_ret;exact⟨by rw[H.out];rfl,J.drewN _⟩
    · have g:Hid (Pl.ordE xs ys=Pl.cmpI p q):=gE (by rw[D.out,gT A])
      go_wp2_with fail
      refine QZ.mono ?_;rintro e w1 ⟨rfl,rfl⟩;go_wp2;go_ret;exact⟨by rw[g.out];rfl,Qt.refl _⟩
def AY(l:List Int):List Int:=l ++ List.replicate (6-l.length) 0
theorem D0{l:List Int}(h:l.length<=6):(AY l).length=6:=by simp[AY];omega
theorem Ie(l:List Int):(AY l).take l.length=l:=by simp[AY]
def AS(vars:Int)(t:List UInt8×List Int):Option Pl.Tm :=
 match AD t.1 with
 | none=>none
 | some q=>if q≠0/\(t.2.length:Int)=vars/\∀ e∈t.2,0<=e/\e<=1048576 then some (AY t.2,q)else none
def YL(w:World)(o:Option Pl.Tm)(e:Ending)(w':World):Prop:=∃ row,e = .returned (.tuple #[.agg row.toArray,.bool o.isSome])/\Ext w w'/\BB w' row (o.getD ([0,0,0,0,0,0],0))
theorem EA(w:World):BB w (As [0,0,0,0,0,0] false none 0 0 none 0 0) ([0,0,0,0,0,0],0):=⟨false,none,0,0,none,0,0,rfl,rfl,Ez w⟩
theorem AV{e:List Int}{s:Bool} :∀ v∈As e s a n c b m d,∀ i,v ≠ .int .u64 i:=by
 intro v f i;rcases iw.1 f with f|f
 · obtain⟨x,_,rfl⟩:=ie.1 f;simp
 · exact AO _ _ _ _ _ _ _ _ v f i
theorem BC(e:List Int)(s:Bool)(a b:Option Addr)(n c m d:Nat):(As e s a n c b m d).length=e.length+4:=by simp[As,Al,Ac]
theorem Dt:Ca prog 3 (.int .i64 0) 8:=by unfold Ca;kernel_rfl
def ze:List Int:=[0,0,0,0,0,0]
theorem Lm(hT:AM w)(hs:s.size<=570)(hx:SlI w a n c xs)(hv:vars<=6) :
 Calls prog 168 #[.int .i64 vars,.agg #[.string s,.slice a n c]] w (YL w (AS vars (An s,xs))):=by
 have aj:=fun(wx:World) (hE:Ext w wx)=>qh (GQ (hT.ext hE) hs);have aT:(As ze false none 0 0 none 0 0).toArray=#[.int .i64 0,.int .i64 0,.int .i64 0,.int .i64 0,.int .i64 0,.int .i64 0,.bool false,.slice none 0 0,.bool false,.slice none 0 0]:=rfl;have I:=hx.len;obtain⟨o,ho⟩:∃ o,AD (An s)=o:=⟨_,rfl⟩;obtain⟨r,hr⟩:∃ r,AS vars (An s,xs)=r:=⟨_,rfl⟩;rw[hr];rw[ho]at aj;unfold AS at hr;simp only[ho]at hr;clear ho;have J:=qh hr;clear hr
 go_enter func168,ntmps168
 go_upto_region 1 with(fail)
 refine Cf ?_;intro w0 Z W ab aM;have hR:Arr w0 (w.heap.size+1) 92 (As ze false none 0 0 none 0 0):=ab;have t0:=W.c 0 rfl;have t1:=W.c 1 rfl;clear W ab aM
 go_wp2_with fail
 refine(aj w0 Z).out.mono ?_;rintro e w1 ⟨_,rfl,a0,s1,f,t,d,g,p,j,rfl,U,ak,ap⟩;have a8:(Al s1 f t d false g p j).toArray=#[.bool s1,.slice f t d,.bool false,.slice g p j]:=rfl;have hY:=Arr.new w1 85 (Al false none 0 0 false none 0 0)
 go_upto_region 2 with(refine Aa (vs:=Al s1 f t d false g p j) rfl rfl rfl rfl rfl Ak hY rfl (Aq _ _ _ _ _ _ _ _) ?_;intro w2 C ag)
 have L:Ext w1 w2:=((Ext.refl w1).alloc _).grownR ag (lrf _);have y:=a0.trans L;have a3:=hR.ext y;have u0:=y.cell t0;have u1:=y.cell t1;have a2:=Z.trans y;have hX:w.heap.size+1<w1.heap.size:=(hR.ext a0).lt;have P:=ak.ext L;have Q:=ap.ext L;clear hR t0 t1 Z a0 L y ak ap hY ag a8;generalize w1.heap.size=X at *
 cases o with
 | none =>
  simp only at J
  go_wp2_with(refine Aa (vs:=As ze false none 0 0 none 0 0) rfl rfl rfl rfl rfl At a3 rfl AI ?_;intro w9 l m)
  refine gF (Ao rfl At rfl rfl l) rfl ?_;rw[<-J.out];exact⟨_,rfl,a2.grownR m (by omega),EA _⟩
 | some q =>
  simp only[gP]at J U P Q;have x0:=C.c 0 rfl;have x1:=C.c 1 rfl;have x2:=C.c 2 rfl;have x3:=C.c 3 rfl;have ah:=qh (DU (w:=w2) (v := .agg #[.bool s1,.slice f t d,.bool false,.slice g p j]) (q:=q) ⟨Al s1 f t d false g p j,rfl,s1,f,t,d,g,p,j,rfl,U,P,Q⟩ rfl)
  go_wp2_with fail
  refine ah.out.mono ?_;rintro e w3 ⟨rfl,z⟩;have B:=a3.ext z;have a5:=C.ext z;have aO:=z.cell u0;have av:=z.cell u1;have b:=a2.trans z;have al:=P.ext z;have aq:=Q.ext z;clear a3 C u0 u1 a2 P Q x0 x1 x2 x3 z ah;by_cases F:q=0
  · rw[iA F];have R:Hid (none=r):=qh (by rw[<-J.out,gT (fun h=>h.1 F)]);clear F J
    go_wp2_with(refine Aa (vs:=As ze false none 0 0 none 0 0) rfl rfl rfl rfl rfl At B rfl AI ?_;intro w9 l m)
    refine gF (Ao rfl At rfl rfl l) rfl ?_;rw[<-R.out];exact⟨_,rfl,b.grownR m (by omega),EA _⟩
  · rw[gR F];have aB:=qh F;clear F;by_cases a9:(n:Int)=vars
    · have aa:=hx.ext b;go_wp2
      go_loop[34] (fun iv=>∃ k:Nat,iv = .int .i64 k/\k<=n/\Hid (∀ i,i<k->0<=xs.getD i 0/\xs.getD i 0<=1048576)) (fun iv=>n-(intOf iv).toNat)
      case atStart=>exact⟨0,rfl,gO _,qh (fun i hi=>absurd hi (by omega))⟩
      case round =>
       obtain⟨k,rfl,hk,HK⟩:=hrel;by_cases ai:k<n
       · obtain⟨b',aU,rfl,hc⟩:=aa.at ai;have d:=hc k ai;have HM:Hid (xs.getD k 0∈xs):=qh (by simp[show k<xs.length by omega]);clear hc;generalize ao:xs.getD k 0=x at *
         have aC:=qh ao;clear ao;by_cases N:0<=x/\x<=1048576
         · obtain⟨h1,h2⟩:=N;go_wp2;go_round
           case rel =>
            refine⟨k+1,by go_num,by omega,qh fun i hi => ?_⟩;by_cases aF:i=k
            · subst aF;rw[aC.out];exact⟨h1,h2⟩
            · exact HK.out i (by omega)
           case measure=>simp[intOf];omega
         · have R:Hid (none=r):=qh (by rw[<-J.out,gT (fun h=>N (h.2.2 x HM.out))]);by_cases aQ:x<0
           · clear N
             go_wp2_with(refine Aa (vs:=As ze false none 0 0 none 0 0) rfl rfl rfl rfl rfl At B rfl AI ?_;intro w9 l m)
             refine gF (Ao rfl At rfl rfl l) rfl ?_;rw[<-R.out];exact⟨_,rfl,b.grownR m (by omega),EA _⟩
           · have aP:1048576<x:=by omega
             clear N
             go_wp2_with(refine Aa (vs:=As ze false none 0 0 none 0 0) rfl rfl rfl rfl rfl At B rfl AI ?_;intro w9 l m)
             refine gF (Ao rfl At rfl rfl l) rfl ?_;rw[<-R.out];exact⟨_,rfl,b.grownR m (by omega),EA _⟩
       · have aH:k=n:=by omega
         subst aH
         have R:Hid (some (AY xs,q)=r):=qh (by
          have aw:∀ e∈xs,0<=e/\e<=1048576:=fun e he => ?_
          · rw[<-J.out,gY ⟨aB.out,by rw[I];exact a9,aw⟩]
          obtain⟨i,hi,rfl⟩:=jX.1 he;have:=HK.out i (by omega);rw[gqq,gD hi]at this
          exact this)
         clear J HK
         go_upto_region 11 with(fail)
         refine AP ?_;intro w4 A D aN;have D:Arr w4 w3.heap.size 92 (As ze false none 0 0 none 0 0):=D;have ac:=B.ext A;have H:=a5.ext A;have u1:=A.cell av;have S:=b.trans A;have am:=al.ext A;have ar:=aq.ext A;have ax:=aa.ext A;have aS:X<w3.heap.size:=a5.lt;clear aN B a5 av aO b al aq aa A;generalize w3.heap.size=Y at *
         have x0:=H.c 0 rfl;have x1:=H.c 1 rfl;have x2:=H.c 2 rfl;have x3:=H.c 3 rfl;have a8:(Al s1 f t d false g p j).toArray=#[.bool s1,.slice f t d,.bool false,.slice g p j]:=rfl
         go_upto_region 12 with(refine CD rfl rfl (Al s1 f t d false g p j) (As ze s1 f t d g p j) (by kernel_rfl) rfl rfl rfl D (by simp[As,Al,Ac,ze]) (Aq _ _ _ _ _ _ _ _) rfl ?_;intro K ae E)
         have G:=S.grownR E (by omega);have ad:=ac.kept E (by simp;omega);have an:=am.kept D AV E;have au:=ar.kept D AV E;have hu:K.cell? ⟨w.heap.size,1,none⟩=some (.slice a k c):=by
          rw[kJ (w:=w4) (E.block _ (jq w4 _ u1) (by simp;omega)),u1]
         have ay:=hx.ext G;clear am ar ac S E u1 x0 x1 x2 x3 H D a8 ax
         go_still_tail 4,(by kernel_rfl)
         change wpList _ _ _ _ _ K.drew;have aE:Arr K.drew (w.heap.size+1) 92 (As ze false none 0 0 none 0 0):=ad;have a6:Arr K.drew Y 92 (As ze s1 f t d g p j):=ae;have T:Ext w K.drew:=G.drew;have aI:Wd K.drew f t d q.num.natAbs:=an.ext (Ext.refl K).drew;have aK:Wd K.drew g p j (A9 q).natAbs:=au.ext (Ext.refl K).drew;clear ad ae G an au hu ay;generalize K.drew=w6 at *
         have az:=hx.ext T;have aG:k<=6:=by omega
         have HZ:Hid ((As ze s1 f t d g p j).take 0 ++ xs.map (Value.int .i64) ++ (As ze s1 f t d g p j).drop (0+k)=As (AY xs) s1 f t d g p j):=by
          show _=_;have hz:ze=List.replicate 6 0:=rfl;rw[jw,jo,iz];unfold As AY;rw[hz,lW,iJ,lW,nU,List.drop_replicate,I,List.length_replicate,show k-6=0 by omega,ji,iQ]
         have O:(AY xs).length=6:=D0 (by omega);have V:Agg prog 92 (As (AY xs) s1 f t d g p j).length:=by rw[BC,O];exact At
         have HL:Hid ((As ze false none 0 0 none 0 0).length=(As (AY xs) s1 f t d g p j).length):=qh (by rw[BC,BC,O];rfl);have aA:=qh O;have aR:=qh I;clear O I a9
         go_wp2_with(first
          | (refine LF (sT:=24) rfl rfl underlying24 Dt rfl rfl a6 az aG (by rw[BC];simp[ze];omega) (Cc _) ?_;intro w7 af M;rw[HZ.out]at af;have a4:=aE.kept M (by simp;omega))
          | (refine Ev rfl rfl V rfl af ?_)
          | (refine Aa rfl rfl rfl rfl rfl V a4 HL.out AI ?_;intro w8 aD a7))
         have aJ:=aI.kept a6 AV M;have aL:=aK.kept a6 AV M;refine gF (Ao rfl V rfl rfl aD) rfl ?_;rw[<-R.out];exact⟨_,rfl,(T.grownR M (by omega)).grownR a7 (by omega),s1,f,t,d,g,p,j,rfl,aA.out,s1,f,t,d,g,p,j,rfl,U,aJ.kept a4 AV a7,aL.kept a4 AV a7⟩
    · have R:Hid (none=r):=qh (by rw[<-J.out,gT (fun h=>a9 (by rw[<-h.2.1,I]))]);clear J
      go_wp2_with(refine Aa (vs:=As ze false none 0 0 none 0 0) rfl rfl rfl rfl rfl At B rfl AI ?_;intro w9 l m)
      refine gF (Ao rfl At rfl rfl l) rfl ?_;rw[<-R.out];exact⟨_,rfl,b.grownR m (by omega),EA _⟩
def NoU(w:World)(g:Nat):Prop:=∀ j i,w.cell? ⟨g,j,none⟩≠some (.int .u64 i)
def nuR(rows:List (List Value)):Prop:=∀ r∈rows,∀ v∈r,∀ i,v ≠ .int .u64 i
theorem Arr.noU(h:Arr w g t cs)(a:∀ v∈cs,∀ i,v ≠ .int .u64 i):NoU w g:=by
 intro j i e;have h4:w.cell? ⟨g,j,none⟩=cs[j]?:=by
  unfold Arr at h;simp[World.cell?,h]
 rw[h4]at e;exact a _ (im e) _ rfl
theorem NoU.ext(h:NoU w g)(a:g<w.heap.size)(e:Ext w w'):NoU w' g:=by
 intro j i;rw[kJ (w:=w) (e.block (k:=g) a)];exact h j i
theorem NoU.kept(h:NoU w g)(a:g<w.heap.size)(c:w.grownBy w' row)(b:some g≠row):NoU w' g:=by
 intro j i;rw[kJ (w:=w) (c.block g a b)];exact h j i
theorem Wd.keptU{x:Nat}(h:Wd w a n c x)(d:NoU w g)(f:w.grownBy w' (some g)):Wd w' a n c x:=by
 obtain⟨i,h1,h2⟩:=h;refine⟨i,?_,h2⟩;rcases gX n with h0|h0
 · subst h0;exact⟨Sl.len h1,Sl.cap h1,Sl.max h1,fun h=>absurd h (nN _)⟩
 · refine h1.kept f (Or.inr fun he => ?_);obtain⟨b,o,rfl,e⟩:=h1.at (j:=0) h0;simp only[blk,jJ,gK]at he;subst he;exact d _ _ (e 0 h0)
def Er(w:World)(base:Nat)(e:TypeId)(k g n c:Nat)(rows:List (List Value)):Prop:=AR w base e k (some ⟨g,0,none⟩) n c rows/\NoU w g
section
variable {w w':World} {base:Nat} {e:TypeId} {k g n c:Nat} {rows:List (List Value)}
theorem Er.lt(h:Er w base e k g n c rows):base<=g/\g<w.heap.size:=h.1.lt rfl
theorem Er.ext(h:Er w base e k g n c rows)(x:Ext w w'):Er w' base e k g n c rows:=⟨h.1.ext x,h.2.ext h.lt.2 x⟩
theorem Er.kept{row:Option Nat}(h:Er w base e k g n c rows)(b:w.grownBy w' row)(a:some g≠row):Er w' base e k g n c rows:=⟨h.1.kept b (Or.inr a),h.2.kept h.lt.2 b a⟩
theorem Er.nu(o:0<k)(h:Er w base e k g n c rows):nuR rows:=by
 have f:=h.1.slk o;intro r l v s i;obtain⟨p,hp,rfl⟩:=jX.1 l;obtain⟨q,j,rfl⟩:=jX.1 s;have a:p<n:=by rw[<-f.len];exact hp
 have d:q<k:=by rw[<-f.wid _ l];exact j
 obtain⟨b,t,e,m⟩:=f.rd (by omega);simp only[gK,iV,jp]at e;obtain⟨rfl,rfl⟩:=e;have h1:=m p a q d;have h2:(rows.getD p []).getD q undef=(rows[p])[q]:=by simp[hp,j]
 rw[h2]at h1;intro he;rw[he]at h1;exact h.2 _ _ h1
end
section
variable {P:Program} {w:World}
theorem Oc{bytes:Nat} 
 (U:P.underlying t=some (.slice e)) (a:BV P e zs k bytes) (f:Er w base e k g n c rows) (s:SlK w k (some ad) m cx news)
 (h1:∀ r∈news,∀ u∈r,u.oneCell'=true) (N:nuR news) (v:n+m<=c) (x:(n+m)*bytes<=140737488355328) (C:base<=w.heap.size) :
 ∃ K,(Builtin.append_ #[t,t] ty #[.slice (some ⟨g,0,none⟩) n c,.slice (some ad) m cx]).run P w = .ok (.slice (some ⟨g,0,none⟩) (n+m) c) K/\Er K base e k g (n+m) c (rows ++ news)/\w.grownBy K (some g):=by
 have T:=(f.1.slk a.2.2).max;obtain⟨a',c',K,B,h2,h3,h4⟩:=FD (P:=P) (ty:=ty) U a f.1 s h1 (by omega) x C;obtain⟨i,Y,hz,d,W⟩:=a.parts;have R:=a.2.2;have z:=BM news s.wid;rw[s.len]at z;have y:∀ j u,news.flatten[j]?=some u->w.cell? (ad.add j)=some u:=by
  intro j u hu;have A:j<news.flatten.length:=by
   rcases iH j news.flatten.length with h|h
   · exact h
   · simp[ig h]at hu
  rw[z]at A;have M:0<m:=by rcases gX m with h | h;(rw[h,jg]at A;omega);exact h
  obtain⟨b,o,h,X⟩:=s.rd M;injection h with h;subst h;have G:j/k<m:=(jm R).2 A;have I:j%k<k:=io _ R;have H:j=j/k*k+j%k:=by rw[gV];exact(j6 j k).symm
  have h2:=X (j/k) G (j%k) I;have h3:=DX news s.wid (j/k) (j%k) I;rw[<-H,hu]at h3;have S:j/k<news.length:=by rw[s.len];exact G
  rw[gD S,kK]at h3;have h4:(news.getD (j/k) []).getD (j%k) undef=u:=by
   rw[gqq (l:=news),gD S,gP,gqq,<-h3];rfl
  rw[h4,jR,<-H]at h2;rw[<-h2];unfold Addr.add;by_cases h0:j=0 <;> simp[h0]
 rcases f.1.2.2 with⟨J,_⟩|⟨g',V,E,J,hb,Q,Z,hm,hs,a0⟩
 · simp at J
 simp only[gW,gK,iV,jp,lI]at J;obtain⟨rfl,rfl⟩:=J;have L:∀ j,j<news.flatten.length->n*k+j<E.size:=by
  intro j A;rw[z]at A;have:(n+m)*k<=c*k:=gH k v;rw[iW]at this;omega
 have F:∀ j,j<news.flatten.length->(w.cell? ⟨g,n*k+j,none⟩).isSome=true:=by
  intro j A;rw[mX w g _ E e (0,0) Q,kR (L j A)];rfl
 have D:=run_append_room_cells (P:=P) (w:=w) t ty e i U Y g 0 n c ad m cx news.flatten (by rw[z,d]) y (by intro u hu;obtain⟨r,O,hu⟩:=kM.1 hu;exact h1 r O u hu) v (by rw[d,iz];exact F) (by intro j A;simp[World.frozen?,Q]);rw[B,d,iz]at D;simp only[Result.ok.injEq,gW,lI]at D;obtain⟨⟨rfl,rfl⟩,rfl⟩:=D;refine⟨_,B,⟨h2,?_⟩,h3⟩;intro j q he;by_cases A:n*k<=j/\j<n*k+news.flatten.length
 · obtain⟨p,rfl⟩:∃ p,j=n*k+p:=⟨j-n*k,by omega⟩;have hp:p<news.flatten.length:=by omega
   rw[World.cell?_setCells_in g news.flatten (n*k) w F p hp]at he;simp only[gK]at he;obtain⟨r,O,hu⟩:=kM.1 (jl hp);exact N r O _ hu q he
 · rw[World.cell?_setCells_out g news.flatten (n*k) w ⟨g,j,none⟩ (fun _ _=>by simp only;omega)]at he;exact f.2 j q he
theorem GT{s:Operand}(q:o.guard=none)
 (C:o.op = .call { callee := .builtin .append,args:=#[s,x],argTypes:=#[t,t] })
 {e:TypeId} {zs:List Value} {k bytes base:Nat} {g n c:Nat} {rows:List (List Value)} {z:Addr} {m A:Nat} {news:List (List Value)}
 (E:P.underlying t=some (.slice e)) (d:BV P e zs k bytes) (D:f.eval s = .slice (some ⟨g,0,none⟩) n c) (j:Er w base e k g n c rows) (F:f.eval x = .slice (some z) m A) (y:SlK w k (some z) m A news)
 (h1:∀ r∈news,∀ u∈r,u.oneCell'=true) (v:nuR news) (i:n+m<=c) (a:(n+m)*bytes<=140737488355328) (b:base<=w.heap.size)
 (h:∀ p,Er p base e k g (n+m) c (rows ++ news)->w.grownBy p (some g)->wpList P ops Q rest (f.put o.dst (.slice (some ⟨g,0,none⟩) (n+m) c)) p) :
 wpList P ops Q (o :: rest) f w:=by
 refine jf q fun _ B => ?_;obtain⟨p,l,h2,h3⟩:=Oc (P:=P) (ty:=o.type) E d j y h1 v i a b;unfold Oper.wp execOp;simp only[C,resolve,invoke,builtin,ij,iF,gS,jH,ja,jE,D,F,l];exact B _ _ (h p h2 h3)
theorem AR.noU(h:AR w base e k (some ⟨g,0,none⟩) n n rows)(l:nuR rows):NoU w g:=by
 rcases h.2.2 with⟨b,_⟩|⟨q,d,a,b,s,f,m,v,p,c⟩
 · simp at b
 simp only[gW,gK,iV,jp,lI]at b;obtain⟨rfl,rfl⟩:=b;intro j i he;rw[mX w g _ a e (0,0) f]at he;have t:j<a.size:=(iS.1 he).1;have h2:a.toList=rows.flatten:=by rw[<-c,gG (by simp[p])]
 have h3:rows.flatten[j]?=some (.int .u64 i):=by rw[<-h2];simpa using he
 obtain⟨r,o,hu⟩:=kM.1 (im h3);exact l r o _ hu i rfl
theorem Jk{l c:Operand}(H:o.guard=none)(x:o.op=Op.makeSlice t l c)
 {e:TypeId} {zs:List Value} {k bytes n:Nat} (A:P.underlying t=some (.slice e)) (a:BV P e zs k bytes) (y:∀ v∈zs,∀ i,v ≠ .int .u64 i) (I:f.eval l = .int .i64 0) (G:f.eval c = .int .i64 n)
 (F:bytes*n<=281474976710656) (h63:n<=maxLen)
 (D:∀ j,Er j w.heap.size e k w.heap.size 0 n []->Ext w j->wpList P ops Q rest (f.put o.dst (.slice (some ⟨w.heap.size,0,none⟩) 0 n)) j) :
 wpList P ops Q (o :: rest) f w:=by
 refine jf H fun K q => ?_;obtain⟨i,z,B,b,p⟩:=a.parts;obtain⟨j,g,h2,h3⟩:=run_make_own (P:=P) w w.heap.size t e i (.agg zs.toArray) k A z B b .i64 .i64 n (by rw[p];exact F) h63 (lrf _);have m:(n:Int)<=9223372036854775807:=by
  have h:=h63;simp[maxLen]at h;omega
 have s:(i.bytes:Int)*(n:Int)<=281474976710656:=by
  rw[p];have h:((bytes*n:Nat):Int)<=281474976710656:=by omega
  rwa[ir]at h
 have d:=run_make (P:=P) w t e i (.agg zs.toArray) A z B .i64 .i64 0 n (Int.le_refl _) (by omega) s m;simp only[Int.toNat_zero,jc]at d;rw[g]at d;simp only[Result.ok.injEq,lI]at d;have h4:(Value.agg zs.toArray).cells=zs.toArray:=rfl;have C:Arr j w.heap.size e (List.replicate n zs).flatten:=by
  have h5:=LQ (n:=n) a.2.1 a.2.2;rw[d,b,h4];unfold Arr;rw[<-h5];exact mM w _
 have E:NoU j w.heap.size:=C.noU (fun v J i=>by
  obtain⟨r,d,hu⟩:=kM.1 J;rw[(jb.1 d).2]at hu
  exact y v hu i)
 unfold Oper.wp execOp;simp only[x,ij,iF,gS,I,G,g,Oper.upon];exact q _ _ (D j ⟨⟨(fun r d=>by cases d),h2⟩,E⟩ ((Ext.refl w).grown h3 (by simp)))
end
end Go.Proofs.YtlbmnokpiilfpaaGreatDoor
