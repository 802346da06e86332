/- Part Py13. -/
import Derived.Test.YtlbmnokpiilfpaaGreatDoorPy12

set_option linter.all false
set_option maxRecDepth 100000
set_option maxHeartbeats 100000000
namespace Go.Proofs.YtlbmnokpiilfpaaGreatDoor
open Tryz Go Go.RowKit
def nZ:=@Rat.one_mul
def ow:=@IntWalk.u64_in
variable {cs:Array Value} {s:Bool} {va vars vb:Int} {rows:List (List Value)} {e l xs:List Int} {c d k m n v x:Nat} {A B a b:Option Addr} {q:Rat} {w:World}
structure EvB(l:List Pl.Tm)(pt:List Rat):Prop where
 co:∀ t∈l,Pl.RB 2400 t.2
 po:∀ q∈pt,Pl.RB 2400 q
 ex:∀ t∈l,∀ e∈t.1,0<=e/\e<=1048576
 lc:∀ k,Bi ((l.map (·.2)).take k)<P2 9600
 pn:∀ v,v<pt.length->∀ e,e<=Pl.grt l v->(pt.getD v 0).num.natAbs^e<P2 1200
 pd:∀ v,v<pt.length->∀ e,e<=Pl.grt l v->(pt.getD v 0).den^e<P2 1200
 ze:∀ t∈l,∀ k,k<=pt.length->(Pl.zev (Bi (l.map (·.2))) (Pl.grt l) pt t k).natAbs<P2 9600
 de:∀ k,k<=pt.length->Pl.dev (Bi (l.map (·.2))) (Pl.grt l) pt k<P2 9600
 su:(Pl.zsum (fun t=>Pl.zev (Bi (l.map (·.2))) (Pl.grt l) pt t pt.length) l).natAbs<P2 9600
def EvS(w:World)(R DB S N:Nat)(F:Nat->Int)(z:Int)(wr:World):Prop:=Ext w wr/\Arr wr R 85 (Ah false none 0 0 false none 0 0)/\EI wr DB z/\CN wr R S N F
theorem EvS.ext{w:World}{R a S N:Nat}{F:Nat->Int}{z:Int}{wr b:World}(h:EvS w R a S N F z wr)(e:Ext wr b):EvS w R a S N F z b:=⟨h.1.trans e,h.2.1.ext e,h.2.2.1.ext e,h.2.2.2.ext e⟩
theorem NO{v B:Nat}:∀ (l:List Pl.Tm) (a:Nat),a<=B->(∀ t∈l,(t.1.getD v 0).toNat<=B)->l.foldl (fun a t=>max a (t.1.getD v 0).toNat) a<=B
 | [],_,ha,_=>ha
 | t :: r,_,ha,h=>NO r _ (Nat.max_le.2 ⟨ha,h t (by simp)⟩) (fun s b=>h s (by simp[b]))
theorem F9(h:∀ x∈e,0<=x/\x<=1048576):0<=e.getD v 0/\e.getD v 0<=1048576:=by
 rw[gqq];cases a:e[v]? with
 | none=>simp
 | some x=>exact h x (gY a)
theorem Wd.blt(h:Wd w a n c x)(h0:0<n){g:Nat}(f:blk a=some g):g<w.heap.size:=by
 obtain⟨i,h1,_⟩:=h;obtain⟨b,o,rfl,e⟩:=h1.at (j:=0) h0;have d:b=g:=by simpa[blk]using f
 subst d;exact iP w _ (e 0 h0)
theorem Ep(z:Int)(e:Nat):(z^e).natAbs=z.natAbs^e:=Int.natAbs_pow z e
theorem OZ(h6:e.length=6)(f:v<6):(Ap e s a n c b m d).getD v undef = .int .i64 (e.getD v 0):=by
 unfold Ap;rw[gqq,gF (by simp[h6,f])];simp[h6,f]
theorem Qd{N C M D:Nat}{l:List Pl.Tm}{pt:List Rat}(hT:AV w)(hL:BJ w A N C l)(hP:Ec w B M D pt)(hM:M<=6)(hN:N<=1000000)(hB:EvB l pt) :
 Calls prog 123 #[.slice A N C,.slice B M D] w (Fb w (Pl.evq pt l)):=by
 have bB:=fun(o:World) (r:Ext w o)=>qh (Fc (hT.ext r) (hL.ext r) hN (fun q hq=>by obtain⟨t,ht,rfl⟩:=gT.1 hq;exact(hB.co t ht).2) hB.lc);obtain⟨fn,hS,c3,hR⟩:=hL;obtain⟨fm,eA,d4,cQ⟩:=hP;obtain⟨F,hd0⟩:∃ d,Bi (l.map (·.2))=d:=⟨_,rfl⟩;rw[hd0]at bB;have ag:=qh hd0;have HB:=qh hB;have HR:=qh hR;have e6:=qh cQ;have aa:=qh c3;have ab:=qh d4;have eg:Hid (F<P2 9600):=qh (by rw[<-hd0];exact hB.de 0 (oY _));clear hB hR cQ c3 d4 hd0
 go_enter func123,ntmps123
 go_upto_region 1 with(fail)
 refine AM ?_;intro w0 br cA ar;have bh:Arr w0 w.heap.size 85 (Ah false none 0 0 false none 0 0):=cA;clear cA ar
 go_wp2_with fail
 refine(bB _ br).out.mono ?_;rintro e w1 ⟨s1,a1,n1,c1,rfl,b4,e7,db⟩;have hY:=EI.new w1;have eF:(Ab s1 a1 n1 c1).toArray=#[.bool s1,.slice a1 n1 c1]:=rfl
 go_upto_region 2 with(refine OY (z:=(F:Int)) rfl rfl rfl rfl rfl hY e7 (db.ext ((Ext.refl w1).alloc _)) ?_;intro w2 bp cX)
 have bs:Ext w1 w2:=((Ext.refl w1).alloc _).grownR cX (lrf _);have bg:=(br.trans b4).trans bs;have bN:=(bh.ext b4).ext bs;have ey:w.heap.size<w1.heap.size:=(bh.ext b4).lt;clear hY cX db bs bh br b4 eF bB;generalize w1.heap.size=DB at *
 go_upto_region 3 with(refine ED rfl rfl (by kernel_rfl) Mq rfl rfl (by omega) (by unfold maxLen;omega) ?_;intro w3 cL b5)
 have b6:=(CN.made cL).mono bg.size;have cC:=bp.ext b5;have be:=bN.ext b5;have em:DB<w2.heap.size:=bp.lt;have bY:=bg.trans b5;clear cL b5 bp bN;obtain⟨R,ez⟩:∃ x,w.heap.size=x:=⟨_,rfl⟩;obtain⟨S,cR⟩:∃ x,w2.heap.size=x:=⟨_,rfl⟩;rw[cR]at b6 em |-;rw[ez]at be ey b6 |-;have az:EvS w R DB S N (fun _=>0) (F:Int) w3:=⟨bY,be,cC,b6⟩;clear bY be cC b6 cR bg;go_wp2
 go_loopw[28] (fun iv wr=>∃ k:Nat,iv = .int .i64 k/\k<=N/\EvS w R DB S N (fun i=>if i<k then Pl.zsc (l.getD i ([],0)).2 F else 0) (F:Int) wr) (fun iv _=>N-(intOf iv).toNat)
 case atStart=>exact⟨0,rfl,oY _,az.1,az.2.1,az.2.2.1,az.2.2.2.congr (fun i _=>by simp)⟩
 case round =>
  clear az;obtain⟨k,rfl,hk,s⟩:=hrel;by_cases aL:k<N
  · have Q:=hS.ext s.1;obtain⟨bb,bM,rfl,_⟩:=Q.rd (by omega);obtain⟨sx,ax,nx,cx,bx,mx,dx,H,h6,aj⟩:=HR.out k aL;have bo:Hid (Pl.RB 2400 (l.getD k ([],0)).2):=qh (HB.out.co _ (by simp[aa.out,aL]))
    have cj:Hid (∀ i,(if i<k+1 then Pl.zsc (l.getD i ([],0)).2 F else 0)=if i=k then Pl.zsc (l.getD k ([],0)).2 F else if i<k then Pl.zsc (l.getD i ([],0)).2 F else 0):=qh fun i=>by
     by_cases e:i=k
     · subst e;rw[pq (by omega),pq rfl]
     · rw[pf e];by_cases e2:i<k
       · rw[pq e2,pq (by omega)]
       · rw[pf e2,pf (by omega)]
    generalize aM:l.getD k ([],0)=t at *
    clear aM;obtain⟨te,tq⟩:=t;obtain⟨x0,x1,x2,x3,x4,x5,ae⟩:=Cs h6;simp only at ae H aj bo cj;subst ae;have hY:=Arr.new wr 92 (Ap [0,0,0,0,0,0] false none 0 0 none 0 0)
    go_upto_region 6 with(first
     | (refine Bz rfl rfl Au rfl Q aL ?_;rw[H])
     | (refine Aa (vs:=Ap [x0,x1,x2,x3,x4,x5] sx ax nx cx bx mx dx) rfl rfl rfl rfl rfl Au hY rfl AY ?_;intro w4 aG cY))
    have cE:Ext wr w4:=((Ext.refl wr).alloc _).grownR cY (lrf _);have aX:=s.ext cE;have c4:=aj.ext aX.1;clear hY cY s cE H h6 Q aj;generalize wr.heap.size=X at *
    have c6:=aG.c 6 rfl;have c7:=aG.c 7 rfl;have c8:=aG.c 8 rfl;have c9:=aG.c 9 rfl;obtain⟨sd,ad,nd,cd,aE,aF,ah,ak⟩:=aX.2.2.1.at
    have d7:=qh (OJ (v := .agg #[.bool sx,.slice ax nx cx,.bool false,.slice bx mx dx]) (q:=tq) ⟨Ah sx ax nx cx false bx mx dx,rfl,c4⟩ (v' := .agg #[.bool sd,.slice ad nd cd]) (k:=F) ⟨sd,ad,nd,cd,rfl,ah,ak⟩ bo.out.1 (Aj bo.out.2 (by omega)) eg.out);clear aG c4 ah ak
    go_wp2_with fail
    refine d7.out.mono ?_;rintro e w5 ⟨s5,a5,n5,c5,rfl,cF,e8,eL⟩;have aY:=aX.ext cF;have fB:(Ab s5 a5 n5 c5).toArray=#[.bool s5,.slice a5 n5 c5]:=rfl;have cI:=aY.2.2.2;clear d7 c6 c7 c8 c9 aE aF aX cF
    go_wp2_with(refine Lp (z:=Pl.zsc tq F) rfl rfl rfl rfl rfl cI aL e8 eL ?_;intro w6 er bC)
    go_roundw
    case rel =>
     have eB:=cI.noU;exact⟨k+1,by go_num,by omega,aY.1.grownR bC (by omega),aY.2.1.kept bC (by simp;omega),aY.2.2.1.kept eB bC (by omega),er.congr (fun i _=>cj.out i)⟩
    case measure=>simp[intOf];omega
  · have eE:k=N:=by omega
    subst eE;have ca:EvS w R DB S k (fun i=>Pl.zev F (Pl.grt l) pt (l.getD i ([],0)) 0) (Pl.dev F (Pl.grt l) pt 0:Int) wr:=⟨s.1,s.2.1,s.2.2.1,s.2.2.2.congr (fun i hi=>by rw[pq hi];rfl)⟩;clear s hk aL;go_wp2;obtain⟨wo,rfl⟩:∃ x,x=wr:=⟨_,rfl⟩
    go_loopw[43] (fun iv wr=>∃ v:Nat,iv = .int .i64 v/\v<=M/\EvS w R DB S k (fun i=>Pl.zev F (Pl.grt l) pt (l.getD i ([],0)) v) (Pl.dev F (Pl.grt l) pt v:Int) wr) (fun iv _=>M-(intOf iv).toNat)
    case atStart=>exact⟨0,rfl,oY _,ca⟩
    case round =>
     clear ca;obtain⟨v,rfl,hv,s⟩:=hrel;by_cases aN:v<M
     · have Q:=eA.ext s.1;obtain⟨bb,bM,rfl,_⟩:=Q.rd (by omega);obtain⟨sx,ax,nx,cx,bx,mx,dx,H,ec,bF,bG⟩:=e6.out v aN;generalize d6:pt.getD v 0=O at *
       have aD:=qh d6;clear d6;have eH:(Ah sx ax nx cx false bx mx dx).toArray=#[.bool sx,.slice ax nx cx,.bool false,.slice bx mx dx]:=rfl;have hY:=Arr.new wr 85 (Ah false none 0 0 false none 0 0)
       go_upto_region 11 with(first
        | (refine Bz rfl rfl Af rfl Q aN ?_;rw[H])
        | (refine Aa (vs:=Ah sx ax nx cx false bx mx dx) rfl rfl rfl rfl rfl Af hY rfl (Ag _ _ _ _ _ _ _ _) ?_;intro w7 al cZ))
       have cG:Ext wr w7:=((Ext.refl wr).alloc _).grownR cZ (lrf _);have aA:=s.ext cG;have dR:=bF.ext aA.1;have dS:=bG.ext aA.1;have fz:S<wr.heap.size:=s.2.2.2.lt.2;clear hY cZ s cG H Q eH;generalize wr.heap.size=X at *
       have x0:=al.c 0 rfl;have x1:=al.c 1 rfl;have x2:=al.c 2 rfl;have x3:=al.c 3 rfl;have cr:CU w (Ah sx ax nx cx false bx mx dx) O:=⟨sx,ax,nx,cx,bx,mx,dx,rfl,ec,bF,bG⟩;have cB:=al;clear al dR dS bF bG;go_wp2;obtain⟨eR,rfl⟩:∃ x,x=w7:=⟨_,rfl⟩
       go_loopw[11,50] (fun gv iv wr=>∃ j:Nat,iv = .int .i64 j/\j<=k/\gv = .int .i64 (Pl.grt (l.take j) v:Int)/\Ext eR wr) (fun _ iv _=>k-(intOf iv).toNat)
       case atStart=>exact⟨0,rfl,oY _,by simp[Pl.grt],Ext.refl _⟩
       case round =>
        obtain⟨j,rfl,hj,rfl,hE⟩:=hrel;by_cases aK:j<k
        · have Q:=hS.ext (aA.1.trans hE);obtain⟨bb,bM,rfl,_⟩:=Q.rd (by omega);obtain⟨s8,a8,n8,c8,b8,m8,d8,H,h6,aj⟩:=HR.out j aK;have bm:Hid (Pl.grt (l.take (j+1)) v=max (Pl.grt (l.take j) v) ((l.getD j ([],0)).1.getD v 0).toNat):=qh (Pl.grt_take l v j (by rw[aa.out];exact aK));have aI:0<=(l.getD j ([],0)).1.getD v 0:=(F9 (HB.out.ex (l.getD j ([],0)) (by simp[aa.out,aK]))).1;obtain⟨ev,T⟩:∃ ev,Hid ((l.getD j ([],0)).1.getD v 0=ev):=⟨_,qh rfl⟩;rw[T.out]at bm aI;obtain⟨en,rfl⟩:∃ en:Nat,ev=(en:Int):=⟨ev.toNat,by omega⟩
          rw[jf]at bm;generalize aM:l.getD j ([],0)=t at *
          clear aM aj aI;obtain⟨te,tq⟩:=t;obtain⟨y0,y1,y2,y3,y4,y5,ae⟩:=Cs h6;simp only at ae H T;subst ae;have hY:=Arr.new wr 92 (Ap [0,0,0,0,0,0] false none 0 0 none 0 0)
          go_upto_region 15 with(first
           | (refine Bz rfl rfl Au rfl Q aK ?_;rw[H])
           | (refine Aa (vs:=Ap [y0,y1,y2,y3,y4,y5] s8 a8 n8 c8 b8 m8 d8) rfl rfl rfl rfl rfl Au hY rfl AY ?_;intro w8 aH aJ))
          have U:Ext wr w8:=((Ext.refl wr).alloc _).grownR aJ (lrf _);have e0:w8.cell? ⟨wr.heap.size,v,none⟩=some (.int .i64 (en:Int)):=by
           rw[aH.cell (i:=v) (by simp[Ap,Ah,Ab];omega),OZ rfl (by omega),T.out]
          clear hY aJ H Q aH h6 T;go_wp2;go_roundw
          case rel=>exact⟨j+1,by go_num,by omega,by rw[bm.out];simp;omega,hE.trans U⟩
          case measure=>simp[intOf];omega
        · have eD:j=k:=by omega
          subst eD;have ck:Hid (Pl.grt (l.take j) v=Pl.grt l v):=qh (by rw[oL (by rw[aa.out];exact lrf _)]);rw[ck.out];have es:Pl.grt l v<=1048576:=NO l 0 (by omega) (fun t ht=>by have:=F9 (v:=v) (HB.out.ex t ht);omega);have av:Hid (∀ e,e<=Pl.grt l v->O.num.natAbs^e<P2 1200):=qh (by have h1:=HB.out.pn v (by rw[ab.out];exact aN);rw[aD.out]at h1;exact h1);have V:Hid (∀ e,e<=Pl.grt l v->O.den^e<P2 1200):=qh (by have h1:=HB.out.pd v (by rw[ab.out];exact aN);rw[aD.out]at h1;exact h1)
          have cq:Hid (Pl.RB 2400 O):=qh (by
           have h1:=HB.out.po (pt.getD v 0) (by simp[ab.out,aN]);rw[aD.out]at h1
           exact h1)
          have e3:Hid (O.num.natAbs<P2 2496):=qh (Aj cq.out.1 (by omega));have bS:Hid ((O.den:Int).natAbs<P2 2496):=qh (Aj cq.out.2 (by omega));obtain⟨G,hG⟩:∃ g,Pl.grt l v=g:=⟨_,rfl⟩;rw[hG]at es av V |-;have bl:=qh hG;have aZ:=aA.ext hE;have aR:=cB.ext hE;have dF:=aR.lt;have eK:IntKind.i64.wrap ((G:Int)+1)=((G+1:Nat):Int):=by rw[oP _ (by omega)];omega
          obtain⟨wa,rfl⟩:∃ x,x=wr:=⟨_,rfl⟩;clear aA cB ck hG aK hj hE x0 x1 x2 x3
          go_upto_region 18 with(refine ED (n:=G+1) rfl rfl (by kernel_rfl) Mq rfl rfl (by omega) (by unfold maxLen;omega) ?_;intro w9 cM cH)
          have bv:=CN.made cM;have dL:=aZ.1.size;obtain⟨P,eu⟩:∃ x,wa.heap.size=x:=⟨_,rfl⟩;rw[eu]at bv dF dL |-;clear cM eK;go_wp2
          go_loopw[66] (fun iv wq=>∃ J:Nat,iv = .int .i64 J/\J<=G+1/\Ext wa wq/\CN wq P P (G+1) (fun i=>if i<J then Pl.pwz O G i else 0)) (fun iv _=>G+1-(intOf iv).toNat)
          case atStart=>exact⟨0,rfl,oY _,cH,bv.congr (fun i _=>by simp)⟩
          case round =>
           clear bv cH;obtain⟨J,rfl,eC,am,hP⟩:=hrel;by_cases cW:J<G+1
           · have aw:=aR.ext am;have ao:=cr.ext (aZ.1.trans am)
             have dY:Hid (∀ i,(if i<J+1 then Pl.pwz O G i else 0)=if i=J then Pl.pwz O G J else if i<J then Pl.pwz O G i else 0):=qh fun i=>by
              by_cases e:i=J
              · subst e;rw[pq (by omega),pq rfl]
              · rw[pf e];by_cases e2:i<J
                · rw[pq e2,pq (by omega)]
                · rw[pf e2,pf (by omega)]
             have F:=aw.c 0 rfl;have d1:=aw.c 1 rfl;have d2:=aw.c 2 rfl;have d3:=aw.c 3 rfl;have e4:=fun(o:World) (r:Ext wr o)=>qh (PG (v := .agg #[.bool sx,.slice ax nx cx,.bool false,.slice bx mx dx]) (q:=O) ⟨Ah sx ax nx cx false bx mx dx,rfl,ao.ext r⟩);have bj:=fun(o:World) (r:Ext wr o)=>qh (GC (v := .agg #[.bool sx,.slice ax nx cx,.bool false,.slice bx mx dx]) (q:=O) ⟨Ah sx ax nx cx false bx mx dx,rfl,ao.ext r⟩)
             have e5:=fun(o:World) (x1:Value) (h1:AD o x1 O.num)=>qh (LX (e:=J) h1 e3.out (by omega) (Aj (av.out J (by omega)) (by omega)));have bn:=fun(o:World) (x1:Value) (h1:AD o x1 (O.den:Int))=>qh (LX (e:=G-J) h1 bS.out (by omega) (Aj (V.out (G-J) (by omega)) (by omega)))
             have aC:=fun(o:World) (x1 x2:Value) (h1:AD o x1 (O.num^J)) (h2:AD o x2 ((O.den:Int)^(G-J)))=>qh (Ci h1 h2 (by rw[Ep];exact Aj (av.out J (by omega)) (by omega)) (by rw[Ep];exact Aj (V.out (G-J) (by omega)) (by omega)) (Or.inl (by rw[Ep];exact Aj (av.out J (by omega)) (by omega))));have dG:IntKind.u64.wrap (J:Int)=(J:Int):=ow _ (by omega);have fc:IntKind.u64.wrap ((G:Int)-(J:Int))=((G-J:Nat):Int):=by rw[ow _ (by omega)];omega
             have fd:IntKind.i64.wrap ((G:Int)-(J:Int))=(G:Int)-(J:Int):=oP _ (by omega);clear aw ao;go_wp2;have ac:=fun(o:World) (r:Ext wr o)=>qh (And.intro (r.cell F) (And.intro (r.cell d1) (And.intro (r.cell d2) (r.cell d3))))
             refine Ac
              [hdS (some ⟨P,0,none⟩) (G+1) (G+1),hdI J,he (.agg #[.bool sx,.slice ax nx cx,.bool false,.slice bx mx dx]),hp (fun v o=>NI (O.num) v o),hdI J,he (.int .u64 (J:Int)),hp (fun v o=>NI (O.num^J) v o),he (.agg #[.bool sx,.slice ax nx cx,.bool false,.slice bx mx dx]),hp (fun v o=>NI ((O.den:Int)) v o),hdI G,hdI J,hdI ((G:Int)-(J:Int)),he (.int .u64 ((G-J:Nat):Int)),hp (fun v o=>NI ((O.den:Int)^(G-J)) v o),hp (fun v o=>NI (Pl.pwz O G J) v o)]
              ⟨NI.x _,NI.x _,NI.x _,NI.x _,NI.x _,trivial⟩ ⟨?o0,?o1,?o2,?o3,?o4,?o5,?o6,?o7,?o8,?o9,?o10,?o11,?o12,?o13,?o14,trivial⟩ ?fin
             case o0 | o1 | o4 | o9 | o10=>exact omv
             case o2 | o7=>exact ol4
             case o3 =>
              refine Ae rfl fun ρ o r E a7 h => ?_;have e1:_=_:=h.2.1;obtain⟨a0,a3,a4,a6⟩:=(ac o r).out;refine⟨188,#[.agg #[.bool sx,.slice ax nx cx,.bool false,.slice bx mx dx]],by go_simp,((e4 o r).out).mono ?_⟩;rintro e w' ⟨s',a',n',c',rfl,I,L,K⟩;exact⟨_,rfl,I,s',a',n',c',rfl,L,K⟩
             case o5 =>
              refine Ao rfl fun ρ o r E h => ?_;have e0:_=_:=h.1;obtain⟨a0,a3,a4,a6⟩:=(ac o r).out;go_simp
             case o6 =>
              refine Ae rfl fun ρ o r E a7 h => ?_;obtain⟨v1,e1,s1,a1,n1,c1,rfl,i1,j1⟩:=h.2.1;have e2:_=_:=h.2.2.1;obtain⟨a0,a3,a4,a6⟩:=(ac o r).out;refine⟨189,#[.agg (Ab s1 a1 n1 c1).toArray,.int .u64 (J:Int)],by go_simp,((e5 o _ ⟨s1,a1,n1,c1,rfl,i1,j1⟩).out).mono ?_⟩;rintro e w' ⟨s',a',n',c',rfl,I,L,K⟩;exact⟨_,rfl,I,s',a',n',c',rfl,L,K⟩
             case o8 =>
              refine Ae rfl fun ρ o r E a7 h => ?_;have e1:_=_:=h.2.1;obtain⟨a0,a3,a4,a6⟩:=(ac o r).out;refine⟨165,#[.agg #[.bool sx,.slice ax nx cx,.bool false,.slice bx mx dx]],by go_simp,((bj o r).out).mono ?_⟩;rintro e w' ⟨s',a',n',c',rfl,I,L,K⟩;exact⟨_,rfl,I,s',a',n',c',rfl,L,K⟩
             case o11 =>
              refine Ao rfl fun ρ o r E h => ?_;have e0:_=_:=h.1;have e1:_=_:=h.2.1;obtain⟨a0,a3,a4,a6⟩:=(ac o r).out;go_simp
              try (first | (intros;omega) | exact oP _ (by omega))
             case o12 =>
              refine Ao rfl fun ρ o r E h => ?_;have e0:_=_:=h.1;obtain⟨a0,a3,a4,a6⟩:=(ac o r).out;go_simp
             case o13 =>
              refine Ae rfl fun ρ o r E a7 h => ?_;obtain⟨v1,e1,s1,a1,n1,c1,rfl,i1,j1⟩:=h.2.1;have e2:_=_:=h.2.2.1;obtain⟨a0,a3,a4,a6⟩:=(ac o r).out;refine⟨189,#[.agg (Ab s1 a1 n1 c1).toArray,.int .u64 ((G-J:Nat):Int)],by go_simp,((bn o _ ⟨s1,a1,n1,c1,rfl,i1,j1⟩).out).mono ?_⟩;rintro e w' ⟨s',a',n',c',rfl,I,L,K⟩;exact⟨_,rfl,I,s',a',n',c',rfl,L,K⟩
             case o14 =>
              refine Ae rfl fun ρ o r E a7 h => ?_;obtain⟨v1,e1,s1,a1,n1,c1,rfl,i1,j1⟩:=h.2.1;obtain⟨v2,e2,s2,a2,n2,c2,rfl,i2,j2⟩:=h.2.2.1;obtain⟨a0,a3,a4,a6⟩:=(ac o r).out;refine⟨163,#[.agg (Ab s1 a1 n1 c1).toArray,.agg (Ab s2 a2 n2 c2).toArray],by go_simp,((aC o _ _ ⟨s1,a1,n1,c1,rfl,i1,j1⟩ ⟨s2,a2,n2,c2,rfl,i2,j2⟩).out).mono ?_⟩;rintro e w' ⟨s',a',n',c',rfl,I,L,K⟩;exact⟨_,rfl,I,s',a',n',c',rfl,L,K⟩
             case fin =>
              intro o r;rintro _ ⟨fG,fr,fC,fv,rfl,eY,ff⟩;rintro _ ⟨fH,fs,fD,fw,rfl,eZ,fg⟩;rintro _ ⟨fI,ft,fE,fx,rfl,f2,fh⟩;rintro _ ⟨fJ,fu,fF,fy,rfl,f3,fi⟩;rintro _ ⟨dh,ct,dg,cu,rfl,ds,dO⟩;change wpList _ _ _ _ _ _;simp only[A0];have ew:=hP.ext r;have dK:(J:Int)<((G+1:Nat):Int):=by omega
              have bD:(Ab dh ct dg cu).toArray=#[.bool dh,.slice ct dg cu]:=rfl
              go_wp2_with(refine Lp (z:=Pl.pwz O G J) rfl rfl rfl rfl rfl ew cW ds dO ?_;intro eQ dB Z)
              go_roundw
              case rel=>exact⟨J+1,by go_num,by omega,(am.trans r).grownR Z (by omega),dB.congr (fun i _=>dY.out i)⟩
              case measure=>simp[intOf];omega
           · have dV:=qh (show J=G+1 by omega);have cN:=hP.congr (G:=Pl.pwz O G) (fun i hi=>(pq (by have:=dV.out;omega)).symm);have bX:=aR.ext am;have aB:=aZ.ext am;clear hP;go_wp2;clear eC cW;obtain⟨wb,rfl⟩:∃ x,x=wr:=⟨_,rfl⟩
             go_loopw[88] (fun iv wq=>∃ i:Nat,iv = .int .i64 i/\i<=j/\EvS w R DB S j (fun m=>if m<i then Pl.zev F (Pl.grt l) pt (l.getD m ([],0)) (v+1)else Pl.zev F (Pl.grt l) pt (l.getD m ([],0)) v) (Pl.dev F (Pl.grt l) pt v:Int) wq/\Arr wq X 85 (Ah sx ax nx cx false bx mx dx)/\CN wq P P (G+1) (Pl.pwz O G)) (fun iv _=>j-(intOf iv).toNat)
             case atStart=>exact⟨0,rfl,oY _,⟨aB.1,aB.2.1,aB.2.2.1,aB.2.2.2.congr (fun m _=>pf (by omega))⟩,bX,cN⟩
             case round =>
              clear aB bX cN aR aZ am;obtain⟨i,rfl,hi,s,ai,b7⟩:=hrel;by_cases aq:i<j
              · have Q:=hS.ext s.1;obtain⟨bb,bM,rfl,_⟩:=Q.rd (by omega);obtain⟨s8,a8,n8,c8,b8,m8,d8,H,h6,aj⟩:=HR.out i aq;have aW:l.getD i ([],0)∈l:=by simp[aa.out,aq]
                have aI:0<=(l.getD i ([],0)).1.getD v 0:=(F9 (HB.out.ex _ aW)).1;obtain⟨ev,T⟩:∃ ev,Hid ((l.getD i ([],0)).1.getD v 0=ev):=⟨_,qh rfl⟩;rw[T.out]at aI;obtain⟨en,rfl⟩:∃ en:Nat,ev=(en:Int):=⟨ev.toNat,by omega⟩;have dH:en<=G:=by
                 have h1:=Pl.le_grt v aW;rw[bl.out,T.out]at h1;simpa using h1
                have cV:Pl.zev F (Pl.grt l) pt (l.getD i ([],0)) (v+1)=Pl.zev F (Pl.grt l) pt (l.getD i ([],0)) v*Pl.pwz O G en:=by
                 show Pl.zev F (Pl.grt l) pt (l.getD i ([],0)) v*Pl.pwz (pt.getD v 0) (Pl.grt l v) ((l.getD i ([],0)).1.getD v 0).toNat=_;rw[aD.out,bl.out,T.out,jf]
                have cU:(Pl.zev F (Pl.grt l) pt (l.getD i ([],0)) v).natAbs<P2 9600:=by
                 have h1:=HB.out.ze _ aW v (by rw[ab.out];omega)
                 rwa[ag.out]at h1
                have bR:Hid (∀ m,(if m<i+1 then Pl.zev F (Pl.grt l) pt (l.getD m ([],0)) (v+1)else Pl.zev F (Pl.grt l) pt (l.getD m ([],0)) v)=if m=i then Pl.zev F (Pl.grt l) pt (l.getD i ([],0)) v*Pl.pwz O G en else if m<i then Pl.zev F (Pl.grt l) pt (l.getD m ([],0)) (v+1)else Pl.zev F (Pl.grt l) pt (l.getD m ([],0)) v):=qh fun m=>by
                 by_cases e:m=i
                 · subst e;rw[pq (by omega),pq rfl,cV]
                 · rw[pf e];by_cases e2:m<i
                   · rw[pq e2,pq (by omega)]
                   · rw[pf e2,pf (by omega)]
                obtain⟨z0,ar⟩:∃ z,Pl.zev F (Pl.grt l) pt (l.getD i ([],0)) v=z:=⟨_,rfl⟩;have dX:Hid (∀ m,(if m<i+1 then Pl.zev F (Pl.grt l) pt (l.getD m ([],0)) (v+1)else Pl.zev F (Pl.grt l) pt (l.getD m ([],0)) v)=if m=i then z0*Pl.pwz O G en else if m<i then Pl.zev F (Pl.grt l) pt (l.getD m ([],0)) (v+1)else Pl.zev F (Pl.grt l) pt (l.getD m ([],0)) v):=qh (fun m=>by rw[<-ar];exact bR.out m);have ed:Hid (z0.natAbs<P2 9600):=qh (by rw[<-ar];exact cU)
                have cl:Hid ((Pl.pwz O G en).natAbs<P2 2400):=qh (by
                 unfold Pl.pwz;rw[iq,Ep,Ep]
                 exact BF (a:=1200) (b:=1200) (av.out en dH) (V.out (G-en) (by omega)))
                obtain⟨sS,aS,nS,cS,cv,cw,cm,bE⟩:=s.2.2.2.at aq;obtain⟨sP,aP,nP,cP,cy,cz,ea,dc⟩:=b7.at (i:=en) (by omega);rw[pf (mM i),ar]at cm bE;clear bR cV cU ar aW aI;generalize aM:l.getD i ([],0)=t at H h6 T;clear aM aj;obtain⟨te,tq⟩:=t;obtain⟨y0,y1,y2,y3,y4,y5,ae⟩:=Cs h6;simp only at ae H T;subst ae;have hY:=Arr.new wr 92 (Ap [0,0,0,0,0,0] false none 0 0 none 0 0)
                go_upto_region 26 with(first
                 | (refine Bz rfl rfl Au rfl Q aq ?_;rw[H])
                 | (refine Aa (vs:=Ap [y0,y1,y2,y3,y4,y5] s8 a8 n8 c8 b8 m8 d8) rfl rfl rfl rfl rfl Au hY rfl AY ?_;intro w8 aH aJ))
                have U:Ext wr w8:=((Ext.refl wr).alloc _).grownR aJ (lrf _);have el:w8.cell? ⟨wr.heap.size,v,none⟩=some (.int .i64 (en:Int)):=by
                 rw[aH.cell (i:=v) (by simp[Ap,Ah,Ab];omega),OZ rfl (by omega),T.out]
                have f0:=U.cell cv;have f1:=U.cell cw;have g0:=U.cell cy;have g1:=U.cell cz;have cb:=s.ext U;have dw:=ai.ext U;have dC:=b7.ext U;have dQ:=bE.ext U;have dP:=dc.ext U;have aC:=fun(o:World) (r:Ext w8 o)=>qh (Ci (v := .agg #[.bool sS,.slice aS nS cS]) (z:=z0) ⟨sS,aS,nS,cS,rfl,cm,dQ.ext r⟩ (v' := .agg #[.bool sP,.slice aP nP cP]) (y:=Pl.pwz O G en) ⟨sP,aP,nP,cP,rfl,ea,dP.ext r⟩ ed.out (Aj cl.out (by omega)) (Or.inr (Aj cl.out (by omega))));clear hY aJ H Q aH h6 T cv cw cy cz s ai b7 bE dc U
                generalize wr.heap.size=Y at *
                have b2:=fun(o:World) (r:Ext w8 o)=>qh (And.intro (r.cell f0) (And.intro (r.cell f1) (And.intro (r.cell g0) (And.intro (r.cell g1) (r.cell el)))))
                refine Ac
                 [hdS (some ⟨S,0,none⟩) j j,hdI i,hdS (some ⟨S,0,none⟩) j j,hdI i,hdP S (i*2),he (.agg #[.bool sS,.slice aS nS cS]),hdS (some ⟨P,0,none⟩) (G+1) (G+1),hdI v,hdP Y 0,hdP Y v,hdI en,hdP P (en*2),he (.agg #[.bool sP,.slice aP nP cP]),hp (fun v o=>NI (z0*Pl.pwz O G en) v o)]
                 ⟨NI.x _,trivial⟩ ⟨?o0,?o1,?o2,?o3,?o4,?o5,?o6,?o7,?o8,?o9,?o10,?o11,?o12,?o13,trivial⟩ ?fin
                case o0 | o1 | o2 | o3 | o6 | o7=>exact omv
                case o5 | o12=>exact ol2
                case o8=>exact ofa (d:=0)
                case o10=>exact ol
                case o4 =>
                 refine Ao rfl fun ρ o r E h => ?_;have e0:_=_:=h.1;have e1:_=_:=h.2.1;obtain⟨bH,bI,bJ,bK,ke⟩:=(b2 o r).out;go_simp
                 try (first | (intros;omega) | exact oP _ (by omega))
                case o9 =>
                 refine Ao rfl fun ρ o r E h => ?_;have e0:_=_:=h.1;have e1:_=_:=h.2.1;obtain⟨bH,bI,bJ,bK,ke⟩:=(b2 o r).out;go_simp
                 try (first | (intros;omega) | exact oP _ (by omega))
                case o11 =>
                 refine Ao rfl fun ρ o r E h => ?_;have e0:_=_:=h.1;have e1:_=_:=h.2.1;obtain⟨bH,bI,bJ,bK,ke⟩:=(b2 o r).out;go_simp
                 try (first | (intros;omega) | exact oP _ (by omega))
                case o13 =>
                 refine Ae rfl fun ρ o r E a7 h => ?_;have e1:_=_:=h.2.1;have e2:_=_:=h.2.2.1;obtain⟨bH,bI,bJ,bK,ke⟩:=(b2 o r).out;refine⟨163,#[.agg #[.bool sS,.slice aS nS cS],.agg #[.bool sP,.slice aP nP cP]],by go_simp,((aC o r).out).mono ?_⟩;rintro e w' ⟨s',a',n',c',rfl,I,L,K⟩;exact⟨_,rfl,I,s',a',n',c',rfl,L,K⟩
                case fin =>
                 intro o r;rintro _ ⟨cg,bT,ce,bV,rfl,dj,dl⟩;change wpList _ _ _ _ _ _;simp only[A0];have cJ:=cb.2.2.2.ext r;have dK:(i:Int)<(j:Int):=by omega
                 have bD:(Ab cg bT ce bV).toArray=#[.bool cg,.slice bT ce bV]:=rfl
                 go_wp2_with(refine Lp (z:=z0*Pl.pwz O G en) rfl rfl rfl rfl rfl cJ aq dj dl ?_;intro eQ dz Z)
                 go_roundw
                 case rel =>
                  have ba:=cJ.noU;have af:=cb.ext r;exact⟨i+1,by go_num,by omega,⟨af.1.grownR Z (by omega),af.2.1.kept Z (by simp;omega),af.2.2.1.kept ba Z (by omega),dz.congr (fun m _=>dX.out m)⟩,(dw.ext r).kept Z (by simp;omega),(dC.ext r).kept ba Z (by omega)⟩
                 case measure=>simp[intOf];omega
              · have dJ:i=j:=by omega
                subst dJ;obtain⟨sd,ad,nd,cd,aE,aF,ah,ak⟩:=s.2.2.1.at
                have eh:=ai.c 0 rfl;have ei:=ai.c 1 rfl;have ej:=ai.c 2 rfl;have ek:=ai.c 3 rfl;have ao:=cr.ext s.1;have bj:=fun(o:World) (r:Ext wr o)=>qh (GC (v := .agg #[.bool sx,.slice ax nx cx,.bool false,.slice bx mx dx]) (q:=O) ⟨Ah sx ax nx cx false bx mx dx,rfl,ao.ext r⟩);have bn:=fun(o:World) (x1:Value) (h1:AD o x1 (O.den:Int))=>qh (LX (e:=G) h1 bS.out (by omega) (Aj (V.out G (lrf _)) (by omega)));have W:Pl.dev F (Pl.grt l) pt v<P2 9600:=by
                 have h1:=HB.out.de v (by rw[ab.out];omega)
                 rwa[ag.out]at h1
                have bq:((Pl.dev F (Pl.grt l) pt (v+1):Nat):Int)=(Pl.dev F (Pl.grt l) pt v:Int)*(O.den:Int)^G:=by
                 show((Pl.dev F (Pl.grt l) pt v*(pt.getD v 0).den^(Pl.grt l v):Nat):Int)=_;rw[aD.out,bl.out,gH,Int.natCast_pow]
                obtain⟨dv,bc⟩:∃ d,Pl.dev F (Pl.grt l) pt v=d:=⟨_,rfl⟩;rw[bc]at W bq ah ak s;have dU:=qh bq;have dT:=qh W;have aC:=fun(o:World) (r:Ext wr o) (x2:Value) (h2:AD o x2 ((O.den:Int)^G))=>qh (Ci (v := .agg #[.bool sd,.slice ad nd cd]) (z:=(dv:Int)) ⟨sd,ad,nd,cd,rfl,ah,ak.ext r⟩ h2 dT.out (by rw[Ep];exact Aj (V.out G (lrf _)) (by omega)) (Or.inr (by rw[Ep];exact Aj (V.out G (lrf _)) (by omega))));have dG:IntKind.u64.wrap (G:Int)=(G:Int):=ow _ (by omega);clear bq W ao ai b7 hi aq
                go_wp2;have b3:=fun(o:World) (r:Ext wr o)=>qh (And.intro (r.cell aE) (And.intro (r.cell aF) (And.intro (r.cell eh) (And.intro (r.cell ei) (And.intro (r.cell ej) (r.cell ek))))))
                refine Ac
                 [he (.agg #[.bool sd,.slice ad nd cd]),he (.agg #[.bool sx,.slice ax nx cx,.bool false,.slice bx mx dx]),hp (fun v o=>NI ((O.den:Int)) v o),hdI G,he (.int .u64 (G:Int)),hp (fun v o=>NI ((O.den:Int)^G) v o),hp (fun v o=>NI ((dv:Int)*(O.den:Int)^G) v o)]
                 ⟨NI.x _,NI.x _,NI.x _,trivial⟩ ⟨?o0,?o1,?o2,?o3,?o4,?o5,?o6,trivial⟩ ?fin
                case o0=>exact ol2
                case o1=>exact ol4
                case o3=>exact omv
                case o2 =>
                 refine Ae rfl fun ρ o r E a7 h => ?_;have e1:_=_:=h.2.1;obtain⟨aO,aQ,a0,a3,a4,a6⟩:=(b3 o r).out;refine⟨165,#[.agg #[.bool sx,.slice ax nx cx,.bool false,.slice bx mx dx]],by go_simp,((bj o r).out).mono ?_⟩;rintro e w' ⟨s',a',n',c',rfl,I,L,K⟩;exact⟨_,rfl,I,s',a',n',c',rfl,L,K⟩
                case o4 =>
                 refine Ao rfl fun ρ o r E h => ?_;have e0:_=_:=h.1;obtain⟨aO,aQ,a0,a3,a4,a6⟩:=(b3 o r).out;go_simp
                case o5 =>
                 refine Ae rfl fun ρ o r E a7 h => ?_;obtain⟨v1,e1,s1,a1,n1,c1,rfl,i1,j1⟩:=h.2.1;have e2:_=_:=h.2.2.1;obtain⟨aO,aQ,a0,a3,a4,a6⟩:=(b3 o r).out;refine⟨189,#[.agg (Ab s1 a1 n1 c1).toArray,.int .u64 (G:Int)],by go_simp,((bn o _ ⟨s1,a1,n1,c1,rfl,i1,j1⟩).out).mono ?_⟩;rintro e w' ⟨s',a',n',c',rfl,I,L,K⟩;exact⟨_,rfl,I,s',a',n',c',rfl,L,K⟩
                case o6 =>
                 refine Ae rfl fun ρ o r E a7 h => ?_;have e1:_=_:=h.2.1;obtain⟨v2,e2,s2,a2,n2,c2,rfl,i2,j2⟩:=h.2.2.1;obtain⟨aO,aQ,a0,a3,a4,a6⟩:=(b3 o r).out;refine⟨163,#[.agg #[.bool sd,.slice ad nd cd],.agg (Ab s2 a2 n2 c2).toArray],by go_simp,((aC o r _ ⟨s2,a2,n2,c2,rfl,i2,j2⟩).out).mono ?_⟩;rintro e w' ⟨s',a',n',c',rfl,I,L,K⟩;exact⟨_,rfl,I,s',a',n',c',rfl,L,K⟩
                case fin =>
                 intro o r;rintro _ ⟨fo,f4,fj,f7,rfl,eS,eV⟩;rintro _ ⟨fp,f5,fk,f8,rfl,eT,eW⟩;rintro _ ⟨ch,bU,cf,bW,rfl,dk,dm⟩;change wpList _ _ _ _ _ _;simp only[A0];have cD:=s.2.2.1.ext r;have bD:(Ab ch bU cf bW).toArray=#[.bool ch,.slice bU cf bW]:=rfl
                 go_wp2_with(refine OY (z:=(dv:Int)*(O.den:Int)^G) rfl rfl rfl rfl rfl cD dk dm ?_;intro fK dy bi)
                 go_roundw
                 case rel =>
                  have ba:=cD.noU;have af:=s.ext r;refine⟨v+1,by go_num,by omega,af.1.grownR bi (by omega),af.2.1.kept bi (by simp;omega),?_,?_⟩
                  · rw[dU.out];exact dy
                  · exact(af.2.2.2.kept ba bi (by omega)).congr (fun m hm=>(pq hm).symm)
                 case measure=>simp[intOf];omega
     · have dN:v=M:=by omega
       subst dN;have ay:=(B6.new (Arr.new wr 224 (JE none 0 0 none 0 0)) (lrf _)).le (oY 300);have aT:=(Ext.refl wr).alloc (.cells (JE none 0 0 none 0 0).toArray 224);have da:(JE none 0 0 none 0 0).toArray=#[.slice none 0 0,.slice none 0 0]:=rfl;rw[da]at ay aT;obtain⟨au,rfl⟩:∃ x,x=wr:=⟨_,rfl⟩
       go_upto_region 31 with(fail)
       have et:au.heap.size<=(au.alloc (.cells #[.slice none 0 0,.slice none 0 0] 224)).heap.size:=aT.size;generalize au.alloc (.cells #[.slice none 0 0,.slice none 0 0] 224)=fL at *
       have W:Pl.dev F (Pl.grt l) pt v<P2 9600:=by
        have h1:=HB.out.de v (by rw[ab.out];exact lrf _)
        rwa[ag.out]at h1
       have bt:∀ i,i<k->(Pl.zev F (Pl.grt l) pt (l.getD i ([],0)) v).natAbs<P2 9600:=fun i hi=>by
        have h1:=HB.out.ze (l.getD i ([],0)) (by simp[aa.out,hi]) v (by rw[ab.out];exact lrf _)
        rwa[ag.out]at h1
       have bz:∀ i,i<k->Pl.zsum (fun t=>Pl.zev F (Pl.grt l) pt t v) (l.take (i+1))=Pl.zsum (fun t=>Pl.zev F (Pl.grt l) pt t v) (l.take i)+Pl.zev F (Pl.grt l) pt (l.getD i ([],0)) v:=fun i hi=>Pl.zsum_take _ l i (by rw[aa.out];exact hi);have bA:(Pl.zsum (fun t=>Pl.zev F (Pl.grt l) pt t v) (l.take k)).natAbs<P2 9600:=by
        rw[oL (by rw[aa.out];exact lrf _)];have h1:=HB.out.su
        rwa[ag.out,ab.out]at h1
       have aV:mkRat (Pl.zsum (fun t=>Pl.zev F (Pl.grt l) pt t v) (l.take k)) (Pl.dev F (Pl.grt l) pt v)=Pl.evq pt l:=by
        rw[oL (by rw[aa.out];exact lrf _)];have h1:=Pl.ev_done (d:=Bi (l.map (·.2))) (pt:=pt) (l:=l) (Nat.ne_of_gt (BU _)) (fun t ht=>F6 (jl ht))
        rwa[ag.out,ab.out]at h1
       have hd0:Pl.dev F (Pl.grt l) pt v≠0:=Pl.dev_ne (by rw[<-ag.out];exact Nat.ne_of_gt (BU _)) v;have bw:Pl.zsum (fun t=>Pl.zev F (Pl.grt l) pt t v) (l.take 0)=0:=rfl;obtain⟨ZS,bZ⟩:∃ f:Nat->Int,∀ i,f i=Pl.zsum (fun t=>Pl.zev F (Pl.grt l) pt t v) (l.take i):=⟨_,fun _=>rfl⟩;obtain⟨FI,bu⟩:∃ f:Nat->Int,∀ i,f i=Pl.zev F (Pl.grt l) pt (l.getD i ([],0)) v:=⟨_,fun _=>rfl⟩;obtain⟨dv,bc⟩:∃ d,Pl.dev F (Pl.grt l) pt v=d:=⟨_,rfl⟩;simp only[<-bZ,<-bu]at bt bz bA aV bw;rw[bc]at W aV hd0 s
       have s:=(⟨s.1,s.2.1,s.2.2.1,s.2.2.2.congr (fun i _=>bu i)⟩:EvS w R DB S k FI (dv:Int) au);have dW:=qh bt;have ee:=qh bz;have ef:=qh bA;have dr:=qh aV;have dq:=qh W;have dp:=qh hd0;rw[<-bw]at ay;have dM:=s.1.size;obtain⟨p,eI⟩:∃ x,au.heap.size=x:=⟨_,rfl⟩;rw[eI]at ay dM et |-;clear bt bz bA aV W hd0 bw bZ bu bc da;go_wp2
       go_loopw[119] (fun iv wq=>∃ (i:Nat) (qa qb:Option Nat),iv = .int .i64 i/\i<=k/\Ext au wq/\B6 wq p p qa qb (300+40*i) (ZS i)) (fun iv _=>k-(intOf iv).toNat)
       case atStart=>exact⟨0,none,none,rfl,oY _,aT,ay⟩
       case round =>
        clear ay aT;obtain⟨i,qa,qb,rfl,hi,hE,ap⟩:=hrel;by_cases bd:i<k
        · have cK:=s.2.2.2;obtain⟨sn,an,nn,cn,n0,n1,eb,dd⟩:=(cK.ext hE).at bd;obtain⟨_,_,_,_,_,m1,_,cc⟩:=cK.at bd;have fe:=hE.size;have d5:=ap.lt;have bL:=hE.cell m1;rw[n1]at bL;simp only[oQ,pk]at bL;obtain⟨rfl,rfl,rfl⟩:=bL
          have dt:Hid (∀ (w':World),w'.heap.size=w'.heap.size->Hb (fun g=>qa≠some g/\qb≠some g) (.agg (Ab sn an nn cn).toArray)):=qh (fun _ _=>ID (fun h0 g hg=>by
           have h1:=cc.blt h0 hg;refine⟨fun h => ?_,fun h => ?_⟩
           · have:=(d5.2.1 _ h).1;omega
           · have:=(d5.2.2 _ h).1;omega))
          have hY:=Arr.new wr 83 (Ab false none 0 0);have eG:(Ab sn an nn cn).toArray=#[.bool sn,.slice an nn cn]:=rfl;have fA:(i:Int)<(k:Int):=by omega
          clear m1 cc
          go_upto_region 34 with(refine Aa (vs:=Ab sn an nn cn) rfl rfl rfl rfl rfl Ak hY rfl (Ad _ _ _ _) ?_;intro di bf c0)
          have aU:Ext wr di:=((Ext.refl wr).alloc _).grownR c0 (lrf _);have bQ:=dd.ext aU;have bO:=ap.ext aU;have dn:=qh (TR bO (v := .agg #[.bool sn,.slice an nn cn]) (x:=FI i) ⟨sn,an,nn,cn,rfl,eb,bQ⟩ (dt.out di rfl) (dW.out i bd) (by omega) (by have:=aU.size;omega));obtain⟨Y,cT⟩:∃ x,wr.heap.size=x:=⟨_,rfl⟩;rw[cT]at bf |-;have b0:=bf.c 0 rfl;have b1:=bf.c 1 rfl;have eo:=hE.trans aU;clear hY c0 eG n0 n1 dd bQ ap hE cT
          go_wp2_with fail
          refine dn.out.mono ?_;rintro e fM ⟨rfl,eO,eP,dE,dA,fa,fb⟩;have bP:=bO.lt;go_wp2;go_roundw
          case rel =>
           refine⟨i+1,eO,eP,by go_num,by omega,dA.ext eo (fun b hb => ?_),?_⟩
           · rcases hb with rfl|hb|hb
             · omega
             · have:=(bP.2.1 _ hb).1;omega
             · have:=(bP.2.2 _ hb).1;omega
           · rw[ee.out i bd];exact dE.le (by omega)
          case measure=>simp[intOf];omega
        · have dZ:=qh (show i=k by omega);rw[dZ.out]at ap;obtain⟨sd,ad,nd,cd,aE,aF,ah,ak⟩:=(s.2.2.1.ext hE).at
          have eq:=s.1.trans hE;have cp:=fun(o:World) (r:Ext wr o)=>qh (QG (ap.ext r) (by omega));have bk:=fun(o:World) (r:Ext wr o) (x1:Value) (h1:AD o x1 (ZS k))=>qh (GE ((hT.ext eq).ext r) h1 (v' := .agg #[.bool sd,.slice ad nd cd]) (k:=dv) ⟨sd,ad,nd,cd,rfl,ah,ak.ext r⟩ ef.out dq.out dp.out);rw[dr.out]at bk;obtain⟨zt,df⟩:∃ z,ZS k=z:=⟨_,rfl⟩;rw[df]at cp bk;clear df ap;go_wp2;have ci:=fun(o:World) (r:Ext wr o)=>qh (And.intro (r.cell aE) (r.cell aF))
          refine Ac
           [hp (fun v o=>NI (zt) v o),he (.agg #[.bool sd,.slice ad nd cd]),hp (fun v o=>NR (Pl.evq pt l) v o)]
           ⟨NI.x _,NR.x _,trivial⟩ ⟨?o0,?o1,?o2,trivial⟩ ?fin
          case o1=>exact ol2
          case o0 =>
           refine Ae rfl fun ρ o r E a7 h => ?_;have e1:_=_:=h.2.1;obtain⟨aO,aQ⟩:=(ci o r).out;refine⟨192,#[.pointer (some ⟨p,0,none⟩)],by go_simp,((cp o r).out).mono ?_⟩;rintro e w' ⟨s',a',n',c',rfl,I,L,K⟩;exact⟨_,rfl,I,s',a',n',c',rfl,L,K⟩
          case o2 =>
           refine Ae rfl fun ρ o r E a7 h => ?_;obtain⟨v1,e1,s1,a1,n1,c1,rfl,i1,j1⟩:=h.2.1;have e2:_=_:=h.2.2.1;obtain⟨aO,aQ⟩:=(ci o r).out;refine⟨191,#[.agg (Ab s1 a1 n1 c1).toArray,.agg #[.bool sd,.slice ad nd cd]],by go_simp,((bk o r _ ⟨s1,a1,n1,c1,rfl,i1,j1⟩).out).mono ?_⟩;rintro e w' ⟨cs,rfl,I,eJ⟩;exact⟨_,rfl,I,cs,rfl,eJ⟩
          case fin =>
           intro o r;rintro _ ⟨fq,f6,fl,f9,rfl,eU,eX⟩;rintro _ ⟨_,rfl,s9,a9,n9,c9,b9,m9,d9,rfl,e9,eM,eN⟩;change wpList _ _ _ _ _ _;simp only[A0];have cO:=s.2.1.ext (hE.trans r);have bD:(Ah s9 a9 n9 c9 false b9 m9 d9).toArray=#[.bool s9,.slice a9 n9 c9,.bool false,.slice b9 m9 d9]:=rfl
           go_wp2_with(refine Aa (vs:=Ah s9 a9 n9 c9 false b9 m9 d9) rfl rfl rfl rfl rfl Af cO rfl (Ag _ _ _ _ _ _ _ _) ?_;intro fN du dI)
           exact oM (Ai rfl Af rfl du) rfl (Bc ((s.1.trans hE).trans r) cO (AC _ _ _ _ _ _ _ _) dI (by omega) e9 eM eN)
theorem Mz(k:Nat):∀ (l:List Int) (s:Int),s<=24->CJ s (l ++ List.replicate k 0)=CJ s l
 | [],s,hs=>by
  induction k with
  | zero=>rfl
  | succ k ih =>
   rw[iA,mj];unfold CJ;rw[pf (by omega),Int.add_zero,<-iA (List.replicate k 0),ih];rfl
 | x :: r,s,hs=>by
  rw[jW];unfold CJ;by_cases h:x<0\/24-s<x
  · rw[pq h,pq h]
  · rw[pf h,pf h,Mz k r (s+x) (by omega)]
theorem FH(h:l.length<=6):A4 (BA l)=A4 l:=by
 unfold A4 Dv;rw[pf (by rw[Dw h];omega),pf (by omega)];unfold BA;rw[Mz _ _ _ (by omega)]
theorem O0(l:List Int):(BA l).sum=l.sum:=by
 unfold BA;rw[List.sum_append];have:∀ k:Nat,(List.replicate k (0:Int)).sum=0:=by
  intro k
  induction k with
  | zero=>rfl
  | succ k ih=>rw[mj,lO,ih];rfl
 rw[this];omega
theorem NQ(k:Nat)(a b:List Int):Pl.ordR (List.replicate k 0 ++ a) (List.replicate k 0 ++ b)=Pl.ordR a b:=by
 induction k with
 | zero=>rfl
 | succ k ih =>
  rw[mj,jW,jW];show(if(0:Int)=0 then _ else _)=_;rw[pq rfl,ih]
theorem I7{a b:List Int}(h:a.length=b.length):Pl.ordE (BA a) (BA b)=Pl.ordE a b:=by
 unfold Pl.ordE;rw[O0,O0];have c:Pl.ordR (BA a).reverse (BA b).reverse=Pl.ordR a.reverse b.reverse:=by
  unfold BA;rw[List.reverse_append,List.reverse_append,List.reverse_replicate,List.reverse_replicate,h,NQ]
 rw[c]
theorem Bp{t:Tx}{m:Pl.Tm}(h:AQ vars t=some m):AJ t.1=some m.2/\m.2≠0/\(t.2.length:Int)=vars/\(∀ e∈t.2,0<=e/\e<=1048576)/\m.1=BA t.2:=by
 unfold AQ at h;split at h
 · cases h
 · rename_i q b;split at h
   · rename_i a;cases h;exact⟨b,a.1,a.2.1,a.2.2,rfl⟩
   · cases h
theorem Bl{ts:List Tx}{l:List Pl.Tm}(h:rdP vars ts=some l):(0<=vars/\vars<=6)/\ts.length<=4096/\(∀ t r,ts=t :: r->A4 t.2=true)/\okT vars ts ts.length/\l=ts.map (fun t=>(AQ vars t).getD z6):=by
 unfold rdP at h;split at h
 · rename_i h1;unfold rdWF at h;split at h
   · rename_i h2;cases h;exact⟨⟨h2.1,h2.2.1⟩,h1.1,h1.2,h2.2.2,rfl⟩
   · cases h
 · cases h
theorem NS{ts:List Tx}{l:List Pl.Tm}(h:rdP vars ts=some l){i:Nat}(hi:i<ts.length):AQ vars (ts.getD i tm0)=some (l.getD i ([],0)):=by
 obtain⟨_,_,_,b,rfl⟩:=Bl h;have h1:=b.1 i hi;rw[je]at h1;obtain⟨m,a⟩:=h1;have h2:ts.getD i tm0=ts[i]:=by simp[hi]
 rw[h2]at a |-;rw[a];simp[hi,a]
theorem Dd{ts:List Tx}{l:List Pl.Tm}(h:rdP vars ts=some l):l.length=ts.length:=by
 obtain⟨_,_,_,a,rfl⟩:=Bl h;simp
theorem Eq{ts:List Tx}{l:List Pl.Tm}(h:rdP vars ts=some l){m:Pl.Tm}(c:m∈l):∃ t∈ts,AQ vars t=some m:=by
 obtain⟨i,b,rfl⟩:=jC.1 c;have a:i<ts.length:=by rw[<-Dd h];exact b
 have h1:=NS h a;have h2:l.getD i ([],0)=l[i]:=by simp[b]
 have h3:ts.getD i tm0=ts[i]:=by simp[a]
 rw[h2,h3]at h1;exact⟨ts[i],iF a,h1⟩
theorem GX{ts:List Tx}(h:∀ i,i+1<ts.length->0<Pl.ordE (ts.getD i tm0).2 (ts.getD (i+1) tm0).2):∀ d i,i+d+1<ts.length->0<Pl.ordE (ts.getD i tm0).2 (ts.getD (i+d+1) tm0).2
 | 0,i,hi=>h i hi
 | d+1,i,hi=>Pl.ordE_trans (GX h d i (by omega)) (h (i+d+1) (by omega))
theorem BW{ts:List Tx}{l:List Pl.Tm}(h:rdP vars ts=some l):Pl.Canon 6 l:=by
 obtain⟨w,_,_,s,_⟩:=Bl h;have n:=Dd h
 have a:∀ i,i<ts.length->(l.getD i ([],0)).1=BA (ts.getD i tm0).2/\((ts.getD i tm0).2.length:Int)=vars:=fun i b=>by
  obtain⟨_,_,h3,_,h5⟩:=Bp (NS h b);exact⟨h5,h3⟩
 refine⟨fun m e => ?_,fun m e => ?_,?_⟩
 · obtain⟨t,v,f⟩:=Eq h e;obtain⟨_,_,h3,_,h5⟩:=Bp f;rw[h5,Dw (by omega)]
 · obtain⟨t,v,f⟩:=Eq h e;exact(Bp f).2.1
 · rw[lG];intro i j b r q;have c:i<ts.length:=by omega
   have d:j<ts.length:=by omega
   have g:=a i c;have k:=a j d;have o:l.getD i ([],0)=l[i]:=by simp[b]
   have p:l.getD j ([],0)=l[j]:=by simp[r]
   rw[o]at g;rw[p]at k;rw[g.1,k.1,I7 (by omega)];have:=GX s.2 (j-i-1) i (by omega)
   rwa[show i+(j-i-1)+1=j by omega]at this
theorem Fe{ts:List Tx}{l:List Pl.Tm}(h:rdP vars ts=some l):wrT vars.toNat l=ts:=by
 have a:=Dd h;unfold wrT;apply p6
 · simpa using a
 · intro i h1 h2;have g:i<l.length:=by simpa using h1
   obtain⟨b,j,f,k,c⟩:=Bp (NS h h2);have d:l.getD i ([],0)=l[i]:=by simp[g]
   have e:ts.getD i tm0=ts[i]:=by simp[h2]
   rw[d]at b c;rw[e]at b f c;rw[List.getElem_map,<-Du b,c,show vars.toNat=(ts[i]).2.length by omega,Lb]
theorem O1{ts:List Tx}{l:List Pl.Tm}(h:rdP vars ts=some l):okW l:=by
 have a:=Dd h;obtain⟨f,h1,h2,d,_⟩:=Bl h;refine⟨by omega,fun m r e => ?_⟩;cases ts with
 | nil=>rw[e]at a;simp at a
 | cons t s =>
  have h3:=NS h (i:=0) (by simp);rw[e]at h3;obtain⟨_,_,c,_,b⟩:=Bp h3;simp only[jZ]at c b;rw[b,FH (by omega)];exact h2 t s rfl
theorem Rr{B:Int}(a:0<=B)(h:∀ e∈l,0<=e/\e<=B):∀ e∈BA l,0<=e/\e<=B:=by
 intro e he;rcases il.1 he with he|he
 · exact h e he
 · rw[(ir.1 he).2];omega
theorem Dm{ts:List Tx}{l:List Pl.Tm}(h:rdP vars ts=some l):∀ t∈l,t.1.length=6/\∀ x∈t.1,0<=x/\x<=1048576:=by
 intro m a;obtain⟨t,f,d⟩:=Eq h a;obtain⟨_,_,e,b,c⟩:=Bp d;exact⟨(BW h).len m a,by rw[c];exact Rr (by omega) b⟩
theorem Ga(n:Nat):n<10^(Lib.decDigits n).length:=by
 have:=W.decV_lt (W.digs_dec n)
 rwa[W.decV_dec]at this
theorem Lq(q:Rat):q.num.natAbs<10^(txt q).length/\q.den<10^(txt q).length:=by
 have h1:=Ga q.num.natAbs;have h2:(Lib.decDigits q.num.natAbs).length<=(Lib.itoa q.num).length:=by
  unfold Lib.itoa;split
  · simp
  · have e:q.num.toNat=q.num.natAbs:=by omega
    simp[e]
 have h0:0<(Lib.decDigits q.num.natAbs).length:=List.length_pos_iff.2 (W.dec_ne _);have b:(Lib.itoa q.num).length<=(txt q).length:=by unfold txt;rw[iD];omega
 refine⟨ph h1 (oT (by omega) (by omega)),?_⟩;by_cases a:q.den=1
 · rw[a];exact Nat.one_lt_pow (by omega) (by omega)
 · have h3:=Ga q.den;refine ph h3 (oT (by omega) ?_);unfold txt;rw[pf a];simp;omega
theorem Rs(h:(txt q).length<=k):Pl.RB (4*k) q:=by
 have h1:=Lq q;have h2:10^(txt q).length<=P2 (4*k):=by
  refine oS (oT (by omega) h) ?_;unfold P2;rw[jO];exact iV (by omega) _
 exact⟨by omega,by omega⟩
theorem NV{ts:List Tx}{l:List Pl.Tm}(h:rdP vars ts=some l)(c:∀ t∈ts,t.1.length<=k):∀ t∈l,Pl.RB (4*k) t.2:=by
 intro m a;obtain⟨t,d,b⟩:=Eq h a;have h1:=Du (Bp b).1;exact Rs (by rw[<-h1];exact c t d)
theorem RB.str{b:Nat}(h:Pl.RB b q)(a:b<=1920):Da q:=GR (Aj h.1 a) (Aj h.2 a)
theorem MA{l:List Rat}{b:Nat}(h:∀ q∈l,q.den<P2 b):Bi l<P2 (b*l.length+1):=by
 have e:∀ (l:List Rat) (a c:Nat),a<P2 c->(∀ q∈l,q.den<P2 b)->l.foldl (fun a q=>a*(q.den/Nat.gcd a q.den)) a<P2 (b*l.length+c):=by
  intro l
  induction l with
  | nil=>intro a c d _;simpa using d
  | cons q r ih =>
   intro a c d h;rw[kT,io,iE,px,jk];refine ih _ (b+c) ?_ (fun s f=>h s (by simp[f]));rw[ju b c];exact BF d (oR (gM _ _) (h q (by simp)))
 exact e l 1 1 (by unfold P2;omega) h
theorem UJ{ts:List Tx}{l p:List Pl.Tm}(h:rdP vars ts=some l)(a:∀ e,Pl.coef p e=Pl.coef l e):cnP p=l:=NJ (BW h) (fun e=>(a e).symm)
theorem I8{ts:List Tx}{l p:List Pl.Tm}(h:rdP vars ts=some l)(a:∀ e,Pl.coef p e=Pl.coef l e):resQ vars p=(vars,ts,0):=by
 unfold resQ;rw[UJ h a,pq (O1 h),Fe h]
theorem CO{l:List Pl.Tm}(h:Pl.Canon 6 l):Pl.Nrm l:=by
 refine⟨h.len,h.nz,?_⟩;unfold List.Nodup;rw[lU];refine h.desc.imp ?_;intro a b c e;rw[e,Pl.ordE_self]at c;omega
theorem Rt{l:List Pl.Tm}(h:Pl.Nrm l):Pl.Nrm (BH q l):=by
 unfold BH;split
 · exact Pl.Nrm.nil
 · rename_i c;refine⟨fun t b => ?_,fun t b => ?_,?_⟩
   · obtain⟨s,a,rfl⟩:=gT.1 b;exact h.len s a
   · obtain⟨s,a,rfl⟩:=gT.1 b;have h0:=h.nz s a;intro h1;rcases oJ.1 h1 with h2|h2
     · exact h0 h2
     · exact c h2
   · rw[lJ];exact h.nodup
theorem Ec.len{l:List Rat}(h:Ec w a n c l):l.length=n:=by
 obtain⟨_,_,h,_⟩:=h;exact h
theorem Fh{xs:List (List UInt8)}{pt:List Rat}(h:rdAll xs=some pt):pt.length=xs.length:=by
 unfold rdAll at h;split at h
 · cases h;simp
 · cases h
def Cl(w:World)(s:List UInt8)(err:Int)(e:Ending)(w':World):Prop:=e = .returned (.tuple #[.string ⟨s.toArray⟩,.int .i64 err])/\Ext w w'
def Ru(w:World)(va:Int)(m:Nat)(ol:Option (List Pl.Tm))(op:Option (List Rat))(e:Ending)(w':World):Prop :=
 (∃ l pt,ol=some l/\op=some pt/\(m:Int)=va/\Cl w (txt (Pl.evq pt l)) 0 e w') \/
 ((ol.isSome && op.isSome)=true/\(m:Int)≠va/\Cl w [] 4 e w')\/((ol.isSome && op.isSome)=false/\Cl w [] 1 e w')
theorem Ky{ts:List Tx}{xs:List (List UInt8)}(M:AV w)(Y:Be w a n c ts)(N:Db w b m d xs)(sa:∀ t∈ts,t.1.length<=570)(sb:∀ t∈xs,t.length<=570)(hm:m<=1000000)
 (G:∀ l f,rdP va ts=some l->rdAll xs=some f->(m:Int)=va->EvB l f/\Da (Pl.evq f l)) :
 Calls prog 57 #[.agg #[.int .i64 va,.slice a n c],.slice b m d] w (Ru w va m (rdP va ts) (rdAll xs)):=by
 have B:=fun(W:World) (E:Ext w W)=>qh (Dh (vars:=va) (M.ext E) (Y.ext E) sa);have A:=fun(W:World) (E:Ext w W)=>qh (My (M.ext E) (N.ext E) sb hm);have K:xs.length=m:=by obtain⟨_,_,h,_⟩:=N;exact h
 have L:Hid (∀ l f,rdP va ts=some l->rdAll xs=some f->l.length<=4096/\0<=va/\va<=6/\f.length=m):=qh (fun l f h1 h2=>⟨by rw[Dd h1];exact(Bl h1).2.1,(Bl h1).1.1,(Bl h1).1.2,by rw[Fh h2,K]⟩);have j:=qh G;obtain⟨ol,H⟩:∃ o,rdP va ts=o:=⟨_,rfl⟩;obtain⟨op,I⟩:∃ o,rdAll xs=o:=⟨_,rfl⟩;rw[H]at B L j |-;rw[I]at A L j |-;clear H I sa sb Y N G K
 go_enter func57,ntmps57
 go_upto_region 1 with(fail)
 refine AM ?_;intro w0 x v U;have r:=v.c 0 rfl;have V:=v.c 1 rfl;clear v U
 go_wp2_with fail
 refine(B _ x).out.mono ?_;rintro e w1 ⟨a1,n1,c1,rfl,y,F⟩;have g:=x.trans y;have r:=y.cell r;clear x y B V
 go_wp2_with fail
 refine(A _ g).out.mono ?_;rintro e w2 ⟨a2,n2,c2,rfl,k,q⟩;have i:=g.trans k;have p:=F.ext k;have r:=k.cell r;clear g k A F;cases ol with
 | none =>
  simp only[jQ];go_wp2
  go_ret2
  exact Or.inr (Or.inr ⟨rfl,rfl,i⟩)
 | some l =>
  cases op with
  | none =>
   simp only[jQ,jD];go_wp2
   go_ret2
   exact Or.inr (Or.inr ⟨rfl,rfl,i⟩)
  | some f =>
   simp only[jD,pg]at p q |-;have N:=L.out l f rfl rfl;by_cases C:(m:Int)=va
   · have T:((m:Int) != va)=false:=by simp[C]
     have z:=j.out l f rfl rfl C;have a0:f.length=n2:=q.len;have Z:l.length=n1:=p.len;have D:=qh (Qd (M.ext i) p q (by omega) (by omega) z.1);have P:=qh z.2;have Q:=qh C;clear z C j L p q
     go_wp2_with fail
     refine D.out.mono ?_;rintro e w3 ⟨X,rfl,R,J⟩;have s:=i.trans R;have O:=qh (P.out w3 (.agg X.toArray) (M.ext s) ⟨X,rfl,J⟩);clear D J
     go_wp2_with fail
     refine O.out.mono ?_;rintro e w4 ⟨rfl,S⟩;go_wp2
     go_ret2
     exact Or.inl ⟨l,f,rfl,rfl,Q.out,rfl,s.trans S⟩
   · have T:((m:Int) != va)=true:=by simpa using C
     have Q:=qh C;clear C;go_wp2
     go_ret2
     exact Or.inr (Or.inl ⟨rfl,Q.out,rfl,i⟩)
theorem MB:∀ (l:List Int) (s:Int),s<=24->0<=s->0<=CJ s l->CJ s l=s+l.sum/\s+l.sum<=24/\∀ x∈l,0<=x
 | [],s,h1,h2,_=>⟨by simp[CJ],by simpa using h1,by simp⟩
 | x :: r,s,h1,h2,h=>by
  unfold CJ at h |-;by_cases hc:x<0\/24-s<x
  · rw[pq hc]at h;omega
  · rw[pf hc]at h |-;obtain⟨g1,g2,g3⟩:=MB r (s+x) (by omega) (by omega) h;refine⟨by rw[g1,lO];omega,by rw[lO];omega,fun y a => ?_⟩;rcases gV.1 a with rfl|a
    · omega
    · exact g3 y a
theorem GY:∀ {l:List Int},(∀ x∈l,0<=x)->0<=l.sum/\∀ x∈l,x<=l.sum
 | [],_=>by simp
 | y :: r,h=>by
  obtain⟨h1,h2⟩:=GY (l:=r) (fun x a=>h x (by simp[a]));have h3:=h y (by simp);rw[lO];refine⟨by omega,fun x a => ?_⟩;rcases gV.1 a with rfl|a
  · omega
  · have:=h2 x a;omega
theorem Kz:∀ (l:List Int) (s:Int),0<=s->(∀ x∈l,0<=x)->s+l.sum<=24->CJ s l=s+l.sum
 | [],s,_,_,_=>by simp[CJ]
 | x :: r,s,h1,h2,h3=>by
  have hr:=GY (l:=r) (fun y a=>h2 y (by simp[a]));have b:=h2 x (by simp);rw[lO]at h3 |-;unfold CJ;rw[pf (by omega),Kz r (s+x) (by omega) (fun y a=>h2 y (by simp[a])) (by omega)];omega
theorem FJ:A4 l=true<->l.length<=6/\(∀ x∈l,0<=x)/\l.sum<=24:=by
 unfold A4 Dv;rw[decide_eq_true_iff];constructor
 · intro h;split at h
   · omega
   · obtain⟨h1,h2,h3⟩:=MB l 0 (by omega) (by omega) h;exact⟨by omega,h3,by omega⟩
 · rintro⟨h1,h2,h3⟩;rw[pf (by omega),Kz l 0 (by omega) h2 (by omega)];have:=(GY h2).1;omega
theorem Rv{a b:List Int}(h:0<Pl.ordE a b):b.sum<=a.sum:=by
 unfold Pl.ordE at h;split at h
 · omega
 · have:=Pl.cmpI_pos.1 h;omega
def InV(vars:Nat)(e:List Int):Prop:=e.length=6/\(∀ x∈e,0<=x)/\BA (e.take vars)=e
theorem InV.pad{vars:Nat}(h:l.length=vars)(c:vars<=6)(b:∀ x∈l,0<=x):InV vars (BA l):=by
 refine⟨Dw (by omega),fun x a => ?_,by rw[<-h,Lb]⟩;rcases il.1 a with a|a
 · exact b x a
 · rw[(ir.1 a).2];omega
theorem KA{t:Pl.Tm}{r:List Pl.Tm}(h:Pl.Canon 6 (t :: r)):∀ s∈t :: r,s.1.sum<=t.1.sum:=by
 intro s a;rcases gV.1 a with rfl|a
 · omega
 · exact Rv ((iC.1 h.desc).1 s a)
theorem MC{vars:Nat}{t:Pl.Tm}(d:vars<=6)(h:InV vars t.1)(b:t.2≠0)(c:t.1.sum<=24):AQ vars (txt t.2,t.1.take vars)=some t:=by
 unfold AQ;simp only[Di];have a:(t.1.take vars).length=vars:=by rw[gO,h.1];omega
 rw[pq ⟨b,by rw[a],fun e he=>by
  have h1:=iZ he;have h2:=GY h.2.1;have:=h.2.1 e h1;have:=h2.2 e h1
  omega⟩,h.2.2]
theorem I9{vars:Nat}{l:List Pl.Tm}(w:vars<=6)(j:Pl.Canon 6 l)(k:okW l)(b:∀ t∈l,InV vars t.1):rdP vars (wrT vars l)=some l:=by
 have f:∀ t∈l,t.1.sum<=24:=by
  cases l with
  | nil=>simp
  | cons t r =>
   intro s v;have h1:=KA j s v;have h2:=(FJ.1 (k.2 t r rfl)).2.2;omega
 have d:∀ t∈l,AQ vars (txt t.2,t.1.take vars)=some t:=fun t g=>MC w (b t g) (j.nz t g) (f t g);have c:(wrT vars l).length=l.length:=by simp[wrT]
 have a:∀ i,i<l.length->(wrT vars l).getD i tm0=(txt (l.getD i ([],0)).2,(l.getD i ([],0)).1.take vars)/\l.getD i ([],0)∈l:=fun i b=>by
  refine⟨?_,by simp[b]⟩;simp[wrT,b]
 unfold rdP;rw[pq]
 · unfold rdWF;rw[pq]
   · congr 1;unfold wrT;rw[lJ]
     conv=>rhs;rw[<-List.map_id l]
     apply mo;intro t g;simp only[Function.comp_apply,d t g,pg,id_eq]
   · refine⟨by omega,by omega,fun i h => ?_,fun i h => ?_⟩
     · obtain⟨h1,h2⟩:=a i (by omega);rw[h1,d _ h2];rfl
     · obtain⟨h1,h2⟩:=a i (by omega);obtain⟨h3,h4⟩:=a (i+1) (by omega);rw[h1,h3];have p:=b _ h2;have q:=b _ h4;have n:((l.getD i ([],0)).1.take vars).length=((l.getD (i+1) ([],0)).1.take vars).length:=by rw[gO,gO,p.1,q.1]
       rw[<-I7 n,p.2.2,q.2.2];have hp:=lG.1 j.desc i (i+1) (by omega) (by omega) (by omega);simpa[show i<l.length by omega,show i+1<l.length by omega]using hp
 · refine⟨by rw[c];exact k.1,fun t r e => ?_⟩;cases l with
   | nil=>simp[wrT]at e
   | cons m s =>
    have o:(txt m.2,m.1.take vars) :: wrT vars s=t :: r:=e;simp only[kX]at o;rw[<-o.1];have h1:=b m (by simp);show A4 (m.1.take vars)=true;rw[<-FH (by rw[gO];omega),h1.2.2];exact k.2 m s rfl
theorem O2:∀ (l:List (List Int)),∃ k:List (List Int),k.Nodup/\∀ e,e∈k<->e∈l
 | []=>⟨[],List.nodup_nil,fun _=>Iff.rfl⟩
 | x :: r=>by
  obtain⟨k,h1,h2⟩:=O2 r;by_cases h:x∈k
  · refine⟨k,h1,fun e => ?_⟩;rw[h2,gV];constructor
    · exact Or.inr
    · rintro(rfl|h3)
      · exact(h2 _).1 h
      · exact h3
  · exact⟨x :: k,kS.2 ⟨h,h1⟩,fun e=>by rw[gV,gV,h2]⟩
theorem KB(F:List Int->Rat):∀ (k:List (List Int)) (_:k.Nodup) (e:List Int),Pl.coef (k.map (fun x=>(x,F x))) e=if e∈k then F e else 0
 | [],_,e=>by simp[Pl.coef]
 | x :: r,h,e=>by
  have h1:=kS.1 h;have b:=KB F r h1.2 e;rw[iz];unfold Pl.coef;rw[b];by_cases a:x=e
  · subst a;rw[pq rfl,pf h1.1,pq (by simp)];exact Rat.add_zero _
  · rw[pf a];by_cases he:e∈r
    · rw[pq he,pq (by simp[he])];exact Rat.zero_add _
    · rw[pf he,pf (by simp[he,Ne.symm a])];exact Rat.zero_add _
theorem UK{p:List Pl.Tm}(h6:∀ t∈p,t.1.length=6):∃ a,Pl.Nrm a/\∀ e,Pl.coef a e=Pl.coef p e:=by
 obtain⟨k,h1,h2⟩:=O2 (p.map (·.1));refine⟨(k.map (fun x=>(x,Pl.coef p x))).filter (fun t=>decide (t.2≠0)),Pl.Nrm.filter ?_ ?_,fun e => ?_⟩
 · intro t b;obtain⟨x,d,rfl⟩:=gT.1 b;obtain⟨s,c,rfl⟩:=gT.1 ((h2 x).1 d);exact h6 s c
 · rw[lJ];have:((fun t:Pl.Tm=>t.1) ∘ fun x=>(x,Pl.coef p x))=id:=rfl;rw[this,List.map_id];exact h1
 · rw[Pl.coef_nz,KB _ k h1];by_cases he:e∈k
   · rw[pq he]
   · rw[pf he];refine(Pl.coef_absent fun t b h=>he ((h2 e).2 ?_)).symm;rw[<-h];exact jl b
theorem Dn{p:List Pl.Tm}(h6:∀ t∈p,t.1.length=6):Pl.Canon 6 (cnP p)/\∀ e,Pl.coef (cnP p) e=Pl.coef p e:=by
 obtain⟨b,h1,h2⟩:=UK h6;obtain⟨l,h3,h4⟩:=GU b h1.len;have a:=h1.perm h3.symm;have c:Pl.Canon 6 l:=Pl.canon_of_sorted a.len a.nz h4 a.nodup;have e:cnP p=l:=Eo h1 h2 h3 h4;rw[e];exact⟨c,fun e=>by rw[Pl.coef_perm h3,h2]⟩
theorem Lr{p:List Pl.Tm}(h6:∀ t∈p,t.1.length=6){t:Pl.Tm}(a:t∈cnP p):∃ s∈p,s.1=t.1:=by
 obtain⟨h1,h2⟩:=Dn h6;have h3:Pl.coef p t.1≠0:=by
  rw[<-h2,Pl.coef_mem (CO h1).nodup a];exact h1.nz t a
 exact Pl.coef_present h3
theorem Ls{p:List Pl.Tm}{vars:Nat}(hi:∀ t∈p,InV vars t.1):∀ t∈cnP p,InV vars t.1:=fun t a=>by
 obtain⟨s,b,e⟩:=Lr (fun t a=>(hi t a).1) a;rw[<-e];exact hi s b
theorem Qe{p:List Pl.Tm}{vars:Nat}(c:vars<=6)(hi:∀ t∈p,InV vars t.1):(okW (cnP p)/\resQ (vars:Int) p=((vars:Int),wrT vars (cnP p),0)/\rdP vars (wrT vars (cnP p))=some (cnP p))\/(¬ okW (cnP p)/\resQ (vars:Int) p=(0,[],2)):=by
 by_cases a:okW (cnP p)
 · refine Or.inl ⟨a,?_,I9 c (Dn (fun t b=>(hi t b).1)).1 a (Ls hi)⟩;unfold resQ;rw[pq a,jf]
 · refine Or.inr ⟨a,?_⟩;unfold resQ;rw[pf a]
theorem Ta{vars:Nat}{ts:List Tx}{l:List Pl.Tm}(h:rdP vars ts=some l):∀ t∈l,InV vars t.1:=by
 intro m c;obtain⟨t,g,d⟩:=Eq h c;obtain⟨_,_,f,a,b⟩:=Bp d;rw[b];exact InV.pad (by omega) (by have:=(Bl h).1;omega) (fun x e=>(a x e).1)
theorem Rw{p:List Pl.Tm}{b:Nat}(d:1<=b)(h:∀ t∈p,Pl.RB b t.2)(g:p.length*(b+1)+1<=2400)(f:DD p):Mv p:=by
 refine⟨fun a s e x => ?_,fun t c=>(h t c).mono ?_,f⟩
 · have h1:∀ t∈a,Pl.RB b t.2:=fun t c=>h t (by rw[<-e];simp[c]);refine(Pl.RB.coef d x h1).mono (oS ?_ g);have:a.length<=p.length:=by rw[<-e];simp
   have:=oO (b+1) this;omega
 · have:1<=p.length:=mU c;have:=oO (b+1) this;omega
theorem O3{p X:List Pl.Tm}(d:∀ e,Pl.coef p e=Pl.coef X e)(b:Pl.Canon 6 X)(c:∀ t∈X,Da t.2/\∀ x∈t.1,0<=x/\x<=1099511627776)(f:p.length<=1000000):DD p:=by
 refine⟨fun e he => ?_,f⟩;rw[d e]at he |-;obtain⟨t,a,rfl⟩:=Pl.coef_present he;rw[Pl.coef_mem (CO b).nodup a];exact⟨(c t a).1,b.len t a,(c t a).2⟩
theorem FK{b:Nat}(h1:q.num.natAbs<8)(h2:q.den<8)(c:3<=b):Pl.RB b q:=by
 have e:P2 3=8:=by unfold P2;decide
 exact⟨Aj (a:=3) (by omega) c,Aj (a:=3) (by omega) c⟩
namespace Aw
def s1:List UInt8:=[49]
def s12:List UInt8:=[49,47,50]
def UL:List UInt8:=[45,49,47,50]
def s7:List UInt8:=[55]
def s14:List UInt8:=[49,47,52]
theorem Tb:Lib.decDigits 1=[49]:=by rw[Lib.decDigits];rfl
theorem Vy:Lib.decDigits 2=[50]:=by rw[Lib.decDigits];rfl
theorem Wg:Lib.decDigits 4=[52]:=by rw[Lib.decDigits];rfl
theorem Wh:Lib.decDigits 7=[55]:=by rw[Lib.decDigits];rfl
theorem Lt:txt 1=s1:=by
 unfold txt Lib.itoa;rw[pf (by decide),pq (by decide)];show Lib.decDigits 1 ++ []=_;rw[Tb];rfl
theorem Vz:txt 7=s7:=by
 unfold txt Lib.itoa;rw[pf (by decide),pq (by decide)];show Lib.decDigits 7 ++ []=_;rw[Wh];rfl
theorem UM:txt (mkRat 1 2)=s12:=by
 unfold txt Lib.itoa;rw[pf (by decide),pf (by decide)];show Lib.decDigits 1 ++ 47 :: Lib.decDigits 2=_;rw[Tb,Vy];rfl
theorem Tc:txt (mkRat (-1) 2)=UL:=by
 unfold txt Lib.itoa;rw[pq (by decide),pf (by decide)];show(45 :: Lib.decDigits 1) ++ 47 :: Lib.decDigits 2=_;rw[Tb,Vy];rfl
theorem txt_14:txt (mkRat 1 4)=s14:=by
 unfold txt Lib.itoa;rw[pf (by decide),pf (by decide)];show Lib.decDigits 1 ++ 47 :: Lib.decDigits 4=_;rw[Tb,Wg];rfl
theorem VA:AJ s1=some 1:=by rw[<-Lt,Di]
theorem VB:AJ s7=some 7:=by rw[<-Vz,Di]
theorem O4:AJ s12=some (mkRat 1 2):=by rw[<-UM,Di]
theorem Rx:AJ UL=some (mkRat (-1) 2):=by rw[<-Tc,Di]
def e0:List Int:=[1,0,0,0,0,0]
def e00:List Int:=[2,0,0,0,0,0]
def e01:List Int:=[1,1,0,0,0,0]
def X1:List Pl.Tm:=[(e0,1)]
def X2:List Pl.Tm:=[(e00,1)]
def T1:List Tx:=[(s1,[1,0])]
def T2:List Tx:=[(s1,[2,0])]
def M:List Tx:=[(s12,[1,1]),(s1,[1,0]),(UL,[1,1])]
theorem Lu:Pl.Canon 6 X1:=⟨by simp[X1,e0],by simp[X1],mP _ _⟩
theorem Ry:Pl.Canon 6 X2:=⟨by simp[X2,e00],by simp[X2],mP _ _⟩
theorem wr1:wrT 2 X1=T1:=by unfold wrT X1 T1;simp[Lt,e0]
theorem wr2:wrT 2 X2=T2:=by unfold wrT X2 T2;simp[Lt,e00]
theorem rd1:rdP 2 T1=some X1:=by
 rw[<-wr1];refine I9 (vars:=2) (by omega) Lu ⟨by decide,fun t r e => ?_⟩ (fun t a => ?_)
 · simp only[X1,kX]at e;rw[<-e.1];decide
 · simp only[X1,oZ]at a;subst a;exact⟨rfl,by decide,by decide⟩
theorem rd2:rdP 2 T2=some X2:=by
 rw[<-wr2];refine I9 (vars:=2) (by omega) Ry ⟨by decide,fun t r e => ?_⟩ (fun t a => ?_)
 · simp only[X2,kX]at e;rw[<-e.1];decide
 · simp only[X2,oZ]at a;subst a;exact⟨rfl,by decide,by decide⟩
theorem O5:M.map DK=[(e01,mkRat 1 2),(e0,1),(e01,mkRat (-1) 2)]:=by
 simp only[M,DK,iz,jg,VA,O4,Rx,pg];rfl
theorem O6(e:List Int):Pl.coef (M.map DK) e=Pl.coef X1 e:=by
 rw[O5];by_cases h1:e01=e
 · subst h1;have:e0≠e01:=by decide
   have a:mkRat (-1) 2 = -(mkRat 1 2):=by decide
   simp only[Pl.coef,X1,kJ,pf this,a]
   grind
 · by_cases h2:e0=e
   · subst h2;simp only[Pl.coef,X1,kJ,pf h1]
     grind
   · simp only[Pl.coef,X1,pf h1,pf h2]
     grind
theorem mk_ok:∀ t∈M,F8 2 t:=by
 intro t a;simp only[M,gV,jN,me]at a;rcases a with rfl|rfl|rfl
 · exact⟨by rw[O4];rfl,rfl,by decide⟩
 · exact⟨by rw[VA];rfl,rfl,by decide⟩
 · exact⟨by rw[Rx];rfl,rfl,by decide⟩
theorem UN:∀ t∈X1,Da t.2/\∀ x∈t.1,0<=x/\x<=1099511627776:=by
 intro t a;simp only[X1,oZ]at a;subst a;exact⟨DC (by decide) (by decide),by decide⟩
theorem Wi:∀ t∈X2,Da t.2/\∀ x∈t.1,0<=x/\x<=1099511627776:=by
 intro t a;simp only[X2,oZ]at a;subst a;exact⟨DC (by decide) (by decide),by decide⟩
theorem mk_sum:Mv (M.map DK):=by
 refine Rw (b:=3) (by omega) ?_ (by rw[O5];decide) (O3 O6 Lu UN (by rw[O5];decide));rw[O5];intro t a;simp only[gV,jN,me]at a;rcases a with rfl|rfl|rfl
 · exact FK (by decide) (by decide) (by omega)
 · exact FK (by decide) (by decide) (by omega)
 · exact FK (by decide) (by decide) (by omega)
theorem mk_res:resQ 2 (M.map DK)=(2,T1,0):=I8 rd1 O6
theorem var_res:resQ 2 [(Hs 0,1)]=(2,T1,0):=I8 rd1 (fun _=>rfl)
theorem MD(e:List Int):Pl.coef (Pl.prodT X1 X1) e=Pl.coef X2 e:=by
 have:Pl.prodT X1 X1=X2:=by
  show [(Pl.plE e0 e0,(1:Rat)*1)]=_;rw[kO];rfl
 rw[this]
theorem rb1:∀ t∈X1,Pl.RB 1000 t.2:=by
 intro t a;simp only[X1,oZ]at a;subst a;exact FK (by decide) (by decide) (by omega)
theorem mul_ok:WP X1 X1 :=
 WP.of rb1 rb1 (fun t b=>⟨Lu.len t b,(UN t b).2⟩) (fun t b=>⟨Lu.len t b,(UN t b).2⟩) (Aj (a:=1) (by decide) (by omega)) (Aj (a:=1) (by decide) (by omega)) (by decide) (by decide) (O3 MD Ry Wi (by decide))
theorem mul_res:resQ 2 (Pl.prodT X1 X1)=(2,T2,0):=I8 rd2 MD
theorem mul_deg:¬ (X1≠[]/\X1≠[]/\24<DJ X1+DJ X1):=by decide
def Pt:List Rat:=[mkRat 1 2,7]
theorem pt_rd:rdAll [s12,s7]=some Pt:=by
 unfold rdAll;rw[pq]
 · simp only[iz,jg,O4,VB,pg];rfl
 · intro i a;have:i=0\/i=1:=by simp at a;omega
   rcases this with rfl|rfl
   · show(AJ s12).isSome=true;rw[O4];rfl
   · show(AJ s7).isSome=true;rw[VB];rfl
theorem ev_val:Pl.evq Pt X2=mkRat 1 4:=by
 show(1:Rat)*((1*(mkRat 1 2)^2)*(7:Rat)^0)+0=_;have h:mkRat 1 2*mkRat 1 2=mkRat 1 4:=by rw[Rat.mkRat_mul_mkRat];rfl
 rw[lX,lm,lm,lX,nZ,nZ,nZ,kO,Rat.add_zero,h]
theorem ev_str:Da (Pl.evq Pt X2):=by rw[ev_val];exact DC (by decide) (by decide)
theorem DE(h:x<1000){b:Nat}(c:10<=b):x<P2 b:=Aj (a:=10) (by unfold P2;omega) c
theorem ev_ok:EvB X2 Pt where
 co:=by
  intro t b;simp only[X2,oZ]at b;subst b;exact FK (by decide) (by decide) (by omega)
 po:=by
  intro q i;simp only[Pt,gV,jN,me]at i;rcases i with rfl|rfl
  · exact FK (by decide) (by decide) (by omega)
  · exact FK (by decide) (by decide) (by omega)
 ex:=by decide
 lc:=by
  intro k;refine oR (F7 k) (DE (by decide) (by omega))
 pn:=by
  intro v f e he;have g:v<2:=f;have:v=0\/v=1:=by omega
  rcases this with rfl|rfl
  · have a:e<=2:=he;have:e=0\/e=1\/e=2:=by omega
    rcases this with rfl|rfl|rfl <;> exact DE (by decide) (by omega)
  · have a:e<=0:=he;have:e=0:=by omega
    subst this;exact DE (by decide) (by omega)
 pd:=by
  intro v f e he;have g:v<2:=f;have:v=0\/v=1:=by omega
  rcases this with rfl|rfl
  · have a:e<=2:=he;have:e=0\/e=1\/e=2:=by omega
    rcases this with rfl|rfl|rfl <;> exact DE (by decide) (by omega)
  · have a:e<=0:=he;have:e=0:=by omega
    subst this;exact DE (by decide) (by omega)
 ze:=by
  intro t b k c;simp only[X2,oZ]at b;subst b;have d:k<=2:=c;have:k=0\/k=1\/k=2:=by omega
  rcases this with rfl|rfl|rfl <;> exact DE (by decide) (by omega)
 de:=by
  intro k c;have d:k<=2:=c;have:k=0\/k=1\/k=2:=by omega
  rcases this with rfl|rfl|rfl <;> exact DE (by decide) (by omega)
 su:=DE (by decide) (by omega)
theorem deg_val:degP 2 T2=2:=by
 unfold degP;rw[rd2,pq ⟨rfl,by decide⟩];decide
end Aw
theorem Lv(a:cs.size=n)(h6:n<=1000000)(h:cs.toList=xs.map (Value.int .i64)):SlI (w.alloc (.cells cs 3)) (some ⟨w.heap.size,0,none⟩) n n xs:=by
 have:=(Ay w 0 3 cs n a (oY _) h6).sl;rw[h]at this;exact this
theorem Qf{ts:List Tx}(f:∀ r∈rows,r.length=2)(d:rows.length=n)(e:ts.length=n)(g:n<=1000)(h:∀ i,i<n->Q2 w (rows.getD i []) (ts.getD i tm0)) :
 Be (w.alloc (.cells rows.flatten.toArray 26)) (some ⟨w.heap.size,0,none⟩) n n ts:=by
 have a:=Arr.new w 26 rows.flatten;have b:=Arr.ownK (base:=0) a f d (oY _) (by unfold maxLen;omega);exact⟨rows,b.slk (by omega),e,fun i c=>(h i c).ext ((Ext.refl w).alloc _)⟩
theorem Rz{l:List (List UInt8)}(b:cs.size=n)(h6:n<=1000000)(a:l.length=n)(h:∀ i,i<n->∃ s,cs.toList.getD i undef = .string s/\Al s=l.getD i []) :
 Db (w.alloc (.cells cs 9)) (some ⟨w.heap.size,0,none⟩) n n l:=⟨cs.toList,(Ay w 0 9 cs n b (oY _) h6).sl,a,h⟩
def awR(s:Nat):List (List Value):=[[.string ⟨#[49,47,50]⟩,.slice (some ⟨s,0,none⟩) 2 2],[.string ⟨#[49]⟩,.slice (some ⟨s+1,0,none⟩) 2 2],[.string ⟨#[45,49,47,50]⟩,.slice (some ⟨s+1+1,0,none⟩) 2 2]]
def RA(w:World):World:=(((w.alloc (.cells #[.int .i64 1,.int .i64 1] 3)).alloc (.cells #[.int .i64 1,.int .i64 0] 3)).alloc (.cells #[.int .i64 1,.int .i64 1] 3))
def awW(w:World):World:=(RA w).alloc (.cells #[.string ⟨#[49,47,50]⟩,.slice (some ⟨w.heap.size,0,none⟩) 2 2,.string ⟨#[49]⟩,.slice (some ⟨w.heap.size+1,0,none⟩) 2 2,.string ⟨#[45,49,47,50]⟩,.slice (some ⟨w.heap.size+1+1,0,none⟩) 2 2] 26)
theorem Do(w:World)(o:Obj):(w.alloc o).heap.size=w.heap.size+1:=by simp
theorem O7(w:World):Ext w (awW w):=((((Ext.refl w).alloc _).alloc _).alloc _).alloc _
theorem awM(w:World):Be (awW w) (some ⟨w.heap.size+1+1+1,0,none⟩) 3 3 Aw.M:=by
 have c:=Lv (w:=w) (cs:=#[.int .i64 1,.int .i64 1]) (xs:=[1,1]) (n:=2) rfl (by omega) rfl;have d:=Lv (w:=w.alloc (.cells #[.int .i64 1,.int .i64 1] 3)) (cs:=#[.int .i64 1,.int .i64 0]) (xs:=[1,0]) (n:=2) rfl (by omega) rfl;have a:=Lv (w:=(w.alloc (.cells #[.int .i64 1,.int .i64 1] 3)).alloc (.cells #[.int .i64 1,.int .i64 0] 3)) (cs:=#[.int .i64 1,.int .i64 1]) (xs:=[1,1]) (n:=2) rfl (by omega) rfl;have e:=(c.alloc (.cells #[.int .i64 1,.int .i64 0] 3)).alloc (.cells #[.int .i64 1,.int .i64 1] 3);have b:=d.alloc (.cells #[.int .i64 1,.int .i64 1] 3)
 rw[Do]at b a;rw[Do]at a;have f:(RA w).heap.size=w.heap.size+1+1+1:=by unfold RA;rw[Do,Do,Do]
 have h:=Qf (w:=RA w) (rows:=awR w.heap.size) (ts:=Aw.M) (n:=3) (by simp[awR]) rfl rfl (by omega) (fun i g=>by
  have h3:i=0\/i=1\/i=2:=by omega
  rcases h3 with rfl|rfl|rfl
  · exact⟨_,_,_,_,rfl,rfl,e⟩
  · exact⟨_,_,_,_,rfl,rfl,b⟩
  · exact⟨_,_,_,_,rfl,rfl,a⟩)
 rw[f]at h;exact h
theorem Td(a:AV w):Calls Tryz.prog 12 #[.int .i64 2,.slice (some ⟨w.heap.size+1+1+1,0,none⟩) 3 3] (awW w) (EH (awW w) 2 Aw.T1 0):=by
 refine(Qc (vars:=2) (a.ext (O7 w)) (awM w) (by decide) (by omega) (fun _ _ _=>Aw.mk_sum)).mono ?_;intro e b h;rcases h with⟨h,_⟩|⟨_,_,h,_⟩|⟨_,_,_,h⟩
 · exact absurd ⟨by omega,by omega⟩ h
 · exact absurd Aw.mk_ok h
 · rw[Aw.mk_res]at h;exact h
theorem UO(b:AV w):Calls Tryz.prog 16 #[.int .i64 2,.int .i64 0] w (EH w 2 Aw.T1 0):=by
 refine(Rm (vars:=2) (i:=0) b).mono ?_;intro e c h;rcases h with⟨_,_,_,_,h⟩|⟨h,_⟩
 · have a:DP w (resQ 2 [(Hs 0,1)]) e c:=h;rw[Aw.var_res]at a;exact a
 · exact absurd ⟨by omega,by omega,by omega,by omega⟩ h
theorem UP(b:AV w)(h:Be w a n c Aw.T1):Calls Tryz.prog 20 #[.agg #[.int .i64 2,.slice a n c],.agg #[.int .i64 2,.slice a n c]] w (EH w 2 Aw.T2 0):=by
 have h6:∀ t∈Aw.T1,t.1.length<=570:=by decide
 refine(Rk (va:=2) (vb:=2) b h h h6 h6 (fun d f h1 h2 _=>by
  rw[Aw.rd1]at h1 h2;cases h1;cases h2
  exact Aw.mul_ok)).mono ?_
 intro e g h;rw[Aw.rd1]at h;rcases h with⟨d,f,h1,h2,_,h⟩|⟨_,h,_⟩|⟨h,_⟩
 · cases h1;cases h2;rcases h with⟨_,h⟩|⟨h,_⟩
   · rw[Aw.mul_res]at h;exact h
   · exact absurd h Aw.mul_deg
 · exact absurd rfl h
 · simp at h
theorem Te(d:AV w)(h:Be w a n c Aw.T2)(f:Db w b 2 2 [Aw.s12,Aw.s7]):Calls Tryz.prog 57 #[.agg #[.int .i64 2,.slice a n c],.slice b 2 2] w (Cl w Aw.s14 0):=by
 refine(Ky (va:=2) d h f (by decide) (by decide) (by omega) (fun l g h1 h2 _=>by
  rw[Aw.rd2]at h1;rw[Aw.pt_rd]at h2;cases h1;cases h2
  exact⟨Aw.ev_ok,Aw.ev_str⟩)).mono ?_
 intro e i h;rw[Aw.rd2,Aw.pt_rd]at h;rcases h with⟨l,g,h1,h2,_,h⟩|⟨_,h,_⟩|⟨h,_⟩
 · cases h1;cases h2;rw[Aw.ev_val,Aw.txt_14]at h;exact h
 · exact absurd rfl h
 · simp at h
theorem RC(g:AV w)(i:Be w a n c Aw.T1)(j:Be w b m d Aw.T1):Calls Tryz.prog 31 #[.agg #[.int .i64 2,.slice a n c],.agg #[.int .i64 2,.slice b m d]] w fun e f=>e = .returned (.bool true)/\Ext w f:=by
 refine(NN (v1:=2) (v2:=2) g i j (by decide)).mono ?_;rintro e f ⟨rfl,h⟩;refine⟨?_,h⟩;rw[Aw.rd1];simp
theorem Qg(d:AV w)(h:Be w a n c Aw.T2):Calls Tryz.prog 33 #[.agg #[.int .i64 2,.slice a n c]] w fun e b=>e = .returned (.int .i64 2)/\Ext w b:=by
 refine(Mx (vars:=2) d h (by decide)).mono ?_;rintro e b ⟨rfl,h⟩;rw[Aw.deg_val];exact⟨rfl,h⟩
theorem Qh(F:AV w):Calls Tryz.prog 11 #[] w fun e w'=>e = .returned (.bool true)/\Ext w w':=by
 have E:=qh (Td F);have y:=O7 w;unfold awW RA at E y
 go_enter Tryz.func11,Tryz.ntmps11
 go_wp2_with fail
 refine E.out.mono ?_;rintro e w1 ⟨I,n1,L,rfl,O,Y⟩;have p:=y.trans O;have f:C2 2 I n1 L = .agg #[.int .i64 2,.slice I n1 L]:=rfl;rw[f];have o:(As 2 I n1 L).toArray=#[.int .i64 2,.slice I n1 L]:=rfl;have r:=Arr.new w1 28 (As 0 none 0 0);have S:=Y.sl;clear y O E Y
 go_upto_region 2 with(refine Aa (vs:=As 2 I n1 L) rfl rfl rfl rfl rfl An r rfl (AB _ _ _ _) ?_;intro w2 t a8)
 have z:Ext w1 w2:=((Ext.refl w1).alloc _).grownR a8 (lrf _);have k:=p.trans z;have T:=S.ext z;have G:=t.c 0 rfl;have H:=t.c 1 rfl;clear r a8 o f t S z p;generalize w1.heap.size=Q1 at *
 have ad:=qh (UO (F.ext k))
 go_wp2_with fail
 refine ad.out.mono ?_;rintro e w3 ⟨J,n3,M,rfl,P,Z⟩;have f:C2 2 J n3 M = .agg #[.int .i64 2,.slice J n3 M]:=rfl;rw[f];have o:(As 2 J n3 M).toArray=#[.int .i64 2,.slice J n3 M]:=rfl;have r:=Arr.new w3 28 (As 0 none 0 0);have W:=Z.sl;clear ad Z
 go_upto_region 3 with(refine Aa (vs:=As 2 J n3 M) rfl rfl rfl rfl rfl An r rfl (AB _ _ _ _) ?_;intro w4 v a9)
 have A:Ext w3 w4:=((Ext.refl w3).alloc _).grownR a9 (lrf _);have d:=P.trans A;have l:=k.trans d;have U:=T.ext d;have C:=W.ext A;have G:=d.cell G;have H:=d.cell H;have q0:=v.c 0 rfl;have q1:=v.c 1 rfl;clear r a9 o f v T W P A d k;generalize w3.heap.size=Q3 at *
 have ab:=qh (UP (F.ext l) C)
 go_wp2_with fail
 refine ab.out.mono ?_;rintro e w5 ⟨K,n5,N,rfl,Q,a0⟩;have f:C2 2 K n5 N = .agg #[.int .i64 2,.slice K n5 N]:=rfl;rw[f];have o:(As 2 K n5 N).toArray=#[.int .i64 2,.slice K n5 N]:=rfl;have r:=Arr.new w5 28 (As 0 none 0 0);have a2:=a0.sl;clear ab a0
 go_upto_region 4 with(refine Aa (vs:=As 2 K n5 N) rfl rfl rfl rfl rfl An r rfl (AB _ _ _ _) ?_;intro w6 x aa)
 have B:Ext w5 w6:=((Ext.refl w5).alloc _).grownR aa (lrf _);have b:=Q.trans B;have m:=l.trans b;have V:=U.ext b;have X:=C.ext b;have D:=a2.ext B;have G:=b.cell G;have H:=b.cell H;have q0:=b.cell q0;have q1:=b.cell q1;have r0:=x.c 0 rfl;have r1:=x.c 1 rfl;clear r aa o f x U C a2 Q B b l;generalize w5.heap.size=Q5 at *
 have g:=(Ext.refl w6).alloc (.cells #[.string ⟨#[49,47,50]⟩,.string ⟨#[55]⟩] 9)
 have ac:Db (w6.alloc (.cells #[.string ⟨#[49,47,50]⟩,.string ⟨#[55]⟩] 9)) (some ⟨w6.heap.size,0,none⟩) 2 2 [Aw.s12,Aw.s7]:=Rz rfl (by omega) rfl (fun i hi=>by
  have h2:i=0\/i=1:=by omega
  rcases h2 with rfl|rfl
  · exact⟨_,rfl,rfl⟩
  · exact⟨_,rfl,rfl⟩)
 have a7:=qh (Te (F.ext (m.trans g)) (D.ext g) ac);clear ac
 go_wp2_with fail
 refine a7.out.mono ?_;rintro e w7 ⟨rfl,R⟩;have a:=g.trans R;have n:=m.trans a;have G:=a.cell G;have H:=a.cell H;have q0:=a.cell q0;have q1:=a.cell q1;have r0:=a.cell r0;have r1:=a.cell r1;have a6:=qh (RC (F.ext n) (V.ext a) (X.ext a));have a4:=D.ext a;have s:(Value.string ⟨Aw.s14.toArray⟩) = .string ⟨#[49,47,52]⟩:=rfl;rw[s];clear a7 g R V X D a m s
 go_wp2_with fail
 refine a6.out.mono ?_;rintro e w8 ⟨rfl,j⟩;have r0:=j.cell r0;have r1:=j.cell r1;have q:=n.trans j;have af:=qh (Qg (F.ext q) (a4.ext j));clear a6 j a4 n
 go_wp2_with fail
 refine af.out.mono ?_;rintro e w9 ⟨rfl,ae⟩;go_wp2;go_ret;exact⟨rfl,q.trans ae⟩
theorem NW{xs ys:List Tx}(hp:xs.take k=ys.take k)(h1:k<xs.length)(h2:k<ys.length)(he:xs.getD k tm0=ys.getD k tm0):xs.take (k+1)=ys.take (k+1):=by
 simp only[gqq,h1,h2,oN,pg]at he;rw[oW h1,oW h2,hp,he]
theorem NZ{xs ys:List Tx}(hx:Be w a n c xs)(hy:Be w b m d ys) :
 Calls Tryz.prog 18 #[.agg #[.int .i64 va,.slice a n c],.agg #[.int .i64 vb,.slice b m d]] w fun e w'=>e = .returned (.bool (decide (va=vb/\xs=ys)))/\Ext w w':=by
 obtain⟨r,hr⟩:∃ r,decide (va=vb/\xs=ys)=r:=⟨_,rfl⟩;rw[hr];have HR:=qh hr;clear hr;have a0:=hx.len;have a3:=hy.len;obtain⟨rx,hX,_,a4⟩:=hx;obtain⟨ry,hY,_,a5⟩:=hy;have aj:=qh a4;have ak:=qh a5;have I:=qh a0;have J:=qh a3;clear a4 a5 a0 a3;have aw:=hX.le;have av:=hY.le
 go_enter Tryz.func18,Tryz.ntmps18
 go_upto_region 1 with(fail)
 refine Ch ?_;intro w0 N K L ap;have ax:=K.c 0 rfl;have aq:=K.c 1 rfl;have ay:=L.c 0 rfl;have ar:=L.c 1 rfl;clear K L ap;by_cases hv:va=vb
 · subst hv;have ao:(va != va)=false:=by simp
   by_cases Z:n=m
   · have an:((n:Int) != (m:Int))=false:=by simp[Z]
     have HL:=qh Z;clear Z;go_wp2
     go_loopw[5] (fun i wr=>∃ k:Nat,k<=n/\i = .int .i64 k/\Ext w0 wr/\Hid (xs.take k=ys.take k)) (fun i _=>n-(intOf i).toNat)
     case atStart=>exact⟨0,oY _,rfl,Ext.refl _,qh rfl⟩
     case round =>
      obtain⟨k,hk,rfl,H,HP⟩:=hrel;have M:=N.trans H;have ae:=H.cell aq;have af:=H.cell ar;by_cases R:k<n
      · have p:k<m:=by have:=HL.out;omega
        obtain⟨F,o1,rfl,P⟩:=(hX.ext M).rd (by omega);obtain⟨G,o2,rfl,Q⟩:=(hY.ext M).rd (by omega);obtain⟨s1,a1,n1,c1,a6,a8,ac⟩:=aj.out k R;obtain⟨T,a2,n2,c2,a7,a9,ad⟩:=ak.out k p;have x0:=P k R 0 (by omega);have x1:=P k R 1 (by omega);have y0:=Q k p 0 (by omega);have y1:=Q k p 1 (by omega);rw[a6]at x0 x1;rw[a7]at y0 y1;simp only[jZ,kc,gP]at x0 x1 y0 y1;have Y:=fun(g:World) (f:Ext wr g)=>qh (QZ ((ac.ext M).ext f) ((ad.ext M).ext f))
        have E:Hid ((xs.getD k tm0).1=Al s1/\(ys.getD k tm0).1=Al T):=qh ⟨a8.symm,a9.symm⟩
        have W:Hid (((xs.getD k tm0).1≠(ys.getD k tm0).1\/(xs.getD k tm0).2≠(ys.getD k tm0).2)->r=false):=qh (fun h=>by
         rw[<-HR.out];apply pb;rintro⟨_,rfl⟩
         rcases h with h|h <;> exact h rfl)
        clear P Q a6 a7 a8 a9 ac ad;generalize aa:(xs.getD k tm0).2=C at *
        generalize ab:(ys.getD k tm0).2=e2 at *
        have X:=qh (And.intro aa ab);clear aa ab;go_wp2;by_cases q:s1.toList=T.toList
        · have ag:(s1.toList != T.toList)=false:=by simp[q]
          have al:Hid ((xs.getD k tm0).1=(ys.getD k tm0).1):=qh (by
           rw[E.out.1,E.out.2];unfold Al;rw[jb,jb]at q
           exact q)
          obtain⟨S,O⟩:∃ S,decide (C=e2)=S:=⟨_,rfl⟩;have V:=fun(g:World) (f:Ext wr g)=>qh (Y g f).out;rw[O]at V;have U:=qh O;clear Y O;have l:=fun(g:World) (f:Ext wr g)=>qh (And.intro (f.cell ae) (And.intro (f.cell af) (And.intro (f.cell x0) (And.intro (f.cell x1) (And.intro (f.cell y0) (f.cell y1))))))
          refine Ac
           [hdP w.heap.size 1,hdS (some ⟨F,o1,none⟩) n c,hdI k,hdP F (o1+k*2),hdP F (o1+k*2),he (.string s1),hdP (w.heap.size+1) 1,hdS (some ⟨G,o2,none⟩) m d,hdI k,hdP G (o2+k*2),hdP G (o2+k*2),he (.string T),hdB false,hdB false,hdP w.heap.size 1,hdS (some ⟨F,o1,none⟩) n c,hdI k,hdP F (o1+k*2),hdP F ((o1+k*2)+1),hdS a1 n1 c1,hdP (w.heap.size+1) 1,hdS (some ⟨G,o2,none⟩) m d,hdI k,hdP G (o2+k*2),hdP G ((o2+k*2)+1),hdS a2 n2 c2,hp (fun v g=>v = .bool S),hdB (!S),hdB (!S)]
           ⟨fun v w w' e h=>h,trivial⟩ ⟨?o0,?o1,?o2,?o3,?o4,?o5,?o6,?o7,?o8,?o9,?o10,?o11,?o12,?o13,?o14,?o15,?o16,?o17,?o18,?o19,?o20,?o21,?o22,?o23,?o24,?o25,?o26,?o27,?o28,trivial⟩ ?fin
          case o0 | o6 | o14 | o18 | o20 | o24=>exact ofa (d:=1)
          case o1 | o5 | o7 | o11 | o15 | o19 | o21 | o25=>exact ol
          case o2 | o8 | o13 | o16 | o22=>exact omv
          case o4 | o10=>exact ofa (d:=0)
          case o3 =>
           refine Ao rfl fun B g f j h => ?_;have e0:_=_:=h.1;have C:_=_:=h.2.1;obtain⟨s,t,x,y,z,A⟩:=(l g f).out;go_simp
           try (first | (intros;omega) | exact oP _ (by omega))
          case o9 =>
           refine Ao rfl fun B g f j h => ?_;have e0:_=_:=h.1;have C:_=_:=h.2.1;obtain⟨s,t,x,y,z,A⟩:=(l g f).out;go_simp
           try (first | (intros;omega) | exact oP _ (by omega))
          case o12 =>
           refine Ao rfl fun B g f j h => ?_;have e0:_=_:=h.1;have C:_=_:=h.2.1;obtain⟨s,t,x,y,z,A⟩:=(l g f).out;go_simp
           try (first | (intros;omega) | exact oP _ (by omega))
          case o17 =>
           refine Ao rfl fun B g f j h => ?_;have e0:_=_:=h.1;have C:_=_:=h.2.1;obtain⟨s,t,x,y,z,A⟩:=(l g f).out;go_simp
           try (first | (intros;omega) | exact oP _ (by omega))
          case o23 =>
           refine Ao rfl fun B g f j h => ?_;have e0:_=_:=h.1;have C:_=_:=h.2.1;obtain⟨s,t,x,y,z,A⟩:=(l g f).out;go_simp
           try (first | (intros;omega) | exact oP _ (by omega))
          case o26 =>
           refine Ae rfl fun B g f j au h => ?_;have C:_=_:=h.2.1;have e2:_=_:=h.2.2.1;obtain⟨s,t,x,y,z,A⟩:=(l g f).out;refine⟨26,#[.slice a1 n1 c1,.slice a2 n2 c2],by go_simp,((V g f).out).mono ?_⟩;rintro e w' ⟨rfl,am⟩;exact⟨_,rfl,am.ext,rfl⟩
          case o27 =>
           refine Ao rfl fun B g f j h => ?_;obtain⟨v0,e0,rfl⟩:=h.1;obtain⟨s,t,x,y,z,A⟩:=(l g f).out;go_simp
          case o28 =>
           refine Ao rfl fun B g f j h => ?_;have e0:_=_:=h.1;have e2:_=_:=h.2.2.1;obtain⟨s,t,x,y,z,A⟩:=(l g f).out;go_simp
          case fin =>
           intro g f;rintro _ rfl;change wpList _ _ _ _ _ _;simp only[A0];cases S with
           | true =>
            have ah:=qh (kC U.out);go_wp2;go_roundw
            case rel=>exact⟨k+1,by omega,by go_num,H.trans f,qh (NW HP.out (by have:=I.out;omega) (by have:=J.out;omega) (Prod.ext al.out (by rw[X.out.1,X.out.2,ah.out])))⟩
            case measure=>simp[intOf];omega
           | false =>
            have o:Hid (r=false):=qh (W.out (Or.inr (of_decide_eq_false U.out)));go_wp2;go_ret;exact⟨by rw[o.out];rfl,M.trans f⟩
        · have ag:(s1.toList != T.toList)=true:=ox.2 q
          have o:Hid (r=false):=qh (W.out (Or.inl (by
           rw[E.out.1,E.out.2];unfold Al;intro h;apply q;rw[jb,jb]
           exact h)))
          have D:=fun(g:World) (f:Ext wr g)=>qh (And.intro (f.cell ae) (And.intro (f.cell af) (And.intro (f.cell x0) (And.intro (f.cell x1) (And.intro (f.cell y0) (f.cell y1))))))
          refine Ac
           [hdP w.heap.size 1,hdS (some ⟨F,o1,none⟩) n c,hdI k,hdP F (o1+k*2),hdP F (o1+k*2),he (.string s1),hdP (w.heap.size+1) 1,hdS (some ⟨G,o2,none⟩) m d,hdI k,hdP G (o2+k*2),hdP G (o2+k*2),he (.string T),hdB true,hdB true,hdU,hdU,hdU,hdU,hdU,hdU,hdU,hdU,hdU,hdU,hdU,hdU,hdU,hdU,hdB true]
           trivial ⟨?o0,?o1,?o2,?o3,?o4,?o5,?o6,?o7,?o8,?o9,?o10,?o11,?o12,?o13,?o14,?o15,?o16,?o17,?o18,?o19,?o20,?o21,?o22,?o23,?o24,?o25,?o26,?o27,?o28,trivial⟩ ?fin
          case o0 | o6=>exact ofa (d:=1)
          case o1 | o5 | o7 | o11=>exact ol
          case o2 | o8 | o13=>exact omv
          case o4 | o10=>exact ofa (d:=0)
          case o14 | o15 | o16 | o17 | o18 | o19 | o20 | o21 | o22 | o23 | o24 | o25 | o26 | o27=>exact MY rfl
          case o3 =>
           refine Ao rfl fun B g f j h => ?_;have e0:_=_:=h.1;have C:_=_:=h.2.1;obtain⟨s,t,x,y,z,A⟩:=(D g f).out;go_simp
           try (first | (intros;omega) | exact oP _ (by omega))
          case o9 =>
           refine Ao rfl fun B g f j h => ?_;have e0:_=_:=h.1;have C:_=_:=h.2.1;obtain⟨s,t,x,y,z,A⟩:=(D g f).out;go_simp
           try (first | (intros;omega) | exact oP _ (by omega))
          case o12 =>
           refine Ao rfl fun B g f j h => ?_;have e0:_=_:=h.1;have C:_=_:=h.2.1;obtain⟨s,t,x,y,z,A⟩:=(D g f).out;go_simp
           try (first | (intros;omega) | exact oP _ (by omega))
          case o28 =>
           refine Ao rfl fun B g f j h => ?_;have e0:_=_:=h.1;have e2:_=_:=h.2.2.1;obtain⟨s,t,x,y,z,A⟩:=(D g f).out;go_simp
          case fin =>
           intro g f;change wpList _ _ _ _ _ _;simp only[A0];go_wp2;go_ret;exact⟨by rw[o.out];rfl,M.trans f⟩
      · have ai:Hid (r=true):=qh (by
         rw[<-HR.out];apply gX;refine⟨by trivial,?_⟩;have h1:=HP.out;have h2:=HL.out
         rwa[oL (by have:=I.out;omega),oL (by have:=J.out;omega)]at h1)
        go_wp2;go_ret;exact⟨by rw[ai.out];rfl,M⟩
   · have an:((n:Int) != (m:Int))=true:=by simp;omega
     have o:Hid (r=false):=qh (by
      rw[<-HR.out];apply pb;rintro⟨_,rfl⟩
      exact Z (I.out.symm.trans J.out))
     clear Z;go_wp2;go_ret;exact⟨by rw[o.out];rfl,N⟩
 · have ao:(va != vb)=true:=by simpa using hv
   have o:Hid (r=false):=qh (by
    rw[<-HR.out];apply pb;rintro⟨h,_⟩
    exact hv h)
   clear hv;go_wp2;go_ret;exact⟨by rw[o.out];rfl,N⟩
def Bf(ts:List Tx)(nt d:Nat):Prop:=ts.length<=nt/\∀ t∈ts,t.1.length<=d/\t.2.length<=12
instance (ts:List Tx) (nt d:Nat):Decidable (Bf ts nt d):=inferInstanceAs (Decidable (_/\_))
theorem Ja{nt:Nat}{ts:List Tx}(O:Be w a n c ts) :
 Calls Tryz.prog 37 #[.agg #[.int .i64 va,.slice a n c],.int .i64 nt,.int .i64 d] w fun e W=>e = .returned (.bool (decide (Bf ts nt d)))/\Ext w W:=by
 have s:=O.len;obtain⟨rx,N,_,v⟩:=O;have G:=qh v;have f:=qh s;clear v s;have S:=N.le
 go_enter Tryz.func37,Tryz.ntmps37
 go_upto_region 1 with(fail)
 refine AM ?_;intro X q l K;have U:=l.c 0 rfl;have L:=l.c 1 rfl;clear l K;by_cases R:nt<n
 · have b:Hid (decide (Bf ts nt d)=false):=qh (by
    apply pb;rintro⟨h,_⟩;have:=f.out
    omega)
   have J:(nt:Int)<(n:Int):=by omega
   clear R;go_wp2;go_ret;exact⟨by rw[b.out];rfl,q⟩
 · have J:¬ (nt:Int)<(n:Int):=by omega
   go_wp2
   go_loopw[7] (fun i wr=>∃ k:Nat,k<=n/\i = .int .i64 k/\Ext X wr/\Hid (∀ i,i<k->(ts.getD i tm0).1.length<=d/\(ts.getD i tm0).2.length<=12)) (fun i _=>n-(intOf i).toNat)
   case atStart=>exact⟨0,oY _,rfl,Ext.refl _,qh (fun i C=>absurd C (by omega))⟩
   case round =>
    obtain⟨k,hk,rfl,m,M⟩:=hrel;have B:=q.trans m;have V:=m.cell L;by_cases g:k<n
    · obtain⟨Z,o1,rfl,o⟩:=(N.ext B).rd (by omega);obtain⟨s1,Y,D,c1,x,y,A⟩:=G.out k g;have P:=o k g 0 (by omega);have Q:=o k g 1 (by omega);rw[x]at P Q;simp only[jZ,kc,gP]at P Q;have r:=A.len;have z:s1.size=(ts.getD k tm0).1.length:=by rw[<-y,Ax]
      have j:Hid (s1.size=(ts.getD k tm0).1.length/\(ts.getD k tm0).2.length=D):=qh ⟨z,r⟩;have p:Hid (ts.getD k tm0∈ts):=qh (by simp[f.out,g]);clear o x y A r z;by_cases h1:d<s1.size
      · have H:(d:Int)<(s1.size:Int):=by omega
        have b:Hid (decide (Bf ts nt d)=false):=qh (by
         apply pb;rintro⟨_,h⟩;have:=h _ p.out;have:=j.out
         omega)
        go_wp2;go_ret;exact⟨by rw[b.out];rfl,B⟩
      · have H:¬ (d:Int)<(s1.size:Int):=by omega
        by_cases h2:12<D
        · have I:(12:Int)<(D:Int):=by omega
          have b:Hid (decide (Bf ts nt d)=false):=qh (by
           apply pb;rintro⟨_,h⟩;have:=h _ p.out;have:=j.out
           omega)
          go_wp2;go_ret;exact⟨by rw[b.out];rfl,B⟩
        · have I:¬ (12:Int)<(D:Int):=by omega
          have F:Hid (∀ i,i<k+1->(ts.getD i tm0).1.length<=d/\(ts.getD i tm0).2.length<=12):=qh (fun i C=>by
           by_cases e:i=k
           · subst e;have:=j.out;omega
           · exact M.out i (by omega))
          go_wp2;go_roundw
          case rel=>exact⟨k+1,by omega,by go_num,m,F⟩
          case measure=>simp[intOf];omega
    · have E:Hid (decide (Bf ts nt d)=true):=qh (by
       apply gX;refine⟨by have:=f.out;omega,fun t T => ?_⟩;obtain⟨i,C,rfl⟩:=jC.1 T;have:=M.out i (by have:=f.out;omega)
       simpa[C]using this)
      go_wp2;go_ret;exact⟨by rw[E.out];rfl,B⟩
end Go.Proofs.YtlbmnokpiilfpaaGreatDoor
