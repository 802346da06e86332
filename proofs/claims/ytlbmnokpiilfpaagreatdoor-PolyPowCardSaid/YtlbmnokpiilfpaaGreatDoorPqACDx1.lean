/- Part PqACDx1. -/
import Derived.Test.YtlbmnokpiilfpaaGreatDoorPq30
import Derived.Orders
import Derived.StillTail
import Derived.WalkKit
set_option linter.all false
set_option maxRecDepth 100000
set_option maxHeartbeats 100000000
namespace Go.Proofs.YtlbmnokpiilfpaaGreatDoor
open Tryz Go Go.RowKit
variable {s':Bool} {va vb y:Int} {l:List Int} {cs cs' news xs ys:List Value} {R R' base bytes c k m n:Nat} {s:Operand} {a a' b:Option Addr} {cons:Option Nat} {p q:Rat} {e t ty ty':TypeId} {v v' z:Value} {w:World}
/-! ### The operations' notes,kind by kind -/
section
variable {P:Program} {ops:Array Oper} {hs:List Hd} {a0:Act} {C:World->Prop} {i:Nat} {o:Oper}
theorem Wh{p:Value->World->Prop}(d:o.guard=none)
 (h:∀ b w,DE b->C w->Cq ops hs a0 o b w o.op.operands.toList->∃ v a,(execOp b o).run P w = .ok (.value v) a/\C a/\Gk ops hs i o w a (List.range hs.length)/\p v a) :
 obl P C ops hs a0 i o ⟨true,.pr p,cons⟩:=by
 unfold obl Cr;rw[d];intro b w hp c f;obtain⟨v,a,e,h1,h2,h3⟩:=h b w hp c f;rw[e];exact⟨h1,h2,h3⟩
end
section
variable {P:Program} {ops:Array Oper} {hs:List Hd} {a0:Act} {C:World->Prop} {i:Nat} {o:Oper}
theorem UK(d:o.guard=none)(f:o.op = .buildSlice t 0 #[])
 (j:P.underlying t=some (.slice e)) (a:Ca P e z bytes) (c:∀ w,C w->base<=w.heap.size) :
 obl P C ops hs a0 i o ⟨false,.pr (fun v k=>∃ g,v = .slice (some ⟨g,0,none⟩) 0 0/\Own k base e (some ⟨g,0,none⟩) 0 0 []),cons⟩ :=
 AE d fun m w hp b l=>by
  refine⟨_,_,?_,(Ext.refl w).alloc (.cells #[] e),w.heap.size,rfl,AB w base e #[] 0 rfl (c w b) (by omega)⟩;simp[execOp,f,Ow j a]
theorem Wi{N:Nat}{x:Operand}(M:o.guard=none)
 (G:o.op = .call { callee := .builtin .append,args:=#[s,x],argTypes:=#[t,t] })
 (Q:P.underlying t=some (.slice e)) (d:Ca P e z bytes) (B:z.cells.size=1) (h1:∀ u∈news,u.oneCell'=true) (K:n+m=N) (h63:N<=maxLen) (b:N*bytes<=140737488355328)
 (y:xs ++ news=ys) (L:∀ w,C w->base<=w.heap.size)
 (h:∀ g w,DE g->C w->Cq ops hs a0 o g w [s,x]->∃ a c A l,g s = .slice a n c/\Own w base e a n c xs/\g x = .slice A m l/\Sl w A m l news /\
  ∀ f,w.grownBy f (blk a)->C f/\Gk ops hs i o w f (List.range hs.length)) :
 obl P C ops hs a0 i o ⟨true,.pr (fun v T=>∃ D E,v = .slice D N E/\Own T base e D N E ys),cons⟩ :=
 Wh M fun g w hp F H=>by
  rw[G]at H;obtain⟨a,c,A,l,p,j,r,q,O⟩:=h g w hp F H;subst K;subst y;obtain⟨I,J,f,k,h2,h3,_⟩:=QK (P:=P) (ty:=o.type) Q d B j q h1 h63 b (L w F);obtain⟨R,S⟩:=O f h3;refine⟨_,f,?_,R,S,I,J,rfl,h2⟩;unfold execOp;simp only[G,resolve,invoke,builtin,ij,iF,gS,jH,ja,jE,p,r,k]
end
theorem UL{g q j:World}{s:Bool}{p c':Nat}{z:Int}(x:Ext w g)(r:Arr g R ty cs)(f:∀ v∈cs,∀ i,v ≠ .int .u64 i)(l:g.grownBy q (some R))(A:w.heap.size<=R)(e:Arr q R' ty' cs')(b:∀ v∈cs',∀ i,v ≠ .int .u64 i)(d:q.grownBy j (some R'))(m:w.heap.size<=R')(t:Hid (decide (z<0)=s))(B:Wd g a n c z.natAbs)(k:Hid (decide (y<0)=s'))(o:Wd g a' p c' y.natAbs):UG w z y (.returned (.tuple #[.agg (Ac s a n c).toArray,.agg (Ac s' a' p c').toArray])) j :=
 ⟨s,a,n,c,s',a',p,c',rfl,(x.grownR l A).grownR d m,⟨t,(B.kept r f l).kept e b d⟩,⟨k,(o.kept r f l).kept e b d⟩⟩
theorem K4{x:Int}(hT:AM w)(h:AF w v x)(h':AF w v' (k:Int))(bx:x.natAbs<P2 9600)(bk:k<P2 9600)(hk:k≠0):Calls prog 164 #[v,v'] w (UG w (x.tdiv ((Nat.gcd x.natAbs k:Nat):Int)) ((k/Nat.gcd x.natAbs k:Nat):Int)):=by
 have ak:=fun(j:World) (f:Ext w j)=>qh (CY (r:=decide (k=1)) (h'.ext f) (kj.2 (by omega)));have ai:=fun(j:World) (f:Ext w j)=>qh (Gf (hT.ext f) (h.ext f) (h'.ext f) bx bk);have aj:0<Nat.gcd x.natAbs k:=mr _ (by omega);have P:Nat.gcd x.natAbs k<P2 9600:=gN (lK (by omega) (kF _ _)) bk;have am:=fun(j:World) (f:Ext w j) (g:Value) (hg:AF j g ((Nat.gcd x.natAbs k:Nat):Int))=>qh (Ep (h.ext f) hg bx P (by omega))
 have a7:=fun(j:World) (f:Ext w j) (g:Value) (hg:AF j g ((Nat.gcd x.natAbs k:Nat):Int))=>qh (Ep (h'.ext f) hg bk P (by omega));have a8:((k:Int)).tdiv ((Nat.gcd x.natAbs k:Nat):Int)=((k/Nat.gcd x.natAbs k:Nat):Int):=by rw[j3 (by omega)];push_cast;rfl
 rw[a8]at a7;clear bx bk P aj a8;obtain⟨s,a,n,c,rfl,HS,hx⟩:=h;obtain⟨t,b,m,d,rfl,HT,hy⟩:=h'
 go_enter func164,ntmps164
 go_upto_region 1 with(fail)
 refine V9 ?_;intro w0 Y U V ad ae aq;have az:=U.c 0 rfl;have aA:=U.c 1 rfl;have aB:=V.c 0 rfl;have aC:=V.c 1 rfl;have hR:Arr w0 (w.heap.size+2) 83 (Ac false none 0 0):=ad;have a0:Arr w0 (w.heap.size+3) 83 (Ac false none 0 0):=ae;clear aq
 go_wp2_with fail
 refine(ak _ Y).out.mono ?_;rintro e w1 ⟨rfl,l⟩;have O:=Y.trans l;have aD:=l.cell az;have aE:=l.cell aA;have aF:=l.cell aB;have aG:=l.cell aC;by_cases h1:k=1
 · have J:decide (k=1)=true:=by simpa using h1
   have HV:Hid (x.tdiv ((Nat.gcd x.natAbs k:Nat):Int)=x/\((k/Nat.gcd x.natAbs k:Nat):Int)=(k:Int)):=by
    refine qh ?_;subst h1;rw[kZ];exact⟨oh _,rfl⟩
   rw[J];clear J h1;go_wp2;have q:=hR.ext l;have z:=a0.ext l;have aL:=q.c 0 rfl;have aM:=q.c 1 rfl;have aN:=z.c 0 rfl;have aO:=z.c 1 rfl;have aS:=q.frozen 0;have aT:=q.frozen 1;have aU:=z.frozen 0;have aV:=z.frozen 1
   go_region
   go_wp2;have hA:=(((q.set 0 (.bool s)).set 1 (.slice a n c)).far (p:=⟨w.heap.size+3,0,none⟩) (by simp) (.bool t)).far (p:=⟨w.heap.size+3,1,none⟩) (by simp) (.slice b m d);have hB:=(((z.far (p:=⟨w.heap.size+2,0,none⟩) (by simp) (.bool s)).far (p:=⟨w.heap.size+2,1,none⟩) (by simp) (.slice a n c)).set 0 (.bool t)).set 1 (.slice b m d);have N:=((((O.setCell (p:=⟨w.heap.size+2,0,none⟩) (by simp) (.bool s)).setCell (p:=⟨w.heap.size+2,1,none⟩) (by simp) (.slice a n c)).setCell (p:=⟨w.heap.size+3,0,none⟩) (by simp) (.bool t)).setCell (p:=⟨w.heap.size+3,1,none⟩) (by simp) (.slice b m d)).drew
   refine gF (Np (cs:=Ac s a n c) (cs':=Ac t b m d) (t:=83) (t':=83) rfl Ai Ai rfl rfl hA hB) rfl ?_;rw[HV.out.1,HV.out.2];exact⟨s,a,n,c,t,b,m,d,rfl,N,⟨HS,hx.ext N⟩,⟨HT,hy.ext N⟩⟩
 · have J:decide (k=1)=false:=by simpa using h1
   rw[J];clear J h1
   go_wp2_with fail
   refine(ai _ O).out.mono ?_;rintro e w2 ⟨H,E,G,F,rfl,y,ac,ap⟩;have al:(Ac H E G F).toArray=#[.bool H,.slice E G F]:=rfl;have Z:=O.trans y;have aH:=y.cell aD;have aI:=y.cell aE;have aJ:=y.cell aF;have aK:=y.cell aG;have hY:=Arr.new w2 83 (Ac false none 0 0)
   go_upto_region 4 with(refine Aa (vs:=Ac H E G F) rfl rfl rfl rfl rfl Ai hY rfl (Ae _ _ _ _) ?_;intro S K ah)
   have o:Ext w2 S:=((Ext.refl w2).alloc _).grownR ah (lrf _);have I:=Z.trans o;have u00:=o.cell aH;have u01:=o.cell aI;have u10:=o.cell aJ;have u11:=o.cell aK;have g0:S.cell? ⟨w2.heap.size,0,none⟩=some (.bool H):=K.cell (i:=0) (by simp[Ac]);have g1:S.cell? ⟨w2.heap.size,1,none⟩=some (.slice E G F):=K.cell (i:=1) (by simp[Ac]);have a6:AF S (.agg (Ac H E G F).toArray) ((Nat.gcd x.natAbs k:Nat):Int):=⟨H,E,G,F,rfl,ac,ap.ext o⟩;clear al
   have T:=fun(j:World) (f:Ext S j)=>qh (And.intro (f.cell u00) (And.intro (f.cell u01) (And.intro (f.cell u10) (And.intro (f.cell u11) (And.intro (f.cell g0) (f.cell g1))))))
   refine Ab (by kernel_rfl) (fun j=>Ext S j)
    [he (.agg #[.bool s,.slice a n c]),
 he (.agg #[.bool H,.slice E G F]),
 hp (fun v j=>∃ D A C B,v = .agg (Ac D A C B).toArray/\Hid (decide (x.tdiv ((Nat.gcd x.natAbs k:Nat):Int)<0)=D)/\Wd j A C B (Int.natAbs (x.tdiv ((Nat.gcd x.natAbs k:Nat):Int)))),
 he (.agg #[.bool t,.slice b m d]),
 he (.agg #[.bool H,.slice E G F]),
 hp (fun v j=>∃ D A C B,v = .agg (Ac D A C B).toArray/\Hid (decide (((k/Nat.gcd x.natAbs k:Nat):Int)<0)=D)/\Wd j A C B (Int.natAbs (((k/Nat.gcd x.natAbs k:Nat):Int))))]
    (by kernel_rfl) (fun _ _ e h=>h.trans e) ((Ext.refl S).drew) ⟨trivial,trivial,fun v w w' e ⟨D,A,C,B,h1,h2,h3⟩=>⟨D,A,C,B,h1,h2,h3.ext e⟩,trivial,trivial,fun v w w' e ⟨D,A,C,B,h1,h2,h3⟩=>⟨D,A,C,B,h1,h2,h3.ext e⟩,trivial⟩ ⟨?o0,?o1,?o2,?o3,?o4,?o5,trivial⟩ ?fin
   case o0 | o1 | o3 | o4=>exact ol2
   case o2 =>
    refine Ag rfl fun ρ j f a9 ag h => ?_;have e1:ρ (.tmp 14)=(.agg #[.bool s,.slice a n c]):=h.2.1;have e2:ρ (.tmp 15)=(.agg #[.bool H,.slice E G F]):=h.2.2.1;obtain⟨ar,au,av,aw,ax,ay⟩:=(T j f).out;refine⟨209,#[.agg #[.bool s,.slice a n c],.agg #[.bool H,.slice E G F]],by go_simp,((am j (I.trans f) _ (a6.ext f)).out).mono ?_⟩;rintro e w' ⟨D,A,C,B,rfl,M,R,Q⟩;exact⟨_,rfl,M,D,A,C,B,rfl,R,Q⟩
   case o5 =>
    refine Ag rfl fun ρ j f a9 ag h => ?_;have e1:ρ (.tmp 17)=(.agg #[.bool t,.slice b m d]):=h.2.1;have e2:ρ (.tmp 18)=(.agg #[.bool H,.slice E G F]):=h.2.2.1;obtain⟨ar,au,av,aw,ax,ay⟩:=(T j f).out;refine⟨209,#[.agg #[.bool t,.slice b m d],.agg #[.bool H,.slice E G F]],by go_simp,((a7 j (I.trans f) _ (a6.ext f)).out).mono ?_⟩;rintro e w' ⟨D,A,C,B,rfl,M,R,Q⟩;exact⟨_,rfl,M,D,A,C,B,rfl,R,Q⟩
   case fin =>
    intro j f;rintro _ ⟨s1,a1,n1,c1,rfl,aa,an⟩;rintro _ ⟨s2,a2,n2,c2,rfl,ab,ao⟩;change wpList _ _ _ _ _ _;simp only[lq,lw,lx,lz,Act.put,lj,lk,ly];have q:=((((hR.ext l).ext y).ext o).ext f);have z:=((((a0.ext l).ext y).ext o).ext f);have aP:(Ac s1 a1 n1 c1).toArray=#[.bool s1,.slice a1 n1 c1]:=rfl;have aQ:(Ac s2 a2 n2 c2).toArray=#[.bool s2,.slice a2 n2 c2]:=rfl
    go_wp2_with(first
     | (refine Aa (vs:=Ac s1 a1 n1 c1) rfl rfl rfl rfl rfl Ai q rfl (Ae _ _ _ _) ?_;intro w9 af a5;have a4:=z.kept a5 (by simp))
     | (refine Aa (vs:=Ac s2 a2 n2 c2) rfl rfl rfl rfl rfl Ai a4 rfl (Ae _ _ _ _) ?_;intro aR W L))
    have X:=af.kept L (by simp);exact gF (Np rfl Ai Ai rfl rfl X W) rfl (UL (I.trans f) q (Ax _ _ _ _) a5 (by omega) a4 (Ax _ _ _ _) L (by omega) aa an ab ao)
def NII(z y:Int)(v:Value)(w:World):Prop:=∃ s a n c s' a' n' c',v = .tuple #[.agg (Ac s a n c).toArray,.agg (Ac s' a' n' c').toArray]/\(Hid (decide (z<0)=s)/\Wd w a n c z.natAbs)/\(Hid (decide (y<0)=s')/\Wd w a' n' c' y.natAbs)
theorem NII.x(z y:Int):StX (NII z y):=fun _ _ _ e ⟨s,a,n,c,g,b,f,d,h1,⟨h2,h3⟩,⟨h4,h5⟩⟩=>⟨s,a,n,c,g,b,f,d,h1,⟨h2,h3.ext e⟩,⟨h4,h5.ext e⟩⟩
theorem NII.i(z y:Int):StI (NII z y):=fun _ _ _ _ _ _ _ b e d _ _ _ ⟨s,a,n,c,k,f,j,g,h1,⟨h2,h3⟩,⟨h4,h5⟩⟩=>⟨s,a,n,c,k,f,j,g,h1,⟨h2,h3.kept b e d⟩,⟨h4,h5.kept b e d⟩⟩
theorem IY(hT:AM w)(h:BU w v p)(h':BU w v' q)(b1:p.num.natAbs<P2 2400)(b2:p.den<P2 2400)(b3:q.num.natAbs<P2 2400)(b4:q.den<P2 2400)(av:p≠0)(ax:q≠0)(hd:p.den≠1\/q.den≠1):Calls prog 85 #[v,v'] w (GN w (p*q)):=by
 have aT:=fun(f:World) (j:Ext w f)=>qh (Jj (h.ext j));have aU:=fun(f:World) (j:Ext w f)=>qh (Jj (h'.ext j));obtain⟨_,rfl,s,a,n,c,b,m,d,rfl,HS,hx,hy⟩:=h;obtain⟨_,rfl,H,E,G,F,b',m',d',rfl,aj,ay,bo⟩:=h';have aD:=fun(f:World) (j:Ext w f)=>qh (AA (r:=false) (A8 HS (hx.ext j)) (gR (mt Pl.rat_num_den_zero.1 av)));have aE:=fun(f:World) (j:Ext w f)=>qh (AA (r:=false) (A8 aj (ay.ext j)) (gR (mt Pl.rat_num_den_zero.1 ax)))
 have aF:=fun(f:World) (j:Ext w f)=>qh (AA (r:=decide (A9 p=0)) (Bh (hy.ext j)) rfl);have ag:=fun(f:World) (j:Ext w f)=>qh (AA (r:=decide (A9 q=0)) (Bh (bo.ext j)) rfl);have aR:=fun(f:World) (j:Ext w f) (dv:Value) (af:AF f dv (q.den:Int))=>qh (K4 (hT.ext j) (A8 HS (hx.ext j)) af (Af b1 (by omega)) (Af b4 (by omega)) q.den_nz);have aS:=fun(f:World) (j:Ext w f) (dv:Value) (af:AF f dv (p.den:Int))=>qh (K4 (hT.ext j) (A8 aj (ay.ext j)) af (Af b3 (by omega)) (Af b2 (by omega)) p.den_nz)
 obtain⟨ar,au⟩:=Pl.rat_mul_parts p q;have J:(p.num.tdiv ((Nat.gcd p.num.natAbs q.den:Nat):Int)).natAbs<P2 2400:=by rw[oZ];exact gN (iI _ _) b1
 have N:(q.num.tdiv ((Nat.gcd q.num.natAbs p.den:Nat):Int)).natAbs<P2 2400:=by rw[oZ];exact gN (iI _ _) b3
 have e3:(((q.den/Nat.gcd p.num.natAbs q.den:Nat):Int)).natAbs<P2 2400:=gN (iI _ _) b4;have e4:(((p.den/Nat.gcd q.num.natAbs p.den:Nat):Int)).natAbs<P2 2400:=gN (iI _ _) b2;have ah:=fun(f:World) (x1 x2:Value) (h1:AF f x1 (p.num.tdiv ((Nat.gcd p.num.natAbs q.den:Nat):Int))) (h2:AF f x2 (q.num.tdiv ((Nat.gcd q.num.natAbs p.den:Nat):Int)))=>qh (CA h1 h2 (Af J (by omega)) (Af N (by omega)) (Or.inl (Af J (by omega))))
 have ai:=fun(f:World) (x1 x2:Value) (h1:AF f x1 ((p.den/Nat.gcd q.num.natAbs p.den:Nat):Int)) (h2:AF f x2 ((q.den/Nat.gcd p.num.natAbs q.den:Nat):Int))=>qh (CA h1 h2 (Af e4 (by omega)) (Af e3 (by omega)) (Or.inl (Af e4 (by omega))));rw[<-ir,<-au]at ai;rw[<-ar]at ah;have ab:(decide (A9 p=0) && decide (A9 q=0))=false:=by
  rcases hd with h|h
  · rw[gR (mt AG.1 h)];rfl
  · rw[gR (mt AG.1 h),Bool.and_false]
 clear b1 b2 b3 b4 av ax hd ar au J N e3 e4
 go_enter func85,ntmps85
 go_upto_region 1 with(fail)
 refine CO ?_;intro w0 W a3 a4 b5 bq;have p0:=a3.c 0 rfl;have p1:=a3.c 1 rfl;have p2:=a3.c 2 rfl;have p3:=a3.c 3 rfl;have q0:=a4.c 0 rfl;have q1:=a4.c 1 rfl;have q2:=a4.c 2 rfl;have q3:=a4.c 3 rfl;have hR:Arr w0 (w.heap.size+2) 85 (Al false none 0 0 false none 0 0):=b5;clear bq
 go_wp2_with fail
 refine(aD _ W).out.mono ?_;rintro e w1 ⟨rfl,aa⟩;have r0:=aa.cell q0;have r1:=aa.cell q1
 go_wp2_with fail
 refine(aE _ (W.trans aa)).out.mono ?_;rintro e w2 ⟨rfl,ba⟩;have M:=aa.trans ba;have t2:=M.cell p2;have t3:=M.cell p3;clear r0 r1
 go_wp2_with fail
 refine(aF _ (W.trans M)).out.mono ?_;rintro e w3 ⟨rfl,bb⟩;have I:=M.trans bb;clear t2 t3;have aq:∃ w4:World,True:=⟨w3,trivial⟩;by_cases ac:decide (A9 p=0)=true
 case' pos =>
  rw[ac]at ab |-;have t2:=I.cell q2;have t3:=I.cell q3;have ap:decide (A9 q=0)=false:=by simpa using ab
  rw[ap]at ag;clear ac ap ab aq
  go_wp2_with fail
  refine(ag _ (W.trans I)).out.mono ?_;rintro e w4 ⟨rfl,bc⟩;have t:=I.trans bc;clear t2 t3
 case' neg =>
  have aw:decide (A9 p=0)=false:=by simpa using ac
  rw[aw];obtain⟨w4,bm⟩:∃ w4,w4=w3:=⟨_,rfl⟩;subst bm;have t:=I;clear ac aw ab aq
 all_goals
  have r0:=t.cell p0;have r1:=t.cell p1;have r2:=t.cell p2;have r3:=t.cell p3;have u0:=t.cell q0;have u1:=t.cell q1;have u2:=t.cell q2;have u3:=t.cell q3;have ae:=W.trans t;have bf:=hR.ext t;clear p0 p1 p2 p3 q0 q1 q2 q3 aD aE aF ag;go_wp2;have Q:=fun(f:World) (j:Ext w4 f)=>qh (And.intro (j.cell r0) (And.intro (j.cell r1) (And.intro (j.cell r2) (And.intro (j.cell r3) (And.intro (j.cell u0) (And.intro (j.cell u1) (And.intro (j.cell u2) (j.cell u3))))))))
  refine DR (by kernel_rfl) (fun f=>Ext w4 f)
   [he (.pointer (some ⟨w.heap.size,0,none⟩)),
 he (.agg #[.bool s,.slice a n c]),
 he (.agg #[.bool H,.slice E G F,.bool false,.slice b' m' d']),
 hp (fun v f=>NI ((q.den:Int)) v f),
 hp (fun v f=>NII (p.num.tdiv ((Nat.gcd p.num.natAbs q.den:Nat):Int)) (((q.den/Nat.gcd p.num.natAbs q.den:Nat):Int)) v f),
 hp (fun v f=>NII (p.num.tdiv ((Nat.gcd p.num.natAbs q.den:Nat):Int)) (((q.den/Nat.gcd p.num.natAbs q.den:Nat):Int)) v f),
 hp (fun v f=>NI (p.num.tdiv ((Nat.gcd p.num.natAbs q.den:Nat):Int)) v f),
 hp (fun v f=>NI (((q.den/Nat.gcd p.num.natAbs q.den:Nat):Int)) v f),
 hp (NP w4.heap.size),
 hp (NP w4.heap.size),
 hmp (fun _ _=>True)]
   (by kernel_rfl) (fun _ _ e h=>h.trans e) ((Ext.refl w4).drew) ⟨trivial,trivial,trivial,NI.x _,NII.x _ _,NII.x _ _,NI.x _,NI.x _,NP.x _,NP.x _,NT.x,trivial⟩ ⟨?o0,?o1,?o2,?o3,?o4,?o5,?o6,?o7,?o8,?o9,?o10,trivial⟩ 8 9 10 6 83 (Ac false none 0 0) ⟨by simp,by simp,by simp,by simp⟩ (by omega) ?hk ?hs1 ?hp1 ?hnm Ai ?hj1 ?fin
  case o0=>exact ofa (d:=0)
  case o1=>exact ol2
  case o2=>exact ol4
  case o3 =>
   refine Ag rfl fun y f j l C h => ?_;have J:y (.tmp 35)=(.agg #[.bool H,.slice E G F,.bool false,.slice b' m' d']):=h.2.1;obtain⟨k0,k1,k2,k3,k4,k5,k6,k7⟩:=(Q f j).out;refine⟨165,#[.agg #[.bool H,.slice E G F,.bool false,.slice b' m' d']],by go_simp,((aU f (ae.trans j)).out).mono ?_⟩;rintro e w' ⟨H,E,G,F,rfl,A,L,K⟩;exact⟨_,rfl,A,H,E,G,F,rfl,L,K⟩
  case o4 =>
   refine Ag rfl fun y f j l C h => ?_;have J:y (.tmp 34)=(.agg #[.bool s,.slice a n c]):=h.2.1;obtain⟨v2,N,s2,a2,n2,c2,rfl,i2,j2⟩:=h.2.2.1;obtain⟨k0,k1,k2,k3,k4,k5,k6,k7⟩:=(Q f j).out;refine⟨164,#[.agg #[.bool s,.slice a n c],.agg (Ac s2 a2 n2 c2).toArray],by go_simp,((aR f (ae.trans j) _ ⟨s2,a2,n2,c2,rfl,i2,j2⟩).out).mono ?_⟩;rintro e w' ⟨H,E,G,F,t',b',m',d',rfl,A,h1,h2⟩;exact⟨_,rfl,A,H,E,G,F,t',b',m',d',rfl,h1,h2⟩
  case o5 =>
   refine AE rfl ?_;intro y f hp j h;have l:=hp.const;have C:=hp.func;obtain⟨v0,e0,s0,a0,n0,c0,t0,b0,m0,d0,rfl,i0,j0⟩:=h.1;obtain⟨k0,k1,k2,k3,k4,k5,k6,k7⟩:=(Q f j).out;exact⟨_,f,by go_simp,Ext.refl _,s0,a0,n0,c0,t0,b0,m0,d0,rfl,i0,j0⟩
  case o6 =>
   refine AE rfl ?_;intro y f hp j h;have l:=hp.const;have C:=hp.func;obtain⟨v0,e0,s0,a0,n0,c0,t0,b0,m0,d0,rfl,i0,j0⟩:=h.1;obtain⟨k0,k1,k2,k3,k4,k5,k6,k7⟩:=(Q f j).out;exact⟨_,f,by go_simp,Ext.refl _,s0,a0,n0,c0,rfl,i0.1,i0.2⟩
  case o7 =>
   refine AE rfl ?_;intro y f hp j h;have l:=hp.const;have C:=hp.func;obtain⟨v0,e0,s0,a0,n0,c0,t0,b0,m0,d0,rfl,i0,j0⟩:=h.1;obtain⟨k0,k1,k2,k3,k4,k5,k6,k7⟩:=(Q f j).out;exact⟨_,f,by go_simp,Ext.refl _,t0,b0,m0,d0,rfl,j0.1,j0.2⟩
  case o8 =>
   exact CL rfl rfl (fun _ h=>h.size)
  case o9 =>
   exact CL rfl rfl (fun _ h=>h.size)
  case o10 =>
   exact Gv (base:=w4.heap.size) (z:=p.num.tdiv ((Nat.gcd p.num.natAbs q.den:Nat):Int)) rfl rfl ⟨trivial,trivial,trivial,NI.i _,NII.i _ _,NII.i _ _,NI.i _,NI.i _,NP.i _,NP.i _,NT.i,trivial⟩ (fun w w' g h hb hg=>h.grownR hg hb) (fun y w _ _ h=>⟨h.1,h.2.1⟩)
  case hk =>
   rintro k (rfl|rfl) o ho
   · cases ho;exact⟨rfl,rfl,fun y f=>CK rfl y f⟩
   · cases ho;exact⟨rfl,rfl,fun y f=>CK rfl y f⟩
  case hs1 =>
   intro o ho;cases ho;exact⟨rfl,rfl,_,_,rfl,rfl,rfl⟩
  case hp1=>exact⟨jA.1 (by kernel_rfl),jA.1 (by kernel_rfl)⟩
  case hnm =>
   intro i hi B;simp only[j8,mE]at hi
   match i,hi,B with
   | 0,_,_=>rfl
   | 1,_,_=>rfl
   | 2,_,_=>rfl
   | 3,_,_=>rfl
   | 4,_,_=>rfl
   | 5,_,_=>rfl
   | 6,_,_=>rfl
   | 7,_,_=>rfl
   | 8,_,_=>rfl
   | 9,_,_=>rfl
   | 10,_,B=>exact absurd rfl B
  case hj1 =>
   refine⟨rfl,fun v w h => ?_⟩;obtain⟨s,a,n,c,rfl,_,_⟩:=h;exact⟨Ac s a n c,rfl,rfl,Ae _ _ _ _⟩
  case fin =>
   intro f j;rintro _ ⟨bZ,bI,bV,bM,rfl,bA,bE⟩;rintro _ ⟨_,_,_,_,_,_,_,_,rfl,_,_⟩;rintro _ ⟨_,_,_,_,_,_,_,_,rfl,_,_⟩;rintro _ ⟨s5,a5,n5,c5,rfl,aV,az⟩;rintro _ ⟨s6,a6,n6,c6,rfl,aW,aA⟩;rintro _ ⟨g5,bQ,rfl,_,_,_,_⟩;rintro _ ⟨g6,bR,rfl,_,_,_,_⟩;rintro _ _;simp only[lq,lw,lx,lz,Act.put,lj,lk,ly,AX,Bf,mP,lO,kl,kK];rintro⟨ga,gb,S,J,N,l5,l6,B,e3,hA1,hA2⟩
   have T:Value.pointer (some ⟨g5,0,none⟩) = .pointer (some ⟨ga,0,none⟩):=J;have U:Value.pointer (some ⟨g6,0,none⟩) = .pointer (some ⟨gb,0,none⟩):=N;have V:Value.agg (Ac s5 a5 n5 c5).toArray = .agg S.toArray:=e3;simp only[l4,gK,iV,jp]at T U;have e4:S=Ac s5 a5 n5 c5:=by simpa using V.symm
   subst T;subst U;subst e4;clear J N e3 V;change wpList _ _ _ _ _ _
   go_upto_region 6 with(refine Aa (vs:=Ac s6 a6 n6 c6) rfl rfl rfl rfl rfl Ai hA2 rfl (Ae _ _ _ _) ?_;intro w6 b6 Y)
   have D:Ext w4 w6:=j.grownR Y l6;have bd:=hA1.kept Y (by simpa using B);have bg:=az.kept hA2 (Ax _ _ _ _) Y;have bh:=aA.kept hA2 (Ax _ _ _ _) Y;clear hA1 hA2 B j az aA Y;have X:=ae.trans D;have y0:=D.cell r0;have y1:=D.cell r1;have y2:=D.cell r2;have y3:=D.cell r3;have v0:=D.cell u0;have v1:=D.cell u1;have v2:=D.cell u2;have v3:=D.cell u3;have aP:=bf.ext D
   have R:=fun(f:World) (j:Ext w6 f)=>qh (And.intro (j.cell y0) (And.intro (j.cell y1) (And.intro (j.cell y2) (And.intro (j.cell y3) (And.intro (j.cell v0) (And.intro (j.cell v1) (And.intro (j.cell v2) (j.cell v3))))))))
   refine DR (by kernel_rfl) (fun f=>Ext w6 f)
    [he (.pointer (some ⟨(w.heap.size+1),0,none⟩)),
 he (.agg #[.bool H,.slice E G F]),
 he (.agg #[.bool s,.slice a n c,.bool false,.slice b m d]),
 hp (fun v f=>NI ((p.den:Int)) v f),
 hp (fun v f=>NII (q.num.tdiv ((Nat.gcd q.num.natAbs p.den:Nat):Int)) (((p.den/Nat.gcd q.num.natAbs p.den:Nat):Int)) v f),
 hp (fun v f=>NII (q.num.tdiv ((Nat.gcd q.num.natAbs p.den:Nat):Int)) (((p.den/Nat.gcd q.num.natAbs p.den:Nat):Int)) v f),
 hp (fun v f=>NI (q.num.tdiv ((Nat.gcd q.num.natAbs p.den:Nat):Int)) v f),
 hp (fun v f=>NI (((p.den/Nat.gcd q.num.natAbs p.den:Nat):Int)) v f),
 hp (NP w6.heap.size),
 hp (NP w6.heap.size),
 hmp (fun _ _=>True)]
    (by kernel_rfl) (fun _ _ e h=>h.trans e) ((Ext.refl w6).drew) ⟨trivial,trivial,trivial,NI.x _,NII.x _ _,NII.x _ _,NI.x _,NI.x _,NP.x _,NP.x _,NT.x,trivial⟩ ⟨?o0,?o1,?o2,?o3,?o4,?o5,?o6,?o7,?o8,?o9,?o10,trivial⟩ 8 9 10 6 83 (Ac false none 0 0) ⟨by simp,by simp,by simp,by simp⟩ (by omega) ?hk ?hs1 ?hp1 ?hnm Ai ?hj1 ?fin
   case o0=>exact ofa (d:=0)
   case o1=>exact ol2
   case o2=>exact ol4
   case o3 =>
    refine Ag rfl fun y f j l C h => ?_;have J:y (.tmp 43)=(.agg #[.bool s,.slice a n c,.bool false,.slice b m d]):=h.2.1;obtain⟨k0,k1,k2,k3,k4,k5,k6,k7⟩:=(R f j).out;refine⟨165,#[.agg #[.bool s,.slice a n c,.bool false,.slice b m d]],by go_simp,((aT f (X.trans j)).out).mono ?_⟩;rintro e w' ⟨H,E,G,F,rfl,A,L,K⟩;exact⟨_,rfl,A,H,E,G,F,rfl,L,K⟩
   case o4 =>
    refine Ag rfl fun y f j l C h => ?_;have J:y (.tmp 42)=(.agg #[.bool H,.slice E G F]):=h.2.1;obtain⟨v2,N,s2,a2,n2,c2,rfl,i2,j2⟩:=h.2.2.1;obtain⟨k0,k1,k2,k3,k4,k5,k6,k7⟩:=(R f j).out;refine⟨164,#[.agg #[.bool H,.slice E G F],.agg (Ac s2 a2 n2 c2).toArray],by go_simp,((aS f (X.trans j) _ ⟨s2,a2,n2,c2,rfl,i2,j2⟩).out).mono ?_⟩;rintro e w' ⟨H,E,G,F,t',b',m',d',rfl,A,h1,h2⟩;exact⟨_,rfl,A,H,E,G,F,t',b',m',d',rfl,h1,h2⟩
   case o5 =>
    refine AE rfl ?_;intro y f hp j h;have l:=hp.const;have C:=hp.func;obtain⟨v0,e0,s0,a0,n0,c0,t0,b0,m0,d0,rfl,i0,j0⟩:=h.1;obtain⟨k0,k1,k2,k3,k4,k5,k6,k7⟩:=(R f j).out;exact⟨_,f,by go_simp,Ext.refl _,s0,a0,n0,c0,t0,b0,m0,d0,rfl,i0,j0⟩
   case o6 =>
    refine AE rfl ?_;intro y f hp j h;have l:=hp.const;have C:=hp.func;obtain⟨v0,e0,s0,a0,n0,c0,t0,b0,m0,d0,rfl,i0,j0⟩:=h.1;obtain⟨k0,k1,k2,k3,k4,k5,k6,k7⟩:=(R f j).out;exact⟨_,f,by go_simp,Ext.refl _,s0,a0,n0,c0,rfl,i0.1,i0.2⟩
   case o7 =>
    refine AE rfl ?_;intro y f hp j h;have l:=hp.const;have C:=hp.func;obtain⟨v0,e0,s0,a0,n0,c0,t0,b0,m0,d0,rfl,i0,j0⟩:=h.1;obtain⟨k0,k1,k2,k3,k4,k5,k6,k7⟩:=(R f j).out;exact⟨_,f,by go_simp,Ext.refl _,t0,b0,m0,d0,rfl,j0.1,j0.2⟩
   case o8 =>
    exact CL rfl rfl (fun _ h=>h.size)
   case o9 =>
    exact CL rfl rfl (fun _ h=>h.size)
   case o10 =>
    exact Gv (base:=w6.heap.size) (z:=q.num.tdiv ((Nat.gcd q.num.natAbs p.den:Nat):Int)) rfl rfl ⟨trivial,trivial,trivial,NI.i _,NII.i _ _,NII.i _ _,NI.i _,NI.i _,NP.i _,NP.i _,NT.i,trivial⟩ (fun w w' g h hb hg=>h.grownR hg hb) (fun y w _ _ h=>⟨h.1,h.2.1⟩)
   case hk =>
    rintro k (rfl|rfl) o ho
    · cases ho;exact⟨rfl,rfl,fun y f=>CK rfl y f⟩
    · cases ho;exact⟨rfl,rfl,fun y f=>CK rfl y f⟩
   case hs1 =>
    intro o ho;cases ho;exact⟨rfl,rfl,_,_,rfl,rfl,rfl⟩
   case hp1=>exact⟨jA.1 (by kernel_rfl),jA.1 (by kernel_rfl)⟩
   case hnm =>
    intro i hi B;simp only[j8,mE]at hi
    match i,hi,B with
    | 0,_,_=>rfl
    | 1,_,_=>rfl
    | 2,_,_=>rfl
    | 3,_,_=>rfl
    | 4,_,_=>rfl
    | 5,_,_=>rfl
    | 6,_,_=>rfl
    | 7,_,_=>rfl
    | 8,_,_=>rfl
    | 9,_,_=>rfl
    | 10,_,B=>exact absurd rfl B
   case hj1 =>
    refine⟨rfl,fun v w h => ?_⟩;obtain⟨s,a,n,c,rfl,_,_⟩:=h;exact⟨Ac s a n c,rfl,rfl,Ae _ _ _ _⟩
   case fin =>
    intro f j;rintro _ ⟨c3,bJ,bW,bN,rfl,bB,bF⟩;rintro _ ⟨_,_,_,_,_,_,_,_,rfl,_,_⟩;rintro _ ⟨_,_,_,_,_,_,_,_,rfl,_,_⟩;rintro _ ⟨s7,a7,n7,c7,rfl,aX,aB⟩;rintro _ ⟨s8,a8,n8,c8,rfl,aY,aC⟩;rintro _ ⟨g7,bS,rfl,_,_,_,_⟩;rintro _ ⟨g8,bT,rfl,_,_,_,_⟩;rintro _ _;simp only[lq,lw,lx,lz,Act.put,lj,lk,ly,AX,Bf,mP,lO,kl,kK];rintro⟨ga,gb,S,J,N,l7,l8,B,e3,hA1,hA2⟩
    have T:Value.pointer (some ⟨g7,0,none⟩) = .pointer (some ⟨ga,0,none⟩):=J;have U:Value.pointer (some ⟨g8,0,none⟩) = .pointer (some ⟨gb,0,none⟩):=N;have V:Value.agg (Ac s7 a7 n7 c7).toArray = .agg S.toArray:=e3;simp only[l4,gK,iV,jp]at T U;have e4:S=Ac s7 a7 n7 c7:=by simpa using V.symm
    subst T;subst U;subst e4;clear J N e3 V;change wpList _ _ _ _ _ _
    go_upto_region 7 with(refine Aa (vs:=Ac s8 a8 n8 c8) rfl rfl rfl rfl rfl Ai hA2 rfl (Ae _ _ _ _) ?_;intro P b7 Z)
    have O:Ext w6 P:=j.grownR Z l8;have be:=hA1.kept Z (by simpa using B);have bi:=aB.kept hA2 (Ax _ _ _ _) Z;have bj:=aC.kept hA2 (Ax _ _ _ _) Z;clear hA1 hA2 B j aB aC Z;have aO:=X.trans O;have aQ:=aP.ext O;have ak:Arr P g5 83 (Ac s5 a5 n5 c5):=bd.ext O;have br:=ak.c 0 rfl;have bs:=ak.c 1 rfl;have al:Arr P g6 83 (Ac s6 a6 n6 c6):=b6.ext O;have bt:=al.c 0 rfl;have bu:=al.c 1 rfl;have am:Arr P g7 83 (Ac s7 a7 n7 c7):=be;have bv:=am.c 0 rfl;have bw:=am.c 1 rfl;have an:Arr P g8 83 (Ac s8 a8 n8 c8):=b7
    have bx:=an.c 0 rfl;have bz:=an.c 1 rfl;have i5:AF P (.agg (Ac s5 a5 n5 c5).toArray) (p.num.tdiv ((Nat.gcd p.num.natAbs q.den:Nat):Int)):=⟨s5,a5,n5,c5,rfl,aV,bg.ext O⟩;have i6:AF P (.agg (Ac s6 a6 n6 c6).toArray) (((q.den/Nat.gcd p.num.natAbs q.den:Nat):Int)):=⟨s6,a6,n6,c6,rfl,aW,bh.ext O⟩;have i7:AF P (.agg (Ac s7 a7 n7 c7).toArray) (q.num.tdiv ((Nat.gcd q.num.natAbs p.den:Nat):Int)):=⟨s7,a7,n7,c7,rfl,aX,bi⟩;have i8:AF P (.agg (Ac s8 a8 n8 c8).toArray) (((p.den/Nat.gcd q.num.natAbs p.den:Nat):Int)):=⟨s8,a8,n8,c8,rfl,aY,bj⟩
    have ad:=fun(f:World) (j:Ext P f)=>qh (And.intro (j.cell br) (And.intro (j.cell bs) (And.intro (j.cell bt) (And.intro (j.cell bu) (And.intro (j.cell bv) (And.intro (j.cell bw) (And.intro (j.cell bx) (j.cell bz))))))))
    refine Ab (by kernel_rfl) (fun f=>Ext P f)
     [he (.agg #[.bool s5,.slice a5 n5 c5]),
 he (.agg #[.bool s7,.slice a7 n7 c7]),
 hp (fun v f=>NI ((p*q).num) v f),
 he (.agg #[.bool s8,.slice a8 n8 c8]),
 he (.agg #[.bool s6,.slice a6 n6 c6]),
 hp (fun v f=>NI (((p*q).den:Int)) v f),
 hp (fun v f=>∃ cs,v = .agg cs.toArray/\CJ f cs (p*q))]
     (by kernel_rfl) (fun _ _ e h=>h.trans e) ((Ext.refl P).drew) ⟨trivial,trivial,NI.x _,trivial,trivial,NI.x _,fun v w w' e ⟨cs,h1,h2⟩=>⟨cs,h1,h2.ext e⟩,trivial⟩ ⟨?o0,?o1,?o2,?o3,?o4,?o5,?o6,trivial⟩ ?fin
    case o0 | o1 | o3 | o4=>exact ol2
    case o2 =>
     refine Ag rfl fun y f j l C h => ?_;have J:y (.tmp 48)=(.agg #[.bool s5,.slice a5 n5 c5]):=h.2.1;have N:y (.tmp 49)=(.agg #[.bool s7,.slice a7 n7 c7]):=h.2.2.1;obtain⟨aG,aH,aI,aJ,aK,aL,aM,aN⟩:=(ad f j).out;refine⟨163,#[.agg #[.bool s5,.slice a5 n5 c5],.agg #[.bool s7,.slice a7 n7 c7]],by go_simp,((ah f _ _ (i5.ext j) (i7.ext j)).out).mono ?_⟩;rintro e w' ⟨H,E,G,F,rfl,A,L,K⟩;exact⟨_,rfl,A,H,E,G,F,rfl,L,K⟩
    case o5 =>
     refine Ag rfl fun y f j l C h => ?_;have J:y (.tmp 51)=(.agg #[.bool s8,.slice a8 n8 c8]):=h.2.1;have N:y (.tmp 52)=(.agg #[.bool s6,.slice a6 n6 c6]):=h.2.2.1;obtain⟨aG,aH,aI,aJ,aK,aL,aM,aN⟩:=(ad f j).out;refine⟨163,#[.agg #[.bool s8,.slice a8 n8 c8],.agg #[.bool s6,.slice a6 n6 c6]],by go_simp,((ai f _ _ (i8.ext j) (i6.ext j)).out).mono ?_⟩;rintro e w' ⟨H,E,G,F,rfl,A,L,K⟩;exact⟨_,rfl,A,H,E,G,F,rfl,L,K⟩
    case o6 =>
     refine Ag rfl fun y f j l C h => ?_;obtain⟨v1,J,s1,a1,n1,c1,rfl,i1,j1⟩:=h.2.1;obtain⟨v2,N,s2,a2,n2,c2,rfl,i2,j2⟩:=h.2.2.1;obtain⟨aG,aH,aI,aJ,aK,aL,aM,aN⟩:=(ad f j).out;refine⟨166,#[.agg (Ac s1 a1 n1 c1).toArray,.agg (Ac s2 a2 n2 c2).toArray],by go_simp,(DV (q:=p*q) ⟨s1,a1,n1,c1,rfl,i1,j1⟩ ⟨s2,a2,n2,c2,rfl,i2,j2⟩).mono ?_⟩;rintro e w' ⟨cs,rfl,A,bl⟩;exact⟨_,rfl,A,cs,rfl,bl⟩
    case fin =>
     intro f j;rintro _ ⟨c4,bK,bX,bO,rfl,bC,bG⟩;rintro _ ⟨ca,bL,bY,bP,rfl,bD,bH⟩;rintro _ ⟨_,rfl,s9,a9,n9,c9,b9,m9,d9,rfl,aZ,bn,bp⟩;change wpList _ _ _ _ _ _;simp only[lq,lw,lx,lz,Act.put,lj,lk,ly];have ao:=aQ.ext j;have bU:(Al s9 a9 n9 c9 false b9 m9 d9).toArray=#[.bool s9,.slice a9 n9 c9,.bool false,.slice b9 m9 d9]:=rfl
     go_wp2_with(refine Aa (vs:=Al s9 a9 n9 c9 false b9 m9 d9) rfl rfl rfl rfl rfl Ak ao rfl (Aq _ _ _ _ _ _ _ _) ?_;intro w9 b8 bk)
     exact gF (Ap rfl Ak rfl b8) rfl (BG (aO.trans j) ao (AO _ _ _ _ _ _ _ _) bk (by omega) aZ bn bp)
theorem Ht(h:BU w v p)(K:BU w v' q)(h0:p=0\/q=0):Calls prog 85 #[v,v'] w (GN w (p*q)):=by
 obtain⟨_,rfl,s,a,n,c,b,m,d,rfl,J,L,V⟩:=h;obtain⟨_,rfl,s',R,X,T,S,W,U,rfl,A,D,M⟩:=K;have F:=fun(G:World) (C:Ext w G)=>qh (AA (r:=decide (p.num=0)) (A8 J (L.ext C)) rfl);have z:=fun(G:World) (C:Ext w G)=>qh (AA (r:=decide (q.num=0)) (A8 A (D.ext C)) rfl);have x:Hid (p*q=0):=by
  show _=_;rcases h0 with h|h
  · rw[h,Rat.zero_mul]
  · rw[h,Rat.mul_zero]
 go_enter func85,ntmps85
 go_upto_region 1 with(fail)
 refine CO ?_;intro P l j k B E;have Y:=j.c 0 rfl;have Z:=j.c 1 rfl;have p2:=j.c 2 rfl;have p3:=j.c 3 rfl;have N:=k.c 0 rfl;have O:=k.c 1 rfl;have q2:=k.c 2 rfl;have q3:=k.c 3 rfl;have H:Arr P (w.heap.size+2) 85 (Al false none 0 0 false none 0 0):=B;clear E
 go_wp2_with fail
 refine(F _ l).out.mono ?_;rintro e w1 ⟨rfl,f⟩;by_cases i:p.num=0
 · rw[iA i];have g:=H.ext f;clear i h0
   go_wp2_with(refine Aa (vs:=Al false none 0 0 false none 0 0) rfl rfl rfl rfl rfl Ak g rfl (Aq _ _ _ _ _ _ _ _) ?_;intro Q o t)
   refine gF (Ap rfl Ak rfl o) rfl ?_;rw[x.out];exact BG (l.trans f) g (AO _ _ _ _ _ _ _ _) t (by omega) (qh rfl) (Wd.nil _) (Wd.nil _)
 · rw[gR i];have I:q.num=0:=by
    rcases h0 with h|h
    · exact absurd (Pl.rat_num_den_zero.2 h) i
    · exact Pl.rat_num_den_zero.2 h
   rw[iA I]at z;have r0:=f.cell N;have r1:=f.cell O;clear i h0 I
   go_wp2_with fail
   refine(z _ (l.trans f)).out.mono ?_;rintro e w2 ⟨rfl,y⟩;have g:=(H.ext f).ext y
   go_wp2_with(refine Aa (vs:=Al false none 0 0 false none 0 0) rfl rfl rfl rfl rfl Ak g rfl (Aq _ _ _ _ _ _ _ _) ?_;intro Q o t)
   refine gF (Ap rfl Ak rfl o) rfl ?_;rw[x.out];exact BG ((l.trans f).trans y) g (AO _ _ _ _ _ _ _ _) t (by omega) (qh rfl) (Wd.nil _) (Wd.nil _)
theorem Lw(h:BU w v p)(h':BU w v' q)(H:p.num.natAbs<P2 2400)(b3:q.num.natAbs<P2 2400)(B:p≠0)(C:q≠0)(J:p.den=1)(K:q.den=1):Calls prog 85 #[v,v'] w (GN w (p*q)):=by
 obtain⟨_,rfl,s,a,n,c,b,m,d,rfl,HS,hx,hy⟩:=h;obtain⟨_,rfl,s',a',n',c',b',m',d',rfl,y,D,T⟩:=h';have V:=fun(x:World) (k:Ext w x)=>qh (AA (r:=false) (A8 HS (hx.ext k)) (gR (mt Pl.rat_num_den_zero.1 B)));have W:=fun(x:World) (k:Ext w x)=>qh (AA (r:=false) (A8 y (D.ext k)) (gR (mt Pl.rat_num_den_zero.1 C)));have X:=fun(x:World) (k:Ext w x)=>qh (AA (r:=true) (Bh (hy.ext k)) (iA (AG.2 J)))
 have Y:=fun(x:World) (k:Ext w x)=>qh (AA (r:=true) (Bh (T.ext k)) (iA (AG.2 K)));have R:=fun(x:World) (k:Ext w x)=>qh (CA (A8 HS (hx.ext k)) (A8 y (D.ext k)) (Af H (by omega)) (Af b3 (by omega)) (Or.inl (Af H (by omega))));have E:=qh (Pl.rat_mul_whole p q J K);clear H b3 B C J K
 go_enter func85,ntmps85
 go_upto_region 1 with(fail)
 refine CO ?_;intro w0 j l o L U;have p0:=l.c 0 rfl;have p1:=l.c 1 rfl;have p2:=l.c 2 rfl;have p3:=l.c 3 rfl;have q0:=o.c 0 rfl;have q1:=o.c 1 rfl;have q2:=o.c 2 rfl;have q3:=o.c 3 rfl;have hR:Arr w0 (w.heap.size+2) 85 (Al false none 0 0 false none 0 0):=L;clear U
 go_wp2_with fail
 refine(V _ j).out.mono ?_;rintro e w1 ⟨rfl,t⟩;have r0:=t.cell q0;have r1:=t.cell q1
 go_wp2_with fail
 refine(W _ (j.trans t)).out.mono ?_;rintro e w2 ⟨rfl,N⟩;have g:=t.trans N;have t2:=g.cell p2;have t3:=g.cell p3;clear r0 r1
 go_wp2_with fail
 refine(X _ (j.trans g)).out.mono ?_;rintro e w3 ⟨rfl,O⟩;have i:=g.trans O;have r2:=i.cell q2;have r3:=i.cell q3;clear t2 t3
 go_wp2_with fail
 refine(Y _ (j.trans i)).out.mono ?_;rintro e w4 ⟨rfl,P⟩;have f:=i.trans P;have t0:=f.cell p0;have t1:=f.cell p1;have u0:=f.cell q0;have u1:=f.cell q1;clear r2 r3
 go_wp2_with fail
 refine(R _ (j.trans f)).out.mono ?_;rintro e w5 ⟨s1,G,Z,I,rfl,z,F,S⟩;have a0:(Ac s1 G Z I).toArray=#[.bool s1,.slice G Z I]:=rfl;have A:=(hR.ext f).ext z
 go_wp2_with(refine Aa (vs:=Al s1 G Z I false none 0 0) rfl rfl rfl rfl rfl Ak A rfl (Aq _ _ _ _ _ _ _ _) ?_;intro w9 M Q)
 exact gF (Ap rfl Ak rfl M) rfl (BG ((j.trans f).trans z) A (AO _ _ _ _ _ _ _ _) Q (by omega) (by rw[E.out.1];exact F) (by rw[E.out.1];exact S) (by rw[AG.2 E.out.2];exact Wd.nil _))
theorem Nx(k:AM w)(h:BU w v p)(c:BU w v' q)(d:p.num.natAbs<P2 2400)(f:p.den<P2 2400)(e:q.num.natAbs<P2 2400)(g:q.den<P2 2400):Calls prog 85 #[v,v'] w (GN w (p*q)):=by
 by_cases a:p=0
 · exact Ht h c (Or.inl a)
 by_cases b:q=0
 · exact Ht h c (Or.inr b)
 by_cases i:p.den=1
 · by_cases j:q.den=1
   · exact Lw h c d e a b i j
   · exact IY k h c d f e g a b (Or.inr j)
 · exact IY k h c d f e g a b (Or.inl i)
theorem TA{k:List Int}(h:l.length=k.length)(e:AY l=AY k):l=k:=by
 have:=iP (List.take l.length) e;simpa[AY,h]using this
theorem Qs{xs ys:List Tx}(hp:xs.take k=ys.take k)(h1:k<xs.length)(h2:k<ys.length)(he:xs.getD k tm0=ys.getD k tm0):xs.take (k+1)=ys.take (k+1):=by
 simp only[gqq,h1,h2,gD,gP]at he;rw[gM h1,gM h2,hp,he]
theorem B9{d:Nat}{xs ys:List Tx}(hx:AH w a n c xs)(hy:AH w b m d ys) :
 Calls prog 18 #[.agg #[.int .i64 va,.slice a n c],.agg #[.int .i64 vb,.slice b m d]] w fun e w'=>e = .returned (.bool (decide (va=vb/\xs=ys)))/\Ext w w':=by
 obtain⟨r,hr⟩:∃ r,decide (va=vb/\xs=ys)=r:=⟨_,rfl⟩;rw[hr];have HR:=qh hr;clear hr;have a0:=hx.len;have a3:=hy.len;obtain⟨rx,hX,_,a4⟩:=hx;obtain⟨ry,hY,_,a5⟩:=hy;have aj:=qh a4;have ak:=qh a5;have J:=qh a0;have K:=qh a3;clear a4 a5 a0 a3;have aw:=hX.le;have av:=hY.le
 go_enter func18,ntmps18
 go_upto_region 1 with(fail)
 refine Cf ?_;intro w0 P M N ap;have ax:=M.c 0 rfl;have aq:=M.c 1 rfl;have ay:=N.c 0 rfl;have ar:=N.c 1 rfl;clear M N ap;by_cases hv:va=vb
 · subst hv;have ao:(va != va)=false:=by simp
   by_cases Z:n=m
   · have an:((n:Int) != (m:Int))=false:=by simp[Z]
     have HL:=qh Z;clear Z;go_wp2
     go_loopw[5] (fun i wr=>∃ k:Nat,k<=n/\i = .int .i64 k/\Ext w0 wr/\Hid (xs.take k=ys.take k)) (fun i _=>n-(intOf i).toNat)
     case atStart=>exact⟨0,gO _,rfl,Ext.refl _,qh rfl⟩
     case round =>
      obtain⟨k,hk,rfl,H,HP⟩:=hrel;have O:=P.trans H;have ae:=H.cell aq;have af:=H.cell ar;by_cases T:k<n
      · have t:k<m:=by have:=HL.out;omega
        obtain⟨q,o1,rfl,R⟩:=(hX.ext O).rd (by omega);obtain⟨s,o2,rfl,S⟩:=(hY.ext O).rd (by omega);obtain⟨s1,a1,n1,c1,a6,a8,ac⟩:=aj.out k T;obtain⟨I,a2,n2,c2,a7,a9,ad⟩:=ak.out k t;have x0:=R k T 0 (by omega);have x1:=R k T 1 (by omega);have y0:=S k t 0 (by omega);have y1:=S k t 1 (by omega);rw[a6]at x0 x1;rw[a7]at y0 y1;simp only[kD,kQ,iO]at x0 x1 y0 y1;have Y:=fun(g:World) (f:Ext wr g)=>qh (LT ((ac.ext O).ext f) ((ad.ext O).ext f))
        have G:Hid ((xs.getD k tm0).1=An s1/\(ys.getD k tm0).1=An I):=qh ⟨a8.symm,a9.symm⟩
        have W:Hid (((xs.getD k tm0).1≠(ys.getD k tm0).1\/(xs.getD k tm0).2≠(ys.getD k tm0).2)->r=false):=qh (fun h=>by
         rw[<-HR.out];apply gR;rintro⟨_,rfl⟩
         rcases h with h|h <;> exact h rfl)
        clear R S a6 a7 a8 a9 ac ad;generalize aa:(xs.getD k tm0).2=E at *
        generalize ab:(ys.getD k tm0).2=e2 at *
        have X:=qh (And.intro aa ab);clear aa ab;go_wp2;by_cases x:s1.toList=I.toList
        · have ag:(s1.toList != I.toList)=false:=by simp[x]
          have al:Hid ((xs.getD k tm0).1=(ys.getD k tm0).1):=qh (by
           rw[G.out.1,G.out.2];unfold An;rw[jD,jD]at x
           exact x)
          obtain⟨L,Q⟩:∃ L,decide (E=e2)=L:=⟨_,rfl⟩;have V:=fun(g:World) (f:Ext wr g)=>qh (Y g f).out;rw[Q]at V;have U:=qh Q;clear Y Q;have o:=fun(g:World) (f:Ext wr g)=>qh (And.intro (f.cell ae) (And.intro (f.cell af) (And.intro (f.cell x0) (And.intro (f.cell x1) (And.intro (f.cell y0) (f.cell y1))))))
          refine Ab (by kernel_rfl) (fun g=>Ext wr g)
           [he (.pointer (some ⟨w.heap.size,1,none⟩)),
 he (.slice (some ⟨q,o1,none⟩) n c),
 he (.int .i64 (k:Int)),
 he (.pointer (some ⟨q,(o1+k*2),none⟩)),
 he (.pointer (some ⟨q,(o1+k*2),none⟩)),
 he (.string s1),
 he (.pointer (some ⟨(w.heap.size+1),1,none⟩)),
 he (.slice (some ⟨s,o2,none⟩) m d),
 he (.int .i64 (k:Int)),
 he (.pointer (some ⟨s,(o2+k*2),none⟩)),
 he (.pointer (some ⟨s,(o2+k*2),none⟩)),
 he (.string I),
 he (.bool false),
 he (.bool false),
 he (.pointer (some ⟨w.heap.size,1,none⟩)),
 he (.slice (some ⟨q,o1,none⟩) n c),
 he (.int .i64 (k:Int)),
 he (.pointer (some ⟨q,(o1+k*2),none⟩)),
 he (.pointer (some ⟨q,((o1+k*2)+1),none⟩)),
 he (.slice a1 n1 c1),
 he (.pointer (some ⟨(w.heap.size+1),1,none⟩)),
 he (.slice (some ⟨s,o2,none⟩) m d),
 he (.int .i64 (k:Int)),
 he (.pointer (some ⟨s,(o2+k*2),none⟩)),
 he (.pointer (some ⟨s,((o2+k*2)+1),none⟩)),
 he (.slice a2 n2 c2),
 hp (fun v g=>v = .bool L),
 he (.bool (!L)),
 he (.bool (!L))]
           (by kernel_rfl) (fun _ _ e h=>h.trans e) ((Ext.refl wr).drew) ⟨trivial,trivial,trivial,trivial,trivial,trivial,trivial,trivial,trivial,trivial,trivial,trivial,trivial,trivial,trivial,trivial,trivial,trivial,trivial,trivial,trivial,trivial,trivial,trivial,trivial,trivial,fun v w w' e h=>h,trivial,trivial,trivial⟩ ⟨?o0,?o1,?o2,?o3,?o4,?o5,?o6,?o7,?o8,?o9,?o10,?o11,?o12,?o13,?o14,?o15,?o16,?o17,?o18,?o19,?o20,?o21,?o22,?o23,?o24,?o25,?o26,?o27,?o28,trivial⟩ ?fin
          case o0 | o6 | o14 | o18 | o20 | o24=>exact ofa (d:=1)
          case o1 | o5 | o7 | o11 | o15 | o19 | o21 | o25=>exact ol
          case o2 | o8 | o13 | o16 | o22=>exact omv
          case o4 | o10=>exact ofa (d:=0)
          case o3 =>
           refine Aj rfl fun l g f j h => ?_;have e0:l (.tmp 28)=(.slice (some ⟨q,o1,none⟩) n c):=h.1;have E:l (.tmp 29)=(.int .i64 (k:Int)):=h.2.1;obtain⟨y,z,A,B,C,D⟩:=(o g f).out;go_simp
           try (first | (intros;omega) | exact gI _ (by omega))
          case o9 =>
           refine Aj rfl fun l g f j h => ?_;have e0:l (.tmp 34)=(.slice (some ⟨s,o2,none⟩) m d):=h.1;have E:l (.tmp 35)=(.int .i64 (k:Int)):=h.2.1;obtain⟨y,z,A,B,C,D⟩:=(o g f).out;go_simp
           try (first | (intros;omega) | exact gI _ (by omega))
          case o12 =>
           refine Aj rfl fun l g f j h => ?_;have e0:l (.tmp 32)=(.string s1):=h.1;have E:l (.tmp 38)=(.string I):=h.2.1;obtain⟨y,z,A,B,C,D⟩:=(o g f).out;go_simp
           try (first | (intros;omega) | exact gI _ (by omega))
          case o17 =>
           refine Aj rfl fun l g f j h => ?_;have e0:l (.tmp 42)=(.slice (some ⟨q,o1,none⟩) n c):=h.1;have E:l (.tmp 43)=(.int .i64 (k:Int)):=h.2.1;obtain⟨y,z,A,B,C,D⟩:=(o g f).out;go_simp
           try (first | (intros;omega) | exact gI _ (by omega))
          case o23 =>
           refine Aj rfl fun l g f j h => ?_;have e0:l (.tmp 48)=(.slice (some ⟨s,o2,none⟩) m d):=h.1;have E:l (.tmp 49)=(.int .i64 (k:Int)):=h.2.1;obtain⟨y,z,A,B,C,D⟩:=(o g f).out;go_simp
           try (first | (intros;omega) | exact gI _ (by omega))
          case o26 =>
           refine Ag rfl fun l g f j au h => ?_;have E:l (.tmp 46)=(.slice a1 n1 c1):=h.2.1;have e2:l (.tmp 52)=(.slice a2 n2 c2):=h.2.2.1;obtain⟨y,z,A,B,C,D⟩:=(o g f).out;refine⟨26,#[.slice a1 n1 c1,.slice a2 n2 c2],by go_simp,((V g f).out).mono ?_⟩;rintro e w' ⟨rfl,am⟩;exact⟨_,rfl,am.ext,rfl⟩
          case o27 =>
           refine Aj rfl fun l g f j h => ?_;obtain⟨v0,e0,rfl⟩:=h.1;obtain⟨y,z,A,B,C,D⟩:=(o g f).out;go_simp
          case o28 =>
           refine Aj rfl fun l g f j h => ?_;have e0:l (.tmp 40)=(.bool false):=h.1;have e2:l (.tmp 54)=(.bool (!L)):=h.2.2.1;obtain⟨y,z,A,B,C,D⟩:=(o g f).out;go_simp
          case fin =>
           intro g f;rintro _ rfl;change wpList _ _ _ _ _ _;simp only[lq,lw,lx,lz,Act.put,lj,lk,ly];cases L with
           | true =>
            have ah:=qh (kE U.out);go_wp2;go_roundw
            case rel=>exact⟨k+1,by omega,by go_num,H.trans f,qh (Qs HP.out (by have:=J.out;omega) (by have:=K.out;omega) (Prod.ext al.out (by rw[X.out.1,X.out.2,ah.out])))⟩
            case measure=>simp[intOf];omega
           | false =>
            have p:Hid (r=false):=qh (W.out (Or.inr (of_decide_eq_false U.out)));go_wp2;go_ret;exact⟨by rw[p.out];rfl,O.trans f⟩
        · have ag:(s1.toList != I.toList)=true:=pb.2 x
          have p:Hid (r=false):=qh (W.out (Or.inl (by
           rw[G.out.1,G.out.2];unfold An;intro h;apply x;rw[jD,jD]
           exact h)))
          have F:=fun(g:World) (f:Ext wr g)=>qh (And.intro (f.cell ae) (And.intro (f.cell af) (And.intro (f.cell x0) (And.intro (f.cell x1) (And.intro (f.cell y0) (f.cell y1))))))
          refine Ab (by kernel_rfl) (fun g=>Ext wr g)
           [he (.pointer (some ⟨w.heap.size,1,none⟩)),
 he (.slice (some ⟨q,o1,none⟩) n c),
 he (.int .i64 (k:Int)),
 he (.pointer (some ⟨q,(o1+k*2),none⟩)),
 he (.pointer (some ⟨q,(o1+k*2),none⟩)),
 he (.string s1),
 he (.pointer (some ⟨(w.heap.size+1),1,none⟩)),
 he (.slice (some ⟨s,o2,none⟩) m d),
 he (.int .i64 (k:Int)),
 he (.pointer (some ⟨s,(o2+k*2),none⟩)),
 he (.pointer (some ⟨s,(o2+k*2),none⟩)),
 he (.string I),
 he (.bool true),
 he (.bool true),
 he undef,
 he undef,
 he undef,
 he undef,
 he undef,
 he undef,
 he undef,
 he undef,
 he undef,
 he undef,
 he undef,
 he undef,
 he undef,
 he undef,
 he (.bool true)]
           (by kernel_rfl) (fun _ _ e h=>h.trans e) ((Ext.refl wr).drew) ⟨trivial,trivial,trivial,trivial,trivial,trivial,trivial,trivial,trivial,trivial,trivial,trivial,trivial,trivial,trivial,trivial,trivial,trivial,trivial,trivial,trivial,trivial,trivial,trivial,trivial,trivial,trivial,trivial,trivial,trivial⟩ ⟨?o0,?o1,?o2,?o3,?o4,?o5,?o6,?o7,?o8,?o9,?o10,?o11,?o12,?o13,?o14,?o15,?o16,?o17,?o18,?o19,?o20,?o21,?o22,?o23,?o24,?o25,?o26,?o27,?o28,trivial⟩ ?fin
          case o0 | o6=>exact ofa (d:=1)
          case o1 | o5 | o7 | o11=>exact ol
          case o2 | o8 | o13=>exact omv
          case o4 | o10=>exact ofa (d:=0)
          case o14 | o15 | o16 | o17 | o18 | o19 | o20 | o21 | o22 | o23 | o24 | o25 | o26 | o27=>exact O5 rfl
          case o3 =>
           refine Aj rfl fun l g f j h => ?_;have e0:l (.tmp 28)=(.slice (some ⟨q,o1,none⟩) n c):=h.1;have E:l (.tmp 29)=(.int .i64 (k:Int)):=h.2.1;obtain⟨y,z,A,B,C,D⟩:=(F g f).out;go_simp
           try (first | (intros;omega) | exact gI _ (by omega))
          case o9 =>
           refine Aj rfl fun l g f j h => ?_;have e0:l (.tmp 34)=(.slice (some ⟨s,o2,none⟩) m d):=h.1;have E:l (.tmp 35)=(.int .i64 (k:Int)):=h.2.1;obtain⟨y,z,A,B,C,D⟩:=(F g f).out;go_simp
           try (first | (intros;omega) | exact gI _ (by omega))
          case o12 =>
           refine Aj rfl fun l g f j h => ?_;have e0:l (.tmp 32)=(.string s1):=h.1;have E:l (.tmp 38)=(.string I):=h.2.1;obtain⟨y,z,A,B,C,D⟩:=(F g f).out;go_simp
           try (first | (intros;omega) | exact gI _ (by omega))
          case o28 =>
           refine Aj rfl fun l g f j h => ?_;have e0:l (.tmp 40)=(.bool true):=h.1;have e2:l (.tmp 54)=undef:=h.2.2.1;obtain⟨y,z,A,B,C,D⟩:=(F g f).out;go_simp
          case fin =>
           intro g f;change wpList _ _ _ _ _ _;simp only[lq,lw,lx,lz,Act.put,lj,lk,ly];go_wp2;go_ret;exact⟨by rw[p.out];rfl,O.trans f⟩
      · have ai:Hid (r=true):=qh (by
         rw[<-HR.out];apply iA;refine⟨by trivial,?_⟩;have h1:=HP.out;have h2:=HL.out
         rwa[gG (by have:=J.out;omega),gG (by have:=K.out;omega)]at h1)
        go_wp2;go_ret;exact⟨by rw[ai.out];rfl,O⟩
   · have an:((n:Int) != (m:Int))=true:=by simp;omega
     have p:Hid (r=false):=qh (by
      rw[<-HR.out];apply gR;rintro⟨_,rfl⟩
      exact Z (J.out.symm.trans K.out))
     clear Z;go_wp2;go_ret;exact⟨by rw[p.out];rfl,P⟩
 · have ao:(va != vb)=true:=by simpa using hv
   have p:Hid (r=false):=qh (by
    rw[<-HR.out];apply gR;rintro⟨h,_⟩
    exact hv h)
   clear hv;go_wp2;go_ret;exact⟨by rw[p.out];rfl,P⟩
theorem OR(l:List Pl.Tm):(AC l).length=l.length:=iM ..
theorem UQ(a b:List Pl.Tm):AC (a ++ b)=AC a ++ AC b:=iJ ..
theorem It{n:Nat}:∀ {l:List Pl.Tm},(∀ t∈l,t.1.length=n)->∀ {e:List Int},e.length=n->Pl.coef (AC l) (AY e)=Pl.coef l e
 | [],_,_,_=>rfl
 | t :: r,hl,e,he=>by
  have ih:=It (l:=r) (fun s a=>hl s (by simp[a])) he;have h1:(AY t.1=AY e)<->t.1=e:=⟨fun h=>TA ((hl t (by simp)).trans he.symm) h,fun h=>by rw[h]⟩;show(if AY t.1=AY e then t.2 else 0)+Pl.coef (AC r) (AY e)=(if t.1=e then t.2 else 0)+Pl.coef r e;rw[ih];simp only[h1]
theorem IS{l:List Pl.Tm}(a:∀ t∈l,t.1.length=n){e:List Int}(h:¬ ∃ x:List Int,x.length=n/\AY x=e):Pl.coef (AC l) e=0:=by
 refine Pl.coef_absent fun t c he => ?_;obtain⟨s,b,rfl⟩:=ie.1 c;exact h ⟨s.1,a s b,he⟩
theorem KM{a b:List Pl.Tm}(d:∀ t∈a,t.1.length=n)(f:∀ t∈b,t.1.length=n)(h:∀ e,e.length=n->Pl.coef a e=Pl.coef b e):∀ e,Pl.coef (AC a) e=Pl.coef (AC b) e:=by
 intro e;by_cases c:∃ x:List Int,x.length=n/\AY x=e
 · obtain⟨x,h1,rfl⟩:=c;rw[It d h1,It f h1,h x h1]
 · rw[IS d c,IS f c]
theorem KN(d:n<=6){l:List Pl.Tm}(h:Pl.Canon n l):Pl.Canon 6 (AC l):=by
 refine⟨?_,?_,?_⟩
 · intro t b;obtain⟨s,a,rfl⟩:=ie.1 b;exact D0 (by rw[h.len s a];exact d)
 · intro t b;obtain⟨s,a,rfl⟩:=ie.1 b;exact h.nz s a
 · refine ma.2 (h.desc.imp_of_mem ?_);intro s t a b c;rw[Km ((h.len s a).trans (h.len t b).symm)];exact c
def wrU(l:List Pl.Tm):List Tx:=l.map (fun t=>(txt t.2,t.1))
theorem VT{l:List Pl.Tm}(h:∀ t∈l,t.1.length=n):wrT n (AC l)=wrU l:=by
 unfold wrT AC wrU;rw[jO];refine kh fun t a => ?_;show(txt t.2,(AY t.1).take n)=(txt t.2,t.1);rw[<-h t a,Ie]
def okU(l:List Pl.Tm):Prop:=l.length<=4096/\∀ t r,l=t :: r->A3 t.1=true
theorem Ru(b:n<=6){l:List Pl.Tm}(h:∀ t∈l,t.1.length=n):okW (AC l)<->okU l:=by
 unfold okW okU;rw[OR];refine and_congr_right fun _ => ?_;cases l with
 | nil=>simp[AC]
 | cons t r =>
  have a:=GC (l:=t.1) (by rw[h t (by simp)];exact b);constructor
  · intro h1 d c he;injection he with h2 h3;subst h2;have:=h1 _ _ rfl;rw[<-a];exact this
  · intro h1 d c he;injection he with h2 h3;rw[<-h2];show A3 (AY t.1)=true;rw[a];exact h1 _ _ rfl
theorem OS(b:n<=6){l p:List Pl.Tm}(h:Pl.Canon n l)(c:∀ e,Pl.coef (AC l) e=Pl.coef p e):(okU l/\resQ (n:Int) p=((n:Int),wrU l,0))\/(¬ okU l/\resQ (n:Int) p=(0,[],2)):=by
 have h1:cnP p=AC l:=P4 (KN b h) c;unfold resQ;rw[h1,jc,VT h.len];by_cases a:okU l
 · exact Or.inl ⟨a,gY ((Ru b h.len).2 a)⟩
 · exact Or.inr ⟨a,gT fun h2=>a ((Ru b h.len).1 h2)⟩
end Go.Proofs.YtlbmnokpiilfpaaGreatDoor
