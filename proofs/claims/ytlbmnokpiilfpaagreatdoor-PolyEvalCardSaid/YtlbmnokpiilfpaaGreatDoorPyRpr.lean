/- Part PyRpr. -/
import Derived.Test.YtlbmnokpiilfpaaGreatDoorPyRev
import Derived.Test.YtlbmnokpiilfpaaGreatDoorPyZdn
import Derived.Test.YtlbmnokpiilfpaaGreatDoorPyZne

set_option linter.all false
set_option maxRecDepth 100000
set_option maxHeartbeats 100000000
namespace Go.Proofs.YtlbmnokpiilfpaaGreatDoor
open Tryz Go Go.RowKit
variable {va:Int} {N c n:Nat} {a:Option Addr} {q:Rat} {w:World}
theorem SW(q:Rat)(l:List Pl.Tm):A8 (Pl.scl q l)=Pl.scl q (A8 l):=by
 unfold A8 Pl.scl;rw[lJ,lJ];rfl
theorem Le{l:List Pl.Tm}(h:Pl.Canon n l)(c:q≠0):Pl.Canon n (Pl.scl q l):=by
 refine⟨fun t b => ?_,fun t b => ?_,?_⟩
 · obtain⟨s,a,rfl⟩:=gT.1 b;exact h.len s a
 · obtain⟨s,a,rfl⟩:=gT.1 b;exact fun e=>(oJ.1 e).elim c (h.nz s a)
 · unfold Pl.scl;rw[lU];exact h.desc
theorem SZ{ts:List Tx}{a out:List Pl.Tm}(h:rdR (N:Int) ts=some a)(i:primF (A8 a)≠0)(b:Pl.Canon N out)(g:∀ x,Pl.coef out x=Pl.coef ([] ++ Pl.scl (primF (A8 a)) a) x):primA (N:Int) ((some a).map A8)=((N:Int),wrU out,0):=by
 have h1:=BP h;have d:=DU h;rw[jf]at d;have c:out=Pl.scl (primF (A8 a)) a:=Pl.canon_ext b (Le d i) g;have f:okU out:=by
  rw[c];refine⟨?_,fun t r e => ?_⟩
  · unfold Pl.scl;rw[iM,h1.1,iM];exact h1.2.1
  · cases a with
    | nil=>cases e
    | cons t0 r0 =>
     cases e;unfold rdR at h;split at h
     · rename_i h3;cases ts with
       | nil=>cases h1.1
       | cons s0 q0 =>
        have h4:(t0 :: r0)=((s0 :: q0).map rdU):=h1.1;cases h4;exact h3.2 s0 q0 rfl
     · cases h
 have j:=MK (n:=N) (by omega) b (p:=BH (primF (A8 a)) (A8 a)) (fun e=>by
  rw[c,SW,Pl.coef_scl,Fj])
 rcases j with⟨_,h2⟩|⟨h2,_⟩
 · exact h2
 · exact absurd f h2
theorem S0(N:Int)(h:0<=N/\N<=6):primA N ((some []).map A8)=(N,wrU [],0):=by
 obtain⟨k,rfl⟩:∃ k:Nat,N=(k:Int):=⟨N.toNat,by omega⟩
 have a:=MK (n:=k) (l:=[]) (by omega) (Pl.Canon.nil k) (p:=BH (primF (A8 [])) (A8 [])) (fun e=>by
  rw[Fj];show(0:Rat)=_*0
  rw[Rat.mul_zero])
 rcases a with⟨_,h2⟩|⟨h2,_⟩
 · exact h2
 · exact absurd ⟨by simp,by intro t r e;cases e⟩ h2
theorem PW(c:Rat):((1:Int):Rat)/c=c⁻¹:=by
 rw[Rat.div_def];exact nZ _
theorem S2(c:Rat):((1:Int):Rat)/(-c) = -c⁻¹:=by
 rw[PW]
 grind
def NSp(b0 base:Nat)(N:Nat)(l:List Pl.Tm)(v:Value)(w:World):Prop:=∃ a n c out,v = .agg (pL (N:Int) a n c).toArray/\TO w b0 base a n c out/\n<=l.length/\Pl.Canon N out/\∀ x,Pl.coef out x=Pl.coef l x
theorem NSp.x(b0 base N:Nat)(l:List Pl.Tm):∀ (v:Value) (w d:World),Ext w d->NSp b0 base N l v w->NSp b0 base N l v d:=fun _ _ _ e ⟨a,n,c,b,h1,h2,h3⟩=>⟨a,n,c,b,h1,h2.ext e,h3⟩
theorem It{ta:List Tx}(ha:Be w a n c ta)(sa:∀ t∈ta,t.1.length<=12)(hn:n<=8) :
 Calls prog 62 #[.agg #[.int .i64 va,.slice a n c]] w (DP w (primA va (rdP va ta))):=by
 rw[Ju va ta];have bg:=qh ha.len;have bi:=qh sa;obtain⟨oa,aA⟩:∃ o,rdR va ta=o:=⟨_,rfl⟩;have O:=qh aA;rw[aA];obtain⟨r,hr⟩:∃ r,primA va (oa.map A8)=r:=⟨_,rfl⟩;have HR:=qh hr;rw[hr];clear hr;have bJ:∀ t∈ta,t.1.length<=10000:=fun t B=>oS (sa t B) (by omega);clear sa
 go_enter func62,ntmps62
 go_upto_region 1 with(fail)
 refine Ch ?_;intro w0 bp aO bn cb;have bu:Arr w0 (w.heap.size+1) 28 (As 0 none 0 0):=bn;have p0:=aO.c 0 rfl;have p1:=aO.c 1 rfl;have be:=Ext.refl w0;clear aO bn cb;have aK:=qh (FN (vars:=va) ha (bp.trans be) bJ);rw[aA]at aK;clear aA
 go_wp2_with fail
 refine aK.out.mono ?_;rintro e aF ⟨a1,n1,c1,rfl,bq,bx⟩;obtain⟨x1,ao⟩:∃ y,(if oa.isSome=true then va else 0)=y:=⟨_,rfl⟩;obtain⟨k1,aU⟩:∃ y,oa.isSome=y:=⟨_,rfl⟩;rw[ao,aU];have bl:=qh ao;have aN:=qh aU;have hY:=Arr.new aF 44 (pL 0 none 0 0);have c0:(pL x1 a1 n1 c1).toArray=#[.int .i64 x1,.slice a1 n1 c1]:=rfl;clear ao aU aK
 go_upto_region 2 with(refine Aa (vs:=pL x1 a1 n1 c1) rfl rfl rfl rfl rfl Bj hY rfl (Bv _ _ _ _) ?_;intro U hB hg)
 have hF:Ext aF U:=((Ext.refl aF).alloc _).grownR hg (lrf _);have hG:=bq.trans hF;have bb:=be.trans hG;have bk:=qh (bx.ext hF);obtain⟨Y1,ab⟩:∃ x,aF.heap.size=x:=⟨_,rfl⟩;rw[ab]at hB |-;have K:=hB.c 0 rfl;have L:=hB.c 1 rfl;have bd:=hB.lt;clear hY c0 hg hB ab bx hF hG bq;have af:=qh (bp.trans bb);have hR:=bu.ext bb;have bU:=qh (And.intro bd (And.intro hR.lt af.out.size));clear bd p0 p1 ha bJ bu;cases k1 with
 | false =>
  have bQ:Hid (primA va (oa.map A8)=(0,[],1)):=qh (by
   have h1:=aN.out;cases oa with
   | none=>rfl
   | some l=>cases h1)
  go_wp2_with(refine Aa (vs:=As 0 none 0 0) rfl rfl rfl rfl rfl An hR rfl (AB _ _ _ _) ?_;intro w9 ah S)
  refine oM (Ar rfl An rfl rfl ah) rfl ?_;have b1:=HR.out.symm.trans bQ.out;subst b1;exact⟨none,0,0,rfl,af.out.grownR S (by omega),TmO.nil _ _⟩
 | true =>
  obtain⟨f,c5⟩:=je.1 aN.out;subst c5;have c8:va=x1:=bl.out;subst c8;have aE:=bk.out;simp only[pg]at aE;obtain⟨h1,h2,h3,h4,-⟩:=BP O.out;have aW:f.length<=8:=by
   rw[h1,iM,bg.out];omega
  have G:=aE.sl.len;obtain⟨N,rfl⟩:∃ k:Nat,va=(k:Int):=⟨va.toNat,by omega⟩;have ci:N<=6:=by omega
  have am:=U5 O.out;rw[jf]at am;have bz:=DU O.out;have ad:=Og O.out bi.out;have Z:∀ t∈f,Pl.RB 1000000 t.2:=fun t B=>(ad t B).mono (by omega);have cj:(pL (N:Int) a1 n1 c1).toArray=#[.int .i64 (N:Int),.slice a1 n1 c1]:=rfl;have aa:=aE.sl;have T:∀ t∈f,t.1.length<=12:=fun t B=>by have:=(am t B).1;omega
  clear h1 h2 aE bk bl aN bg bi;by_cases aY:n1=0
  · have aV:f=[]:=oX (by omega);have bV:Hid (primA (N:Int) ((some f).map A8)=((N:Int),wrU [],0)):=qh (by rw[aV];exact S0 _ ⟨h3,h4⟩);have an:=qh (Hw (vars:=(N:Int)) aa Z T (by omega));have bO:=qh aV;have bZ:((n1:Int) == 0)=true:=by simp[aY]
    clear aV am bz ad Z T aW G aa h3 h4 aY
    go_wp2_with fail
    refine an.out.mono ?_;rintro e w3 ⟨a3,n3,c3,rfl,a5,br⟩;have c7:C2 (N:Int) a3 n3 c3 = .agg #[.int .i64 (N:Int),.slice a3 n3 c3]:=rfl;rw[c7];have ce:(As (N:Int) a3 n3 c3).toArray=#[.int .i64 (N:Int),.slice a3 n3 c3]:=rfl;have bv:=hR.ext a5;clear an hR
    go_wp2_with(refine Aa (vs:=As (N:Int) a3 n3 c3) rfl rfl rfl rfl rfl An bv rfl (AB _ _ _ _) ?_;intro w9 ah S)
    refine oM (Ar rfl An rfl rfl ah) rfl ?_;have b1:=HR.out.symm.trans bV.out;subst b1;rw[bO.out]at br;exact⟨a3,n3,c3,rfl,(af.out.trans a5).grownR S (by omega),(br.mono af.out.size).keptU bv (by decide) (by decide) S⟩
  have bZ:((n1:Int) == 0)=false:=by simp;omega
  have ag:0<n1:=by omega
  have hz:∀ t∈A8 f,t.2≠0:=(BW (show rdP (N:Int) ta=some (A8 f) by rw[Ju,O.out];rfl)).nz;have aZ:A8 f≠[]:=by
   intro e;have:=gR List.length e;rw[Js]at this;simp at this;rw[this]at G;simp at G;omega
  have F:Dy f=Pl.cont (A8 f):=by rw[<-Ld hz,Nt]
  have aJ:0<Pl.cont (A8 f):=Pl.cont_pos aZ hz;have bB:∀ k,Pl.RB 1000000 (Dy (f.take k)):=fun k=>(IG (b:=48) (f.take k) (c:=1) (Pl.RB.zero (by omega)) (fun t B=>ad t (iZ B))).mono (by rw[gO];omega);have X:Pl.RB 500 (Dy f):=(IG (b:=48) f (c:=1) (Pl.RB.zero (by omega)) ad).mono (by omega);have aC:=qh (GJ (va:=(N:Int)) aa (by omega) bB Z);rw[F]at aC X;have aR:Pl.cont (A8 f)≠0:=fun e=>by rw[e]at aJ;exact absurd aJ (by decide)
  have a2:Hid (primF (A8 f)=if(f.getD 0 tz).2.num<0 then -(Pl.cont (A8 f))⁻¹ else(Pl.cont (A8 f))⁻¹):=qh (by
   have e1:((A8 f).getD 0 ([],0)).2=(f.getD 0 tz).2:=by
    cases f with
    | nil=>exact absurd rfl aZ
    | cons t r=>rfl
   unfold primF;rw[e1,Js];by_cases hs:(f.getD 0 tz).2.num<0
   · rw[pq ⟨by omega,hs⟩,pq hs]
   · rw[pf (fun h=>hs h.2),pf hs])
  have aG:Hid (primF (A8 f)≠0->∀ J,Pl.Canon N J->(∀ x,Pl.coef J x=Pl.coef ([] ++ Pl.scl (primF (A8 f)) f) x)->r.1=(N:Int)/\r.2.1=wrU J/\r.2.2=0):=qh (fun h5 J h6 h7=>by
   have h8:=HR.out.symm.trans (SZ O.out h5 h6 h7);rw[h8]
   exact⟨rfl,rfl,rfl⟩)
  obtain⟨a4,ae,cd,s1,f1,m1,d1,g1,j1,h1,cg,ck,ch,rfl,ai,s,bh,bF,bC,ao⟩:=aa.row ag;have av:U.cell? ⟨a4,ae+0*5,none⟩=some (.bool s1):=by have:=ai.cl ag (j:=0) (by omega);rw[s]at this;exact this
  have aw:U.cell? ⟨a4,ae+0*5+1,none⟩=some (.slice f1 m1 d1):=by have:=ai.cl ag (j:=1) (by omega);rw[s]at this;exact this
  have ax:U.cell? ⟨a4,ae+0*5+2,none⟩=some (.bool false):=by have:=ai.cl ag (j:=2) (by omega);rw[s]at this;exact this
  have ay:U.cell? ⟨a4,ae+0*5+3,none⟩=some (.slice g1 j1 h1):=by have:=ai.cl ag (j:=3) (by omega);rw[s]at this;exact this
  rw[pw,gP]at av aw ax ay;obtain⟨sg,aL⟩:∃ sg,(f.getD 0 tz).2.num.sign=sg:=⟨_,rfl⟩;have bI:=qh (fun(g:World) (i:Ext U g)=>Fl (v := .agg #[.bool s1,.slice f1 m1 d1,.bool false,.slice g1 j1 h1]) ⟨s1,f1,m1,d1,g1,j1,h1,rfl,bh,bF.ext i,bC.ext i⟩ aL)
  have bj:Hid (sg<0<->(f.getD 0 tz).2.num<0):=qh (by
   rw[<-aL];rcases Int.lt_trichotomy (f.getD 0 tz).2.num 0 with h|h|h
   · rw[jX h];exact⟨fun _=>h,fun _=>by decide⟩
   · rw[h];exact⟨fun h=>h,fun h=>h⟩
   · rw[jI h]
     exact⟨fun h2=>absurd h2 (by decide),fun h2=>absurd h (by omega)⟩)
  obtain⟨M,bo⟩:∃ M,Pl.cont (A8 f)=M:=⟨_,rfl⟩;rw[bo]at aC X aR a2;obtain⟨V,bt⟩:∃ V,primF (A8 f)=V:=⟨_,rfl⟩;rw[bt]at a2 aG;have bT:=qh aa;have bS:=qh am;have bc:=qh ad;have aq:=qh X;have aM:=qh aR;have bf:=qh aW;have bP:=qh G;clear hz aZ F aJ bB bo bt ai s bh bF bC ao aL aY aa am bz ad X aR aW G Z T h3 h4
  go_wp2_with fail
  refine aC.out.mono ?_;rintro e w3 ⟨s3,x3,m3,d3,y3,g3,h3,rfl,a5,i3,I,k3⟩;have hY:=Arr.new w3 99 (Ah false none 0 0 false none 0 0);have c2:(Ah s3 x3 m3 d3 false y3 g3 h3).toArray=#[.bool s3,.slice x3 m3 d3,.bool false,.slice y3 g3 h3]:=rfl;clear aC
  go_upto_region 7 with(refine Aa (vs:=Ah s3 x3 m3 d3 false y3 g3 h3) rfl rfl rfl rfl rfl AE hY rfl (Ag _ _ _ _ _ _ _ _) ?_;intro w4 P bD)
  have az:Ext w3 w4:=((Ext.refl w3).alloc _).grownR bD (lrf _);have m:=a5.trans az;have A:QBx w4 w3.heap.size M:=⟨s3,x3,m3,d3,y3,g3,h3,P,i3,I.ext az,k3.ext az⟩;obtain⟨Y3,ab⟩:∃ x,w3.heap.size=x:=⟨_,rfl⟩;rw[ab]at A P |-;have bm:Hid (U.heap.size<=Y3):=qh (by rw[<-ab];exact a5.size);have R:=hR.ext m;replace K:=m.cell K;replace L:=m.cell L;replace av:=m.cell av;replace aw:=m.cell aw;replace ax:=m.cell ax;replace ay:=m.cell ay;have t0:=P.c 0 rfl;have t1:=P.c 1 rfl;have t2:=P.c 2 rfl;have t3:=P.c 3 rfl
  clear hY c2 bD P ab az i3 I k3 a5 hR
  go_wp2_with fail
  refine(bI.out _ m).mono ?_;rintro e w5 ⟨rfl,a7⟩;replace m:=m.trans a7;replace A:=A.ext a7;replace R:=R.ext a7;replace K:=a7.cell K;replace L:=a7.cell L;clear a7 bI av aw ax ay t0 t1 t2 t3;by_cases Y:sg<0;rotate_left
  case' neg =>
   have al:((1:Int):Rat)/M=V:=by rw[a2.out,pf (fun h=>Y (bj.out.2 h)),PW]
   have ak:M.num≠0:=fun h=>aM.out (Pl.rat_num_den_zero.1 h);have aj:Pl.RB 1000000 M:=aq.out.mono (by omega);have a0:=qh (And.intro al (And.intro ak aj));obtain⟨cc,F⟩:∃ cc,M=cc:=⟨_,rfl⟩;rw[F]at a0 A;obtain⟨wy,b4⟩:∃ wy,w5=wy:=⟨_,rfl⟩;clear al ak aj F
   go_upto_region 9 with(fail)
   rw[b4]at m R K L A
   try rw[b4]
   clear b4 Y
  case' pos =>
   obtain⟨s3,x3,m3,d3,y3,g3,h3,p,i3,I,k3⟩:=A;have t0:=p.c 0 rfl;have t1:=p.c 1 rfl;have t2:=p.c 2 rfl;have t3:=p.c 3 rfl;have bG:=qh (fun(g:World) (i:Ext w5 g)=>S3 (v := .agg #[.bool s3,.slice x3 m3 d3,.bool false,.slice y3 g3 h3]) (q:=M) ⟨s3,x3,m3,d3,y3,g3,h3,rfl,i3,I.ext i,k3.ext i⟩);have al:((1:Int):Rat)/(-M)=V:=by rw[a2.out,pq (bj.out.1 Y),S2]
   have ak:(-M).num≠0:=fun h=>aM.out (Pl.rat_num_den_zero.1 (by rw[Rat.neg_num]at h;omega));have aj:Pl.RB 1000000 (-M):=⟨by rw[Rat.neg_num,ki];exact Aj aq.out.1 (by omega),by rw[Rat.neg_den];exact Aj aq.out.2 (by omega)⟩;have a0:=qh (And.intro al (And.intro ak aj));clear al ak aj i3 I k3
   go_wp2_with fail
   refine(bG.out _ (Ext.refl _)).mono ?_;rintro e w6 ⟨s6,x6,m6,d6,y6,g6,h6,rfl,a8,i6,j6,k6⟩;have aP:=p.ext a8;have c4:(Ah s6 x6 m6 d6 false y6 g6 h6).toArray=#[.bool s6,.slice x6 m6 d6,.bool false,.slice y6 g6 h6]:=rfl;clear bG p t0 t1 t2 t3
   go_upto_region 9 with(refine Aa (vs:=Ah s6 x6 m6 d6 false y6 g6 h6) rfl rfl rfl rfl rfl AE aP rfl (Ag _ _ _ _ _ _ _ _) ?_;intro wy p ac)
   have A:QBx wy Y3 (-M):=QBx.put aP ac p i6 j6 k6;have bL:=bm.out;obtain⟨ca,bY,bN⟩:=bU.out;replace R:=(R.ext a8).kept ac (by intro e;injection e;omega);replace K:=ac.cell (a8.cell K) (by simp;omega);replace L:=ac.cell (a8.cell L) (by simp;omega);replace m:=(m.trans a8).grownR ac bm.out;obtain⟨cc,F⟩:∃ cc,-M=cc:=⟨_,rfl⟩;rw[F]at a0 A;clear p aP c4 ac i6 j6 k6 a8 F bL ca bN bY Y
  all_goals
   obtain⟨s3,x3,m3,d3,y3,g3,h3,p,i3,I,k3⟩:=A;have t0:=p.c 0 rfl;have t1:=p.c 1 rfl;have t2:=p.c 2 rfl;have t3:=p.c 3 rfl;have aS:=qh (fun(g:World) (i:Ext wy g) (v':Value) (hv:QV g v' ((1:Int):Rat))=>Q7 hv (v' := .agg #[.bool s3,.slice x3 m3 d3,.bool false,.slice y3 g3 h3]) (q:=cc) ⟨s3,x3,m3,d3,y3,g3,h3,rfl,i3,I.ext i,k3.ext i⟩ ⟨Dr (by omega),Dr (by omega)⟩ a0.out.2.2 a0.out.2.1);rw[a0.out.1]at aS;have ar:=qh (af.out.trans m);have aH:Pl.RB 500 V:=by
    rw[a2.out];have h5:=RB.inv aq.out (by omega);split
    · exact⟨by rw[Rat.neg_num,ki];exact h5.1,by rw[Rat.neg_den];exact h5.2⟩
    · exact h5
   have W:V≠0:=by
    have h5:M⁻¹≠0:=fun e=>aM.out (by rw[<-Rat.inv_inv M,e,Rat.inv_zero]);rw[a2.out];split
    · exact fun e=>h5 (by grind)
    · exact h5
   have b3:∀ t∈[] ++ Pl.scl V f,Pl.RB 600 t.2:=fun t B=>by
    rw[iA]at B;obtain⟨u,hu,rfl⟩:=gT.1 B;exact(Pl.RB.mul aH (bc.out u hu)).mono (by omega)
   have bM:([] ++ Pl.scl V f).length<=8:=by
    rw[iA];show(List.map _ f).length<=8;rw[iM];exact bf.out
   have bH:=qh (fun(g:World) (i:Ext wy g) (v':Value) (hv:QV g v' V)=>Oi (N:=N) (b0:=w.heap.size) (va:=(N:Int)) (vb:=(N:Int)) (by omega) (TSl.nil g w.heap.size) hv (bT.out.ext (m.trans i)) (by intro t B;cases B) bS.out (oS ar.out.size i.size) (by omega) (by have:=bf.out;have:=bP.out;omega) (aH.mono (by omega)) (fun t B=>(bc.out t B).mono (by omega)) (Pl.SubOK.of_rb (b:=600) (by omega) b3 (by omega)))
   have an:=qh (fun(g:World) (D:Option Addr) (C E:Nat) (J:List Pl.Tm) (hO:TO g w.heap.size w.heap.size D C E J) (H:C<=([] ++ Pl.scl V f).length) (hcan:Pl.Canon N J) (hco:∀ x,Pl.coef J x=Pl.coef ([] ++ Pl.scl V f) x)=>Hw (vars:=(N:Int)) hO.sl (fun t B=>by
    have h1:=Pl.coef_canon hcan B;rw[<-h1,hco]
    exact(Pl.RB.coef (by omega) t.1 b3).mono (by omega)) (fun t B=>by have:=hcan.len t B;omega) (by omega))
   have bK:=qh (aG.out W)
   have bR:Hid (r.1=(N:Int)/\r.2.2=0):=qh (by
    have h1:=DU O.out;rw[jf]at h1;have h2:=aG.out W (Pl.scl V f) (Le h1 W) (fun x=>rfl)
    exact⟨h2.1,h2.2.2⟩)
   clear aH W b3 bM m i3 I k3;have au:=fun(g:World) (i:Ext wy g)=>qh (And.intro (i.cell K) (And.intro (i.cell L) (And.intro (i.cell t0) (And.intro (i.cell t1) (And.intro (i.cell t2) (i.cell t3))))))
   refine Ac
    [hdP Y1 0,hdI N,hp (fun v _=>v = .agg #[.int .i64 (N:Int),.slice none 0 0]),hp (fun v g=>QV g v ((1:Int):Rat)),he (.agg #[.bool s3,.slice x3 m3 d3,.bool false,.slice y3 g3 h3]),hp (fun v g=>QV g v V),he (.agg #[.int .i64 (N:Int),.slice (some ⟨a4,ae,none⟩) n1 c1]),hp (fun v g=>NSp w.heap.size w.heap.size N ([] ++ Pl.scl V f) v g),hp (fun v g=>∃ D C E,v = .agg #[.int .i64 (N:Int),.slice D C E]/\TmO g w.heap.size D C E r.2.1)]
    ⟨fun v w w' e h=>h,fun v w w' e h=>QV.ext h e,fun v w w' e h=>QV.ext h e,NSp.x _ _ _ _,fun v w w' e h=>by obtain⟨D,C,E,h1,h2⟩:=h;exact⟨D,C,E,h1,h2.ext e⟩,trivial⟩ ⟨?o0,?o1,?o2,?o3,?o4,?o5,?o6,?o7,?o8,trivial⟩ ?fin
   case o0=>exact ofa (d:=0)
   case o1=>exact ol
   case o4=>exact ol4
   case o6=>exact ol2
   case o2 =>
    refine AR rfl fun ρ g _ i h => ?_;have e0:_=_:=h.1;refine⟨.agg #[.int .i64 (N:Int),.slice none 0 0],g,?_,Ext.refl _,rfl⟩;simp only[execOp,jo,iz,jg,e0];kernel_rfl
   case o3 =>
    refine Ae rfl fun ρ g i aI aT h => ?_;obtain⟨b9,ba,b5,b6,b7,b8⟩:=(au g i).out;refine⟨118,#[.int .i64 1],by go_simp,(Ug (z:=1) (by omega)).mono ?_⟩;rintro e w' ⟨s',D,C,E,b',m',d',rfl,Q,b2,H,aX⟩;exact⟨_,rfl,Q,s',D,C,E,b',m',d',rfl,b2,H,aX⟩
   case o5 =>
    refine Ae rfl fun ρ g i aI aT h => ?_;obtain⟨v1,e1,i1⟩:=h.2.1;have e2:_=_:=h.2.2.1;obtain⟨b9,ba,b5,b6,b7,b8⟩:=(au g i).out;refine⟨117,#[v1,.agg #[.bool s3,.slice x3 m3 d3,.bool false,.slice y3 g3 h3]],by go_simp,(aS.out g i v1 i1).mono ?_⟩;rintro e w' ⟨s',D,C,E,b',m',d',rfl,Q,b2,H,aX⟩;exact⟨_,rfl,Q,s',D,C,E,b',m',d',rfl,b2,H,aX⟩
   case o7 =>
    refine Ae rfl fun ρ g i aI aT h => ?_;obtain⟨v1,e1,rfl⟩:=h.2.1;obtain⟨v2,e2,i2⟩:=h.2.2.1;have e3:_=_:=h.2.2.2.1;obtain⟨b9,ba,b5,b6,b7,b8⟩:=(au g i).out;refine⟨119,#[.agg #[.int .i64 (N:Int),.slice none 0 0],v2,.agg #[.int .i64 (N:Int),.slice (some ⟨a4,ae,none⟩) n1 c1]],by go_simp,(bH.out g i v2 i2).mono ?_⟩;rintro e w' ⟨D,C,E,ap,rfl,Q,aQ,H,aB,aD⟩;exact⟨_,rfl,Q,D,C,E,ap,rfl,aQ.mono (ar.out.trans i).size,H,aB,aD⟩
   case o8 =>
    refine Ae rfl fun ρ g i aI aT h => ?_;obtain⟨v1,e1,i1⟩:=h.2.1;obtain⟨b9,ba,b5,b6,b7,b8⟩:=(au g i).out;obtain⟨D,C,E,ap,rfl,aQ,H,aB,aD⟩:=i1;have bE:(pL (N:Int) D C E).toArray=#[.int .i64 (N:Int),.slice D C E]:=rfl;have bA:=an.out g D C E ap aQ H aB aD;rw[bE]at bA;refine⟨76,#[.agg #[.int .i64 (N:Int),.slice D C E]],by rw[bE]at e1;go_simp,bA.mono ?_⟩;rintro e w' ⟨a9,n9,c9,rfl,Q,bs⟩;rw[<-(bK.out ap aB aD).2.1]at bs;exact⟨_,rfl,Q,a9,n9,c9,rfl,bs.mono (ar.out.trans i).size⟩
   case fin =>
    intro g i;rintro _ rfl;rintro _ _;rintro _ _;rintro _ _;rintro _ ⟨a6,n6,c6,rfl,bX⟩;change wpList _ _ _ _ _ _;simp only[A0];have bw:=R.ext i;have bW:=ar.out.trans i;have cf:(As (N:Int) a6 n6 c6).toArray=#[.int .i64 (N:Int),.slice a6 n6 c6]:=rfl;clear aS bH an R
    go_wp2_with(refine Aa (vs:=As (N:Int) a6 n6 c6) rfl rfl rfl rfl rfl An bw rfl (AB _ _ _ _) ?_;intro w9 ah S)
    refine oM (Ar rfl An rfl rfl ah) rfl ?_;obtain⟨e1,e2⟩:=bR.out;unfold DP;rw[e1,e2];exact⟨a6,n6,c6,rfl,bW.grownR S (by omega),bX.keptU bw (by decide) (by decide) S⟩
end Go.Proofs.YtlbmnokpiilfpaaGreatDoor
